/-
  Walks of chapters 37, 39 and 40. The steps are written by program (walk.py).
-/
import Derived.Test.YtaoondlakhocnaaX2
import Derived.Test.YtaoondlakhocnaaRM
set_option linter.unusedSimpArgs false
set_option linter.unusedVariables false
set_option maxHeartbeats 40000000
set_option maxRecDepth 4000
namespace Go.Proofs.Ytaoondlakhocnaa
open Go Go.Am

abbrev lc_same_nil (a b c d e f g h i : AV) : Env := [(0,a),(1,b),(4,c),(5,d),(10,e),(12,f),(13,g),(14,h),(24,i)]
theorem same_nil (lim : Nat) (H : Heap) :
    ACall sig lim 45 [nilS, nilS] H fun r H' => r = .v (.bool true) ∧ H' = H := by
 refine ACall_pure (fa := fa45) rfl rfl rfl rfl ?_
 have tr : ∀ a0 a1 : AV, env0 fa45.keep [a0, a1] = [(0,a0),(1,a1),(4,.any),(5,.any),(10,.any),(12,.any),(13,.any),(14,.any),(24,.any)] := fun a0 a1 => rfl
 refine W_to (tr _ _) ?_; clear tr
 refine at_seq rfl ?_
 refine rg rfl ?_
 refine Rq ?_
 have tr : ∀ a b c d e f g h i j : AV, let l := lc_same_nil a b c d e f g h i; trim ((4,j)::l) l = [(0,a),(1,b),(4,j),(5,d),(10,e),(12,f),(13,g),(14,h),(24,i)] := by intros; rfl
 refine R_nil (tr ..) ?_; clear tr
 refine then_n ?_
 refine at_seq rfl ?_
 refine at_seq rfl ?_
 refine rg rfl ?_
 refine Rq ?_
 refine Rq ?_
 refine Rq ?_
 refine Rq ?_
 refine Rq ?_
 have tr : ∀ a b c d e f g h i j k m n o : AV, let l := lc_same_nil a b c d e f g h i; trim ((10,o)::(9,n)::(8,m)::(7,k)::(6,j)::l) l = [(0,a),(1,b),(4,c),(5,d),(10,o),(12,f),(13,g),(14,h),(24,i)] := by intros; rfl
 refine R_nil (tr ..) ?_; clear tr
 refine then_n ?_
 refine cdd (fun h1 => ?_) (fun h1 => ?_)
 ·
  try simp only [decide_eq_true_eq, decide_eq_false_iff_not, Bool.not_eq_true', Bool.not_eq_false', beq_iff_eq, beq_eq_false_iff_ne, ne_eq] at h1
  first | omega | contradiction | exact absurd rfl (by assumption) | exact absurd trivial (by assumption)
 ·
  try simp only [decide_eq_true_eq, decide_eq_false_iff_not, Bool.not_eq_true', Bool.not_eq_false', beq_iff_eq, beq_eq_false_iff_ne, ne_eq] at h1
  refine at_skip rfl ?_
  refine then_n ?_
  refine at_seq rfl ?_
  refine at_seq rfl ?_
  refine rg rfl ?_
  refine Rq ?_
  refine Rq ?_
  refine Rq ?_
  have tr : ∀ a b c d e f g h i j k m : AV, let l := lc_same_nil a b c d e f g h i; trim ((13,m)::(12,k)::(11,j)::l) l = [(0,a),(1,b),(4,c),(5,d),(10,e),(12,k),(13,m),(14,h),(24,i)] := by intros; rfl
  refine R_nil (tr ..) ?_; clear tr
  refine then_n ?_
  refine at_block rfl ?_
  refine loop_n rfl (fun mm kv H' => ∃ u : Nat, ∃ x4 x5 x14 x24 : AV, (kv = [(4, x4), (5, x5), (13, AV.i u), (14, x14), (24, x24)]) ∧ (mm = 0) ∧ (H' = H) ∧ (u = 0)) ⟨0, _, _, _, _, rfl, rfl, rfl, by rfl⟩ (by rfl) ?_
  rintro mm kv H' ⟨u, x4, x5, x14, x24, rfl, rfl, rfl, hu⟩
  have tr : ∀ a b c d e f g h i j k m n o : AV, upd [(0,a),(1,b),(4,c),(5,d),(10,e),(12,f),(13,g),(14,h),(24,i)] [(4,j),(5,k),(13,m),(14,n),(24,o)] = [(0,a),(1,b),(4,j),(5,k),(10,e),(12,f),(13,m),(14,n),(24,o)] := by intros; rfl
  refine W_to (tr ..) ?_; clear tr
  refine at_seq rfl ?_
  refine rg rfl ?_
  refine Rq ?_
  have tr : ∀ a b c d e f g h i j : AV, let l := lc_same_nil a b c d e f g h i; trim ((14,j)::l) l = [(0,a),(1,b),(4,c),(5,d),(10,e),(12,f),(13,g),(14,j),(24,i)] := by intros; rfl
  refine R_nil (tr ..) ?_; clear tr
  refine then_n ?_
  refine at_seq rfl ?_
  refine cdd (fun h2 => ?_) (fun h2 => ?_)
  ·
   try simp only [decide_eq_true_eq, decide_eq_false_iff_not, Bool.not_eq_true', Bool.not_eq_false', beq_iff_eq, beq_eq_false_iff_ne, ne_eq] at h2
   exfalso; omega
  ·
   try simp only [decide_eq_true_eq, decide_eq_false_iff_not, Bool.not_eq_true', Bool.not_eq_false', beq_iff_eq, beq_eq_false_iff_ne, ne_eq] at h2
   refine at_exit rfl ?_
   refine then_x ?_
   refine then_x ?_
   refine blk_x ?_
   refine then_n ?_
   refine at_seq rfl ?_
   refine rg rfl ?_
   refine Rq ?_
   have tr : ∀ a b c d e f g h i j : AV, let l := lc_same_nil a b c d e f g h i; trim ((4,j)::l) l = [(0,a),(1,b),(4,j),(5,d),(10,e),(12,f),(13,g),(14,h),(24,i)] := by intros; rfl
   refine R_nil (tr ..) ?_; clear tr
   refine then_n ?_
   refine at_ret rfl ?_
   refine fpure ?_
   refine ⟨?_, rfl⟩
   rfl

abbrev lc_chk_nil (a b c d e f g h i j k m n o p q r s t : AV) : Env := [(0,a),(1,b),(2,c),(3,d),(4,e),(8,f),(9,g),(10,h),(11,i),(15,j),(34,k),(37,m),(38,n),(39,o),(40,p),(41,q),(45,r),(67,s),(73,t)]
theorem chk_nil (lim : Nat) (H : Heap) (rows : Tb) (per balls : Int) :
    ACall sig lim 38 [.agg [rowsAV rows], AV.i per, AV.i balls, nilS] H fun r H' => r = AV.i (chkS rows per balls []) ∧ H' = H := by
 refine ACall_pure (fa := fa38) rfl rfl rfl rfl ?_
 have tr : ∀ a0 a1 a2 a3 : AV, env0 fa38.keep [a0, a1, a2, a3] = [(0,a0),(1,a1),(2,a2),(3,a3),(4,.any),(8,.any),(9,.any),(10,.any),(11,.any),(15,.any),(34,.any),(37,.any),(38,.any),(39,.any),(40,.any),(41,.any),(45,.any),(67,.any),(73,.any)] := fun a0 a1 a2 a3 => rfl
 refine W_to (tr _ _ _ _) ?_; clear tr
 refine at_seq rfl ?_
 refine rg rfl ?_
 refine R_box rfl (by simp (disch := first | omega | (simp only [List.length_map, List.length_append, List.length_set, List.length_cons, List.length_nil]; omega)) only [go_sem, ↓reduceIte, Nat.reduceEqDiff, reduceCtorEq]; rfl) rfl rfl ?_
 refine Rq ?_
 have tr : ∀ a b c d e f g h i j k m n o p q r s t u v : AV, let l := lc_chk_nil a b c d e f g h i j k m n o p q r s t; trim ((8,v)::(4,u)::l) l = [(0,a),(1,b),(2,c),(3,d),(4,u),(8,v),(9,g),(10,h),(11,i),(15,j),(34,k),(37,m),(38,n),(39,o),(40,p),(41,q),(45,r),(67,s),(73,t)] := by intros; rfl
 refine R_nil (tr ..) ?_; clear tr
 refine then_n ?_
 refine at_seq rfl ?_
 refine at_seq rfl ?_
 refine rg rfl ?_
 refine Rq ?_
 refine Rcall ?_
 refine ACall_eq (check_ok _ _ _) ?_
 refine Rq ?_
 have tr : ∀ a b c d e f g h i j k m n o p q r s t u v w : AV, let l := lc_chk_nil a b c d e f g h i j k m n o p q r s t; trim ((9,w)::(13,v)::(12,u)::l) l = [(0,a),(1,b),(2,c),(3,d),(4,e),(8,f),(9,w),(10,h),(11,i),(15,j),(34,k),(37,m),(38,n),(39,o),(40,p),(41,q),(45,r),(67,s),(73,t)] := by intros; rfl
 refine R_nil (tr ..) ?_; clear tr
 refine then_n ?_
 refine at_seq rfl ?_
 refine rg rfl ?_
 refine Rq ?_
 refine Rq ?_
 have tr : ∀ a b c d e f g h i j k m n o p q r s t u v : AV, let l := lc_chk_nil a b c d e f g h i j k m n o p q r s t; trim ((15,v)::(14,u)::l) l = [(0,a),(1,b),(2,c),(3,d),(4,e),(8,f),(9,g),(10,h),(11,i),(15,v),(34,k),(37,m),(38,n),(39,o),(40,p),(41,q),(45,r),(67,s),(73,t)] := by intros; rfl
 refine R_nil (tr ..) ?_; clear tr
 refine then_n ?_
 refine cdd (fun h1 => ?_) (fun h1 => ?_)
 ·
  try simp only [decide_eq_true_eq, decide_eq_false_iff_not, Bool.not_eq_true', Bool.not_eq_false', beq_iff_eq, beq_eq_false_iff_ne, ne_eq] at h1
  refine at_seq rfl ?_
  refine rg rfl ?_
  refine Rq ?_
  refine Rq ?_
  have tr : ∀ a b c d e f g h i j k m n o p q r s t u v : AV, let l := lc_chk_nil a b c d e f g h i j k m n o p q r s t; trim ((8,v)::(16,u)::l) l = [(0,a),(1,b),(2,c),(3,d),(4,e),(8,v),(9,g),(10,h),(11,i),(15,j),(34,k),(37,m),(38,n),(39,o),(40,p),(41,q),(45,r),(67,s),(73,t)] := by intros; rfl
  refine R_nil (tr ..) ?_; clear tr
  refine then_n ?_
  refine at_ret rfl ?_
  refine then_r ?_
  refine fpure ?_
  refine ⟨?_, rfl⟩
  rw [chkS, if_pos (by assumption)]
 ·
  try simp only [decide_eq_true_eq, decide_eq_false_iff_not, Bool.not_eq_true', Bool.not_eq_false', beq_iff_eq, beq_eq_false_iff_ne, ne_eq] at h1
  refine at_skip rfl ?_
  refine then_n ?_
  refine at_seq rfl ?_
  refine at_seq rfl ?_
  refine rg rfl ?_
  refine Rq ?_
  refine Rq ?_
  refine Rq ?_
  refine Rp_split (fun h2 => ?_) (fun h2 => ?_)
  ·
   try simp only [decide_eq_true_eq, decide_eq_false_iff_not, Bool.not_eq_true', Bool.not_eq_false', beq_iff_eq, beq_eq_false_iff_ne, ne_eq] at h2
   refine Rn ?_
   refine Rn ?_
   refine Rq ?_
   refine Rq ?_
   refine Rn ?_
   refine Rn ?_
   refine Rq ?_
   refine Rq ?_
   refine Rn ?_
   refine Rn ?_
   refine Rn ?_
   refine Rn ?_
   refine Rn ?_
   refine Rn ?_
   refine Rq ?_
   have tr : ∀ a b c d e f g h i j k m n o p q r s t u v w x y z A B C D E F G H I J K L : AV, let l := lc_chk_nil a b c d e f g h i j k m n o p q r s t; trim ((34,L)::(33,K)::(32,J)::(31,I)::(30,H)::(29,G)::(28,F)::(27,E)::(26,D)::(25,C)::(24,B)::(23,A)::(22,z)::(21,y)::(20,x)::(19,w)::(18,v)::(17,u)::l) l = [(0,a),(1,b),(2,c),(3,d),(4,e),(8,f),(9,g),(10,h),(11,i),(15,j),(34,L),(37,m),(38,n),(39,o),(40,p),(41,q),(45,r),(67,s),(73,t)] := by intros; rfl
   refine R_nil (tr ..) ?_; clear tr
   refine then_n ?_
   refine cdt ?_
   refine at_seq rfl ?_
   refine rg rfl ?_
   refine Rq ?_
   have tr : ∀ a b c d e f g h i j k m n o p q r s t u : AV, let l := lc_chk_nil a b c d e f g h i j k m n o p q r s t; trim ((8,u)::l) l = [(0,a),(1,b),(2,c),(3,d),(4,e),(8,u),(9,g),(10,h),(11,i),(15,j),(34,k),(37,m),(38,n),(39,o),(40,p),(41,q),(45,r),(67,s),(73,t)] := by intros; rfl
   refine R_nil (tr ..) ?_; clear tr
   refine then_n ?_
   refine at_ret rfl ?_
   refine then_r ?_
   refine fpure ?_
   refine ⟨?_, rfl⟩
   rw [chkS, if_neg (by omega), if_pos (by unfold chkBad; omega)]
  ·
   try simp only [decide_eq_true_eq, decide_eq_false_iff_not, Bool.not_eq_true', Bool.not_eq_false', beq_iff_eq, beq_eq_false_iff_ne, ne_eq] at h2
   refine Ry ?_
   refine Rq ?_
   refine Ry ?_
   refine Rq ?_
   refine Rq ?_
   refine Rq ?_
   refine Rp_split (fun h3 => ?_) (fun h3 => ?_)
   ·
    try simp only [decide_eq_true_eq, decide_eq_false_iff_not, Bool.not_eq_true', Bool.not_eq_false', beq_iff_eq, beq_eq_false_iff_ne, ne_eq] at h3
    refine Rn ?_
    refine Rn ?_
    refine Rq ?_
    refine Rq ?_
    refine Rn ?_
    refine Rn ?_
    refine Rn ?_
    refine Rn ?_
    refine Rn ?_
    refine Rn ?_
    refine Rq ?_
    have tr : ∀ a b c d e f g h i j k m n o p q r s t u v w x y z A B C D E F G H I J K L : AV, let l := lc_chk_nil a b c d e f g h i j k m n o p q r s t; trim ((34,L)::(33,K)::(32,J)::(31,I)::(30,H)::(29,G)::(28,F)::(27,E)::(26,D)::(25,C)::(24,B)::(23,A)::(22,z)::(21,y)::(20,x)::(19,w)::(18,v)::(17,u)::l) l = [(0,a),(1,b),(2,c),(3,d),(4,e),(8,f),(9,g),(10,h),(11,i),(15,j),(34,L),(37,m),(38,n),(39,o),(40,p),(41,q),(45,r),(67,s),(73,t)] := by intros; rfl
    refine R_nil (tr ..) ?_; clear tr
    refine then_n ?_
    refine cdt ?_
    refine at_seq rfl ?_
    refine rg rfl ?_
    refine Rq ?_
    have tr : ∀ a b c d e f g h i j k m n o p q r s t u : AV, let l := lc_chk_nil a b c d e f g h i j k m n o p q r s t; trim ((8,u)::l) l = [(0,a),(1,b),(2,c),(3,d),(4,e),(8,u),(9,g),(10,h),(11,i),(15,j),(34,k),(37,m),(38,n),(39,o),(40,p),(41,q),(45,r),(67,s),(73,t)] := by intros; rfl
    refine R_nil (tr ..) ?_; clear tr
    refine then_n ?_
    refine at_ret rfl ?_
    refine then_r ?_
    refine fpure ?_
    refine ⟨?_, rfl⟩
    rw [chkS, if_neg (by omega), if_pos (by unfold chkBad; omega)]
   ·
    try simp only [decide_eq_true_eq, decide_eq_false_iff_not, Bool.not_eq_true', Bool.not_eq_false', beq_iff_eq, beq_eq_false_iff_ne, ne_eq] at h3
    refine Ry ?_
    refine Rq ?_
    refine Ry ?_
    refine Rq ?_
    refine Rq ?_
    refine Rq ?_
    refine Rp_split (fun h4 => ?_) (fun h4 => ?_)
    ·
     try simp only [decide_eq_true_eq, decide_eq_false_iff_not, Bool.not_eq_true', Bool.not_eq_false', beq_iff_eq, beq_eq_false_iff_ne, ne_eq] at h4
     refine Rn ?_
     refine Rn ?_
     refine Rn ?_
     refine Rn ?_
     refine Rn ?_
     refine Rn ?_
     refine Rq ?_
     have tr : ∀ a b c d e f g h i j k m n o p q r s t u v w x y z A B C D E F G H I J K L : AV, let l := lc_chk_nil a b c d e f g h i j k m n o p q r s t; trim ((34,L)::(33,K)::(32,J)::(31,I)::(30,H)::(29,G)::(28,F)::(27,E)::(26,D)::(25,C)::(24,B)::(23,A)::(22,z)::(21,y)::(20,x)::(19,w)::(18,v)::(17,u)::l) l = [(0,a),(1,b),(2,c),(3,d),(4,e),(8,f),(9,g),(10,h),(11,i),(15,j),(34,L),(37,m),(38,n),(39,o),(40,p),(41,q),(45,r),(67,s),(73,t)] := by intros; rfl
     refine R_nil (tr ..) ?_; clear tr
     refine then_n ?_
     refine cdt ?_
     refine at_seq rfl ?_
     refine rg rfl ?_
     refine Rq ?_
     have tr : ∀ a b c d e f g h i j k m n o p q r s t u : AV, let l := lc_chk_nil a b c d e f g h i j k m n o p q r s t; trim ((8,u)::l) l = [(0,a),(1,b),(2,c),(3,d),(4,e),(8,u),(9,g),(10,h),(11,i),(15,j),(34,k),(37,m),(38,n),(39,o),(40,p),(41,q),(45,r),(67,s),(73,t)] := by intros; rfl
     refine R_nil (tr ..) ?_; clear tr
     refine then_n ?_
     refine at_ret rfl ?_
     refine then_r ?_
     refine fpure ?_
     refine ⟨?_, rfl⟩
     rw [chkS, if_neg (by omega), if_pos (by unfold chkBad; omega)]
    ·
     try simp only [decide_eq_true_eq, decide_eq_false_iff_not, Bool.not_eq_true', Bool.not_eq_false', beq_iff_eq, beq_eq_false_iff_ne, ne_eq] at h4
     refine Ry ?_
     refine Rq ?_
     refine Ry ?_
     refine Rq ?_
     refine Ry ?_
     refine Rcall ?_
     have s := check_shaped (by assumption : checkS rows = 0)
     have g2 := s.two
     have g91 := s.most
     refine ACall_eq (overs_ok _ _ rows g91 g2) ?_
     have hpm := mul_box (a := (rows.length : Int) - 1) (b := per) (A := 90) (B := 8) (by omega) (by omega) (by omega) (by omega)
     refine Ry ?_
     refine Rq ?_
     refine Ry ?_
     refine Rq ?_
     refine Ry ?_
     refine Rq ?_
     refine Rq ?_
     have tr : ∀ a b c d e f g h i j k m n o p q r s t u v w x y z A B C D E F G H I J K L : AV, let l := lc_chk_nil a b c d e f g h i j k m n o p q r s t; trim ((34,L)::(33,K)::(32,J)::(31,I)::(30,H)::(29,G)::(28,F)::(27,E)::(26,D)::(25,C)::(24,B)::(23,A)::(22,z)::(21,y)::(20,x)::(19,w)::(18,v)::(17,u)::l) l = [(0,a),(1,b),(2,c),(3,d),(4,e),(8,f),(9,g),(10,h),(11,i),(15,j),(34,L),(37,m),(38,n),(39,o),(40,p),(41,q),(45,r),(67,s),(73,t)] := by intros; rfl
     refine R_nil (tr ..) ?_; clear tr
     refine then_n ?_
     refine cdd (fun h5 => ?_) (fun h5 => ?_)
     ·
      try simp only [decide_eq_true_eq, decide_eq_false_iff_not, Bool.not_eq_true', Bool.not_eq_false', beq_iff_eq, beq_eq_false_iff_ne, ne_eq] at h5
      refine at_seq rfl ?_
      refine rg rfl ?_
      refine Rq ?_
      have tr : ∀ a b c d e f g h i j k m n o p q r s t u : AV, let l := lc_chk_nil a b c d e f g h i j k m n o p q r s t; trim ((8,u)::l) l = [(0,a),(1,b),(2,c),(3,d),(4,e),(8,u),(9,g),(10,h),(11,i),(15,j),(34,k),(37,m),(38,n),(39,o),(40,p),(41,q),(45,r),(67,s),(73,t)] := by intros; rfl
      refine R_nil (tr ..) ?_; clear tr
      refine then_n ?_
      refine at_ret rfl ?_
      refine then_r ?_
      refine fpure ?_
      refine ⟨?_, rfl⟩
      rw [chkS, if_neg (by omega), if_pos (by unfold chkBad; omega)]
     ·
      try simp only [decide_eq_true_eq, decide_eq_false_iff_not, Bool.not_eq_true', Bool.not_eq_false', beq_iff_eq, beq_eq_false_iff_ne, ne_eq] at h5
      refine at_skip rfl ?_
      refine then_n ?_
      refine at_seq rfl ?_
      refine at_seq rfl ?_
      refine rg rfl ?_
      refine Rq ?_
      refine Rq ?_
      refine Rq ?_
      have tr : ∀ a b c d e f g h i j k m n o p q r s t u v w : AV, let l := lc_chk_nil a b c d e f g h i j k m n o p q r s t; trim ((37,w)::(36,v)::(35,u)::l) l = [(0,a),(1,b),(2,c),(3,d),(4,e),(8,f),(9,g),(10,h),(11,i),(15,j),(34,k),(37,w),(38,n),(39,o),(40,p),(41,q),(45,r),(67,s),(73,t)] := by intros; rfl
      refine R_nil (tr ..) ?_; clear tr
      refine then_n ?_
      refine cdd (fun h6 => ?_) (fun h6 => ?_)
      ·
       try simp only [decide_eq_true_eq, decide_eq_false_iff_not, Bool.not_eq_true', Bool.not_eq_false', beq_iff_eq, beq_eq_false_iff_ne, ne_eq] at h6
       refine at_seq rfl ?_
       refine rg rfl ?_
       refine Rq ?_
       have tr : ∀ a b c d e f g h i j k m n o p q r s t u : AV, let l := lc_chk_nil a b c d e f g h i j k m n o p q r s t; trim ((8,u)::l) l = [(0,a),(1,b),(2,c),(3,d),(4,e),(8,u),(9,g),(10,h),(11,i),(15,j),(34,k),(37,m),(38,n),(39,o),(40,p),(41,q),(45,r),(67,s),(73,t)] := by intros; rfl
       refine R_nil (tr ..) ?_; clear tr
       refine then_n ?_
       refine at_ret rfl ?_
       refine then_r ?_
       exfalso; omega
      ·
       try simp only [decide_eq_true_eq, decide_eq_false_iff_not, Bool.not_eq_true', Bool.not_eq_false', beq_iff_eq, beq_eq_false_iff_ne, ne_eq] at h6
       refine at_skip rfl ?_
       refine then_n ?_
       refine at_seq rfl ?_
       refine at_seq rfl ?_
       refine rg rfl ?_
       refine Rq ?_
       refine Rq ?_
       refine Rq ?_
       have tr : ∀ a b c d e f g h i j k m n o p q r s t u v w : AV, let l := lc_chk_nil a b c d e f g h i j k m n o p q r s t; trim ((40,w)::(39,v)::(38,u)::l) l = [(0,a),(1,b),(2,c),(3,d),(4,e),(8,f),(9,g),(10,h),(11,i),(15,j),(34,k),(37,m),(38,u),(39,v),(40,w),(41,q),(45,r),(67,s),(73,t)] := by intros; rfl
       refine R_nil (tr ..) ?_; clear tr
       refine then_n ?_
       refine at_block rfl ?_
       refine loop_n rfl (fun mm kv H' => ∃ u : Nat, ∃ x8 x10 x11 x41 x45 x67 x73 : AV, (kv = [(8, x8), (10, x10), (11, x11), (40, AV.i u), (41, x41), (45, x45), (67, x67), (73, x73)]) ∧ (mm = 0) ∧ (H' = H ++ [some [rowsAV rows]]) ∧ (u = 0)) ⟨0, _, _, _, _, _, _, _, rfl, rfl, rfl, by rfl⟩ (by rfl) ?_
       rintro mm kv H' ⟨u, x8, x10, x11, x41, x45, x67, x73, rfl, rfl, rfl, hu⟩
       have tr : ∀ a b c d e f g h i j k m n o p q r s t u v w x y z A B : AV, upd [(0,a),(1,b),(2,c),(3,d),(4,e),(8,f),(9,g),(10,h),(11,i),(15,j),(34,k),(37,m),(38,n),(39,o),(40,p),(41,q),(45,r),(67,s),(73,t)] [(8,u),(10,v),(11,w),(40,x),(41,y),(45,z),(67,A),(73,B)] = [(0,a),(1,b),(2,c),(3,d),(4,e),(8,u),(9,g),(10,v),(11,w),(15,j),(34,k),(37,m),(38,n),(39,o),(40,x),(41,y),(45,z),(67,A),(73,B)] := by intros; rfl
       refine W_to (tr ..) ?_; clear tr
       refine at_seq rfl ?_
       refine rg rfl ?_
       refine Rq ?_
       have tr : ∀ a b c d e f g h i j k m n o p q r s t u : AV, let l := lc_chk_nil a b c d e f g h i j k m n o p q r s t; trim ((41,u)::l) l = [(0,a),(1,b),(2,c),(3,d),(4,e),(8,f),(9,g),(10,h),(11,i),(15,j),(34,k),(37,m),(38,n),(39,o),(40,p),(41,u),(45,r),(67,s),(73,t)] := by intros; rfl
       refine R_nil (tr ..) ?_; clear tr
       refine then_n ?_
       refine at_seq rfl ?_
       refine cdd (fun h7 => ?_) (fun h7 => ?_)
       ·
        try simp only [decide_eq_true_eq, decide_eq_false_iff_not, Bool.not_eq_true', Bool.not_eq_false', beq_iff_eq, beq_eq_false_iff_ne, ne_eq] at h7
        exfalso; omega
       ·
        try simp only [decide_eq_true_eq, decide_eq_false_iff_not, Bool.not_eq_true', Bool.not_eq_false', beq_iff_eq, beq_eq_false_iff_ne, ne_eq] at h7
        refine at_exit rfl ?_
        refine then_x ?_
        refine then_x ?_
        refine blk_x ?_
        refine then_n ?_
        refine at_seq rfl ?_
        refine rg rfl ?_
        refine Rq ?_
        have tr : ∀ a b c d e f g h i j k m n o p q r s t u : AV, let l := lc_chk_nil a b c d e f g h i j k m n o p q r s t; trim ((8,u)::l) l = [(0,a),(1,b),(2,c),(3,d),(4,e),(8,u),(9,g),(10,h),(11,i),(15,j),(34,k),(37,m),(38,n),(39,o),(40,p),(41,q),(45,r),(67,s),(73,t)] := by intros; rfl
        refine R_nil (tr ..) ?_; clear tr
        refine then_n ?_
        refine at_ret rfl ?_
        refine fpure ?_
        refine ⟨?_, rfl⟩
        rw [chkS, if_neg (by omega), if_neg (by unfold chkBad; omega), if_neg (by simp)]
        rfl

abbrev lc_left_nil (a b c d e f g h i j k m n o p q r s t u : AV) : Env := [(0,a),(1,b),(2,c),(3,d),(4,e),(8,f),(9,g),(10,h),(11,i),(12,j),(14,k),(15,m),(16,n),(23,o),(33,p),(35,q),(36,r),(37,s),(38,t),(49,u)]
theorem left_nil (lim : Nat) (H : Heap) (rows : Tb) (per balls : Int) :
    ACall sig lim 36 [.agg [rowsAV rows], AV.i per, AV.i balls, nilS] H fun r H' => r = .tup [AV.i (leftS rows per balls []).1, AV.i (leftS rows per balls []).2] ∧ H' = H := by
 have hargs : [AV.agg [rowsAV rows], AV.i per, AV.i balls, nilS].map (frz H 0 8) = [.agg [rowsAV rows], AV.i per, AV.i balls, nilS] := by
   show [AV.agg [frz H 0 7 (rowsAV rows)], AV.i per, AV.i balls, nilS] = _
   rw [frz_rows]
 refine ACall_data (fa := fa36) rfl rfl rfl rfl hargs ?_
 have tr : ∀ a0 a1 a2 a3 : AV, env0 fa36.keep [a0, a1, a2, a3] = [(0,a0),(1,a1),(2,a2),(3,a3),(4,.any),(8,.any),(9,.any),(10,.any),(11,.any),(12,.any),(14,.any),(15,.any),(16,.any),(23,.any),(33,.any),(35,.any),(36,.any),(37,.any),(38,.any),(49,.any)] := fun a0 a1 a2 a3 => rfl
 refine W_to (tr _ _ _ _) ?_; clear tr
 refine at_seq rfl ?_
 refine rg rfl ?_
 refine R_box rfl (by simp (disch := first | omega | (simp only [List.length_map, List.length_append, List.length_set, List.length_cons, List.length_nil]; omega)) only [go_sem, ↓reduceIte, Nat.reduceEqDiff, reduceCtorEq]; rfl) rfl rfl ?_
 refine Rq ?_
 refine Rq ?_
 have tr : ∀ a b c d e f g h i j k m n o p q r s t u v w x : AV, let l := lc_left_nil a b c d e f g h i j k m n o p q r s t u; trim ((9,x)::(8,w)::(4,v)::l) l = [(0,a),(1,b),(2,c),(3,d),(4,v),(8,w),(9,x),(10,h),(11,i),(12,j),(14,k),(15,m),(16,n),(23,o),(33,p),(35,q),(36,r),(37,s),(38,t),(49,u)] := by intros; rfl
 refine R_nil (tr ..) ?_; clear tr
 refine then_n ?_
 refine at_seq rfl ?_
 refine at_seq rfl ?_
 refine rg rfl ?_
 refine Rq ?_
 refine Rq ?_
 refine Rq ?_
 refine Rq ?_
 refine Rcall ?_
 refine ACall_eq (chk_nil _ _ rows per balls) ?_
 refine Rq ?_
 have tr : ∀ a b c d e f g h i j k m n o p q r s t u v w x y z A : AV, let l := lc_left_nil a b c d e f g h i j k m n o p q r s t u; trim ((10,A)::(21,z)::(20,y)::(19,x)::(18,w)::(17,v)::l) l = [(0,a),(1,b),(2,c),(3,d),(4,e),(8,f),(9,g),(10,A),(11,i),(12,j),(14,k),(15,m),(16,n),(23,o),(33,p),(35,q),(36,r),(37,s),(38,t),(49,u)] := by intros; rfl
 refine R_nil (tr ..) ?_; clear tr
 refine then_n ?_
 refine at_seq rfl ?_
 refine rg rfl ?_
 refine Rq ?_
 refine Rq ?_
 have tr : ∀ a b c d e f g h i j k m n o p q r s t u v w : AV, let l := lc_left_nil a b c d e f g h i j k m n o p q r s t u; trim ((23,w)::(22,v)::l) l = [(0,a),(1,b),(2,c),(3,d),(4,e),(8,f),(9,g),(10,h),(11,i),(12,j),(14,k),(15,m),(16,n),(23,w),(33,p),(35,q),(36,r),(37,s),(38,t),(49,u)] := by intros; rfl
 refine R_nil (tr ..) ?_; clear tr
 refine then_n ?_
 refine cdd (fun h1 => ?_) (fun h1 => ?_)
 ·
  try simp only [decide_eq_true_eq, decide_eq_false_iff_not, Bool.not_eq_true', Bool.not_eq_false', beq_iff_eq, beq_eq_false_iff_ne, ne_eq] at h1
  refine at_seq rfl ?_
  refine rg rfl ?_
  refine Rq ?_
  refine Rq ?_
  refine Rq ?_
  have tr : ∀ a b c d e f g h i j k m n o p q r s t u v w x : AV, let l := lc_left_nil a b c d e f g h i j k m n o p q r s t u; trim ((9,x)::(8,w)::(24,v)::l) l = [(0,a),(1,b),(2,c),(3,d),(4,e),(8,w),(9,x),(10,h),(11,i),(12,j),(14,k),(15,m),(16,n),(23,o),(33,p),(35,q),(36,r),(37,s),(38,t),(49,u)] := by intros; rfl
  refine R_nil (tr ..) ?_; clear tr
  refine then_n ?_
  refine at_ret rfl ?_
  refine then_r ?_
  refine fpure ?_
  refine ⟨rfl, ?_, rfl⟩
  rw [leftS, if_pos (by assumption)]
 ·
  try simp only [decide_eq_true_eq, decide_eq_false_iff_not, Bool.not_eq_true', Bool.not_eq_false', beq_iff_eq, beq_eq_false_iff_ne, ne_eq] at h1
  refine at_skip rfl ?_
  refine then_n ?_
  refine at_seq rfl ?_
  refine rg rfl ?_
  have hk : chkS rows per balls [] = 0 := by assumption
  have c := chk_of hk
  have hat0 := c.at0
  have hatr := at_range (rows := rows) (per := per) (balls := balls) (w := 0)
  refine Rq ?_
  refine Rq ?_
  refine Rq ?_
  refine Rcall ?_
  refine ACall_eq (at_ok _ _ rows per balls 0) ?_
  refine Rq ?_
  refine Rq ?_
  refine Rq ?_
  refine Rq ?_
  refine Rq ?_
  have tr : ∀ a b c d e f g h i j k m n o p q r s t u v w x y z A B C D : AV, let l := lc_left_nil a b c d e f g h i j k m n o p q r s t u; trim ((12,D)::(11,C)::(31,B)::(30,A)::(25,z)::(29,y)::(28,x)::(27,w)::(26,v)::l) l = [(0,a),(1,b),(2,c),(3,d),(4,e),(8,f),(9,g),(10,h),(11,C),(12,D),(14,k),(15,m),(16,n),(23,o),(33,p),(35,q),(36,r),(37,s),(38,t),(49,u)] := by intros; rfl
  refine R_nil (tr ..) ?_; clear tr
  refine then_n ?_
  refine at_seq rfl ?_
  refine at_seq rfl ?_
  refine rg rfl ?_
  refine Rq ?_
  refine Rq ?_
  have tr : ∀ a b c d e f g h i j k m n o p q r s t u v w : AV, let l := lc_left_nil a b c d e f g h i j k m n o p q r s t u; trim ((33,w)::(32,v)::l) l = [(0,a),(1,b),(2,c),(3,d),(4,e),(8,f),(9,g),(10,h),(11,i),(12,j),(14,k),(15,m),(16,n),(23,o),(33,w),(35,q),(36,r),(37,s),(38,t),(49,u)] := by intros; rfl
  refine R_nil (tr ..) ?_; clear tr
  refine then_n ?_
  refine cdd (fun h2 => ?_) (fun h2 => ?_)
  ·
   try simp only [decide_eq_true_eq, decide_eq_false_iff_not, Bool.not_eq_true', Bool.not_eq_false', beq_iff_eq, beq_eq_false_iff_ne, ne_eq] at h2
   refine at_seq rfl ?_
   refine rg rfl ?_
   refine Rq ?_
   refine Rq ?_
   refine Rq ?_
   have tr : ∀ a b c d e f g h i j k m n o p q r s t u v w x : AV, let l := lc_left_nil a b c d e f g h i j k m n o p q r s t u; trim ((9,x)::(8,w)::(34,v)::l) l = [(0,a),(1,b),(2,c),(3,d),(4,e),(8,w),(9,x),(10,h),(11,i),(12,j),(14,k),(15,m),(16,n),(23,o),(33,p),(35,q),(36,r),(37,s),(38,t),(49,u)] := by intros; rfl
   refine R_nil (tr ..) ?_; clear tr
   refine then_n ?_
   refine at_ret rfl ?_
   refine then_r ?_
   exfalso; omega
  ·
   try simp only [decide_eq_true_eq, decide_eq_false_iff_not, Bool.not_eq_true', Bool.not_eq_false', beq_iff_eq, beq_eq_false_iff_ne, ne_eq] at h2
   refine at_skip rfl ?_
   refine then_n ?_
   refine at_seq rfl ?_
   refine at_seq rfl ?_
   refine rg rfl ?_
   refine Rq ?_
   refine Rq ?_
   refine Rq ?_
   have tr : ∀ a b c d e f g h i j k m n o p q r s t u v w x : AV, let l := lc_left_nil a b c d e f g h i j k m n o p q r s t u; trim ((37,x)::(36,w)::(35,v)::l) l = [(0,a),(1,b),(2,c),(3,d),(4,e),(8,f),(9,g),(10,h),(11,i),(12,j),(14,k),(15,m),(16,n),(23,o),(33,p),(35,v),(36,w),(37,x),(38,t),(49,u)] := by intros; rfl
   refine R_nil (tr ..) ?_; clear tr
   refine then_n ?_
   refine at_block rfl ?_
   refine loop_n rfl (fun mm kv H' => ∃ u : Nat, ∃ n : Int, ∃ x8 x9 x14 x15 x16 x38 x49 : AV, (kv = [(8, x8), (9, x9), (11, AV.i n), (14, x14), (15, x15), (16, x16), (37, AV.i u), (38, x38), (49, x49)]) ∧ (mm = 0) ∧ (H' = [] ++ [some [rowsAV rows]]) ∧ (u = 0) ∧ (n = (atS rows per balls 0).1)) ⟨0, (atS rows per balls 0).1, _, _, _, _, _, _, _, rfl, rfl, rfl, by rfl, by rfl⟩ (by rfl) ?_
   rintro mm kv H' ⟨u, n, x8, x9, x14, x15, x16, x38, x49, rfl, rfl, rfl, hu, hn⟩
   have tr : ∀ a b c d e f g h i j k m n o p q r s t u v w x y z A B C D : AV, upd [(0,a),(1,b),(2,c),(3,d),(4,e),(8,f),(9,g),(10,h),(11,i),(12,j),(14,k),(15,m),(16,n),(23,o),(33,p),(35,q),(36,r),(37,s),(38,t),(49,u)] [(8,v),(9,w),(11,x),(14,y),(15,z),(16,A),(37,B),(38,C),(49,D)] = [(0,a),(1,b),(2,c),(3,d),(4,e),(8,v),(9,w),(10,h),(11,x),(12,j),(14,y),(15,z),(16,A),(23,o),(33,p),(35,q),(36,r),(37,B),(38,C),(49,D)] := by intros; rfl
   refine W_to (tr ..) ?_; clear tr
   refine at_seq rfl ?_
   refine rg rfl ?_
   refine Rq ?_
   have tr : ∀ a b c d e f g h i j k m n o p q r s t u v : AV, let l := lc_left_nil a b c d e f g h i j k m n o p q r s t u; trim ((38,v)::l) l = [(0,a),(1,b),(2,c),(3,d),(4,e),(8,f),(9,g),(10,h),(11,i),(12,j),(14,k),(15,m),(16,n),(23,o),(33,p),(35,q),(36,r),(37,s),(38,v),(49,u)] := by intros; rfl
   refine R_nil (tr ..) ?_; clear tr
   refine then_n ?_
   refine at_seq rfl ?_
   refine cdd (fun h3 => ?_) (fun h3 => ?_)
   ·
    try simp only [decide_eq_true_eq, decide_eq_false_iff_not, Bool.not_eq_true', Bool.not_eq_false', beq_iff_eq, beq_eq_false_iff_ne, ne_eq] at h3
    exfalso; omega
   ·
    try simp only [decide_eq_true_eq, decide_eq_false_iff_not, Bool.not_eq_true', Bool.not_eq_false', beq_iff_eq, beq_eq_false_iff_ne, ne_eq] at h3
    refine at_exit rfl ?_
    refine then_x ?_
    refine then_x ?_
    refine blk_x ?_
    refine then_n ?_
    refine at_seq rfl ?_
    refine rg rfl ?_
    refine Rq ?_
    refine Rq ?_
    refine Rq ?_
    have tr : ∀ a b c d e f g h i j k m n o p q r s t u v w x : AV, let l := lc_left_nil a b c d e f g h i j k m n o p q r s t u; trim ((9,x)::(8,w)::(55,v)::l) l = [(0,a),(1,b),(2,c),(3,d),(4,e),(8,w),(9,x),(10,h),(11,i),(12,j),(14,k),(15,m),(16,n),(23,o),(33,p),(35,q),(36,r),(37,s),(38,t),(49,u)] := by intros; rfl
    refine R_nil (tr ..) ?_; clear tr
    refine then_n ?_
    refine at_ret rfl ?_
    refine fpure ?_
    refine ⟨rfl, ?_, rfl⟩
    rw [leftS, if_neg (fun hh => hh hk), hn]
    show AV.tup [AV.i ((atS rows per balls 0).1), _] = AV.tup [AV.i ((atS rows per balls 0).1 - 0), _]
    rw [Int.sub_zero]

end Go.Proofs.Ytaoondlakhocnaa
