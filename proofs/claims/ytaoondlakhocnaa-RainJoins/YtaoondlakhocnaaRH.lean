/-
  Walks of chapters 37, 39 and 40. The steps are written by program (walk.py).
-/
import Derived.Test.YtaoondlakhocnaaRF
import Derived.Test.YtaoondlakhocnaaRG
set_option linter.unusedSimpArgs false
set_option linter.unusedVariables false
set_option maxHeartbeats 40000000
set_option maxRecDepth 4000
namespace Go.Proofs.Ytaoondlakhocnaa
open Go Go.Am

theorem mul_box {a b A B : Int} (ha : 0 ≤ a) (hA : a ≤ A) (hb : 0 ≤ b) (hB : b ≤ B) : 0 ≤ a * b ∧ a * b ≤ A * B :=
  ⟨Int.mul_nonneg ha hb, Int.mul_le_mul hA hB hb (by omega)⟩
def cellI (rows : Tb) (u w : Int) : Int := gt (gt rows u.toNat) w.toNat
def atV (rows : Tb) (per balls w : Int) : Int :=
  cellI rows (balls / per) w * (per - balls % per) + (if 0 < balls % per then cellI rows (balls / per + 1) w * (balls % per) else 0)
def atBad (rows : Tb) (per balls w : Int) : Prop := per < 1 ∨ 8 < per ∨ balls < 0 ∨ ((rows.length : Int) - 1) * per < balls ∨ w < 0 ∨ (gt rows 0).length < w
instance (rows : Tb) (per balls w : Int) : Decidable (atBad rows per balls w) := by unfold atBad; infer_instance
noncomputable def atS (rows : Tb) (per balls w : Int) : Int × Int :=
  if checkS rows ≠ 0 then (0, checkS rows) else if atBad rows per balls w then (0, 2) else if w = (gt rows 0).length then (0, 0) else (atV rows per balls w, 0)
theorem check_zero {r : Tb} (h : checkS r = 0) : rawS r = 0 ∧ Down r ∧ Conc r := by
  unfold checkS at h
  split at h
  · rename_i h1; exact absurd h h1
  · split at h
    · rename_i h1 h2; exact absurd h h2
    · split at h
      · cases h
      · split at h
        · cases h
        · rename_i h1 h2 h3 h4
          exact ⟨by rw [rawS, if_neg h1]; exact Classical.not_not.mp h2, Classical.not_not.mp h3, Classical.not_not.mp h4⟩
theorem check_shaped {r : Tb} (h : checkS r = 0) : Shaped r := shaped_of (raw_zero (check_zero h).1).1
/-- Where a number of balls lies among the overs. -/
theorem at_place {n per balls : Int} (hp : 1 ≤ per) (hb : 0 ≤ balls) (hn : balls ≤ n * per) :
    0 ≤ balls / per ∧ balls / per ≤ n ∧ 0 ≤ balls % per ∧ balls % per < per ∧ (0 < balls % per → balls / per + 1 ≤ n) := by
  have h1 : 0 ≤ balls / per := Int.ediv_nonneg hb (by omega)
  have h2 : 0 ≤ balls % per := Int.emod_nonneg _ (by omega)
  have h3 : balls % per < per := Int.emod_lt_of_pos _ (by omega)
  have h4 : per * (balls / per) + balls % per = balls := Int.mul_ediv_add_emod _ _
  have h5 : balls / per ≤ n := by
    have := Int.ediv_le_ediv (c := per) (by omega) hn
    rwa [Int.mul_ediv_cancel _ (by omega)] at this
  refine ⟨h1, h5, h2, h3, fun h6 => ?_⟩
  by_cases h7 : balls / per = n
  · rw [h7, Int.mul_comm] at h4; omega
  · omega

abbrev lc_at_ok (a b c d e f g h i j k m n o p : AV) : Env := [(0,a),(1,b),(2,c),(3,d),(4,e),(8,f),(9,g),(10,h),(11,i),(12,j),(13,k),(17,m),(46,n),(50,o),(70,p)]
theorem at_ok (lim : Nat) (H : Heap) (rows : Tb) (per balls w : Int) :
    ACall sig lim 42 [.agg [rowsAV rows], AV.i per, AV.i balls, AV.i w] H fun r H' => r = .tup [AV.i (atS rows per balls w).1, AV.i (atS rows per balls w).2] ∧ H' = H := by
 refine ACall_pure (fa := fa42) rfl rfl rfl rfl ?_
 have tr : ∀ a0 a1 a2 a3 : AV, env0 fa42.keep [a0, a1, a2, a3] = [(0,a0),(1,a1),(2,a2),(3,a3),(4,.any),(8,.any),(9,.any),(10,.any),(11,.any),(12,.any),(13,.any),(17,.any),(46,.any),(50,.any),(70,.any)] := fun a0 a1 a2 a3 => rfl
 refine W_to (tr _ _ _ _) ?_; clear tr
 refine at_seq rfl ?_
 refine rg rfl ?_
 refine R_box rfl (by simp (disch := first | omega | (simp only [List.length_map, List.length_append, List.length_set, List.length_cons, List.length_nil]; omega)) only [go_sem, ↓reduceIte, Nat.reduceEqDiff, reduceCtorEq]; rfl) rfl rfl ?_
 refine Rq ?_
 refine Rq ?_
 have tr : ∀ a b c d e f g h i j k m n o p q r s : AV, let l := lc_at_ok a b c d e f g h i j k m n o p; trim ((9,s)::(8,r)::(4,q)::l) l = [(0,a),(1,b),(2,c),(3,d),(4,q),(8,r),(9,s),(10,h),(11,i),(12,j),(13,k),(17,m),(46,n),(50,o),(70,p)] := by intros; rfl
 refine R_nil (tr ..) ?_; clear tr
 refine then_n ?_
 refine at_seq rfl ?_
 refine at_seq rfl ?_
 refine rg rfl ?_
 refine Rq ?_
 refine Rcall ?_
 refine ACall_eq (check_ok _ _ _) ?_
 refine Rq ?_
 have tr : ∀ a b c d e f g h i j k m n o p q r s : AV, let l := lc_at_ok a b c d e f g h i j k m n o p; trim ((10,s)::(15,r)::(14,q)::l) l = [(0,a),(1,b),(2,c),(3,d),(4,e),(8,f),(9,g),(10,s),(11,i),(12,j),(13,k),(17,m),(46,n),(50,o),(70,p)] := by intros; rfl
 refine R_nil (tr ..) ?_; clear tr
 refine then_n ?_
 refine at_seq rfl ?_
 refine rg rfl ?_
 refine Rq ?_
 refine Rq ?_
 have tr : ∀ a b c d e f g h i j k m n o p q r : AV, let l := lc_at_ok a b c d e f g h i j k m n o p; trim ((17,r)::(16,q)::l) l = [(0,a),(1,b),(2,c),(3,d),(4,e),(8,f),(9,g),(10,h),(11,i),(12,j),(13,k),(17,r),(46,n),(50,o),(70,p)] := by intros; rfl
 refine R_nil (tr ..) ?_; clear tr
 refine then_n ?_
 refine cdd (fun h1 => ?_) (fun h1 => ?_)
 ·
  try simp only [decide_eq_true_eq, decide_eq_false_iff_not, Bool.not_eq_true', Bool.not_eq_false', beq_iff_eq, beq_eq_false_iff_ne, ne_eq] at h1
  refine at_seq rfl ?_
  refine rg rfl ?_
  refine Rq ?_
  refine Rq ?_
  refine Rq ?_
  have tr : ∀ a b c d e f g h i j k m n o p q r s : AV, let l := lc_at_ok a b c d e f g h i j k m n o p; trim ((9,s)::(8,r)::(18,q)::l) l = [(0,a),(1,b),(2,c),(3,d),(4,e),(8,r),(9,s),(10,h),(11,i),(12,j),(13,k),(17,m),(46,n),(50,o),(70,p)] := by intros; rfl
  refine R_nil (tr ..) ?_; clear tr
  refine then_n ?_
  refine at_ret rfl ?_
  refine then_r ?_
  refine fpure ?_
  refine ⟨?_, rfl⟩
  rw [atS, if_pos (by assumption)]
 ·
  try simp only [decide_eq_true_eq, decide_eq_false_iff_not, Bool.not_eq_true', Bool.not_eq_false', beq_iff_eq, beq_eq_false_iff_ne, ne_eq] at h1
  refine at_skip rfl ?_
  refine then_n ?_
  refine at_seq rfl ?_
  refine at_seq rfl ?_
  refine rg rfl ?_
  refine Rq ?_
  refine Rq ?_
  refine Rq ?_
  refine Rp_split (fun h2 => ?_) (fun h2 => ?_)
  ·
   try simp only [decide_eq_true_eq, decide_eq_false_iff_not, Bool.not_eq_true', Bool.not_eq_false', beq_iff_eq, beq_eq_false_iff_ne, ne_eq] at h2
   refine Rn ?_
   refine Rn ?_
   refine Rq ?_
   refine Rq ?_
   refine Rn ?_
   refine Rn ?_
   refine Rq ?_
   refine Rq ?_
   refine Rn ?_
   refine Rn ?_
   refine Rn ?_
   refine Rn ?_
   refine Rn ?_
   refine Rn ?_
   refine Rq ?_
   refine Rq ?_
   refine Rn ?_
   refine Rn ?_
   refine Rq ?_
   refine Rq ?_
   refine Rn ?_
   refine Rn ?_
   refine Rn ?_
   refine Rn ?_
   refine Rq ?_
   have tr : ∀ a b c d e f g h i j k m n o p q r s t u v w x y z A B C D E F G H I J K L M N O P Q R : AV, let l := lc_at_ok a b c d e f g h i j k m n o p; trim ((46,R)::(45,Q)::(44,P)::(43,O)::(42,N)::(41,M)::(40,L)::(39,K)::(38,J)::(37,I)::(36,H)::(35,G)::(34,F)::(33,E)::(32,D)::(31,C)::(30,B)::(29,A)::(28,z)::(27,y)::(26,x)::(25,w)::(24,v)::(23,u)::(22,t)::(21,s)::(20,r)::(19,q)::l) l = [(0,a),(1,b),(2,c),(3,d),(4,e),(8,f),(9,g),(10,h),(11,i),(12,j),(13,k),(17,m),(46,R),(50,o),(70,p)] := by intros; rfl
   refine R_nil (tr ..) ?_; clear tr
   refine then_n ?_
   refine cdt ?_
   refine at_seq rfl ?_
   refine rg rfl ?_
   refine Rq ?_
   refine Rq ?_
   have tr : ∀ a b c d e f g h i j k m n o p q r : AV, let l := lc_at_ok a b c d e f g h i j k m n o p; trim ((9,r)::(8,q)::l) l = [(0,a),(1,b),(2,c),(3,d),(4,e),(8,q),(9,r),(10,h),(11,i),(12,j),(13,k),(17,m),(46,n),(50,o),(70,p)] := by intros; rfl
   refine R_nil (tr ..) ?_; clear tr
   refine then_n ?_
   refine at_ret rfl ?_
   refine then_r ?_
   refine fpure ?_
   refine ⟨?_, rfl⟩
   rw [atS, if_neg (by omega), if_pos (by unfold atBad; omega)]
  ·
   try simp only [decide_eq_true_eq, decide_eq_false_iff_not, Bool.not_eq_true', Bool.not_eq_false', beq_iff_eq, beq_eq_false_iff_ne, ne_eq] at h2
   refine Ry ?_
   refine Rq ?_
   refine Ry ?_
   refine Rq ?_
   refine Rq ?_
   refine Rq ?_
   refine Rp_split (fun h3 => ?_) (fun h3 => ?_)
   ·
    try simp only [decide_eq_true_eq, decide_eq_false_iff_not, Bool.not_eq_true', Bool.not_eq_false', beq_iff_eq, beq_eq_false_iff_ne, ne_eq] at h3
    refine Rn ?_
    refine Rn ?_
    refine Rq ?_
    refine Rq ?_
    refine Rn ?_
    refine Rn ?_
    refine Rn ?_
    refine Rn ?_
    refine Rn ?_
    refine Rn ?_
    refine Rq ?_
    refine Rq ?_
    refine Rn ?_
    refine Rn ?_
    refine Rq ?_
    refine Rq ?_
    refine Rn ?_
    refine Rn ?_
    refine Rn ?_
    refine Rn ?_
    refine Rq ?_
    have tr : ∀ a b c d e f g h i j k m n o p q r s t u v w x y z A B C D E F G H I J K L M N O P Q R : AV, let l := lc_at_ok a b c d e f g h i j k m n o p; trim ((46,R)::(45,Q)::(44,P)::(43,O)::(42,N)::(41,M)::(40,L)::(39,K)::(38,J)::(37,I)::(36,H)::(35,G)::(34,F)::(33,E)::(32,D)::(31,C)::(30,B)::(29,A)::(28,z)::(27,y)::(26,x)::(25,w)::(24,v)::(23,u)::(22,t)::(21,s)::(20,r)::(19,q)::l) l = [(0,a),(1,b),(2,c),(3,d),(4,e),(8,f),(9,g),(10,h),(11,i),(12,j),(13,k),(17,m),(46,R),(50,o),(70,p)] := by intros; rfl
    refine R_nil (tr ..) ?_; clear tr
    refine then_n ?_
    refine cdt ?_
    refine at_seq rfl ?_
    refine rg rfl ?_
    refine Rq ?_
    refine Rq ?_
    have tr : ∀ a b c d e f g h i j k m n o p q r : AV, let l := lc_at_ok a b c d e f g h i j k m n o p; trim ((9,r)::(8,q)::l) l = [(0,a),(1,b),(2,c),(3,d),(4,e),(8,q),(9,r),(10,h),(11,i),(12,j),(13,k),(17,m),(46,n),(50,o),(70,p)] := by intros; rfl
    refine R_nil (tr ..) ?_; clear tr
    refine then_n ?_
    refine at_ret rfl ?_
    refine then_r ?_
    refine fpure ?_
    refine ⟨?_, rfl⟩
    rw [atS, if_neg (by omega), if_pos (by unfold atBad; omega)]
   ·
    try simp only [decide_eq_true_eq, decide_eq_false_iff_not, Bool.not_eq_true', Bool.not_eq_false', beq_iff_eq, beq_eq_false_iff_ne, ne_eq] at h3
    refine Ry ?_
    refine Rq ?_
    refine Ry ?_
    refine Rq ?_
    refine Rq ?_
    refine Rq ?_
    refine Rp_split (fun h4 => ?_) (fun h4 => ?_)
    ·
     try simp only [decide_eq_true_eq, decide_eq_false_iff_not, Bool.not_eq_true', Bool.not_eq_false', beq_iff_eq, beq_eq_false_iff_ne, ne_eq] at h4
     refine Rn ?_
     refine Rn ?_
     refine Rn ?_
     refine Rn ?_
     refine Rn ?_
     refine Rn ?_
     refine Rq ?_
     refine Rq ?_
     refine Rn ?_
     refine Rn ?_
     refine Rq ?_
     refine Rq ?_
     refine Rn ?_
     refine Rn ?_
     refine Rn ?_
     refine Rn ?_
     refine Rq ?_
     have tr : ∀ a b c d e f g h i j k m n o p q r s t u v w x y z A B C D E F G H I J K L M N O P Q R : AV, let l := lc_at_ok a b c d e f g h i j k m n o p; trim ((46,R)::(45,Q)::(44,P)::(43,O)::(42,N)::(41,M)::(40,L)::(39,K)::(38,J)::(37,I)::(36,H)::(35,G)::(34,F)::(33,E)::(32,D)::(31,C)::(30,B)::(29,A)::(28,z)::(27,y)::(26,x)::(25,w)::(24,v)::(23,u)::(22,t)::(21,s)::(20,r)::(19,q)::l) l = [(0,a),(1,b),(2,c),(3,d),(4,e),(8,f),(9,g),(10,h),(11,i),(12,j),(13,k),(17,m),(46,R),(50,o),(70,p)] := by intros; rfl
     refine R_nil (tr ..) ?_; clear tr
     refine then_n ?_
     refine cdt ?_
     refine at_seq rfl ?_
     refine rg rfl ?_
     refine Rq ?_
     refine Rq ?_
     have tr : ∀ a b c d e f g h i j k m n o p q r : AV, let l := lc_at_ok a b c d e f g h i j k m n o p; trim ((9,r)::(8,q)::l) l = [(0,a),(1,b),(2,c),(3,d),(4,e),(8,q),(9,r),(10,h),(11,i),(12,j),(13,k),(17,m),(46,n),(50,o),(70,p)] := by intros; rfl
     refine R_nil (tr ..) ?_; clear tr
     refine then_n ?_
     refine at_ret rfl ?_
     refine then_r ?_
     refine fpure ?_
     refine ⟨?_, rfl⟩
     rw [atS, if_neg (by omega), if_pos (by unfold atBad; omega)]
    ·
     try simp only [decide_eq_true_eq, decide_eq_false_iff_not, Bool.not_eq_true', Bool.not_eq_false', beq_iff_eq, beq_eq_false_iff_ne, ne_eq] at h4
     refine Ry ?_
     refine Rq ?_
     refine Ry ?_
     refine Rq ?_
     refine Ry ?_
     refine Rcall ?_
     have s := check_shaped (by assumption : checkS rows = 0)
     have g2 := s.two
     have g91 := s.most
     refine ACall_eq (overs_ok _ _ rows g91 g2) ?_
     have hpm := mul_box (a := (rows.length : Int) - 1) (b := per) (A := 90) (B := 8) (by omega) (by omega) (by omega) (by omega)
     refine Ry ?_
     refine Rq ?_
     refine Ry ?_
     refine Rq ?_
     refine Ry ?_
     refine Rq ?_
     refine Rq ?_
     refine Rq ?_
     refine Rp_split (fun h5 => ?_) (fun h5 => ?_)
     ·
      try simp only [decide_eq_true_eq, decide_eq_false_iff_not, Bool.not_eq_true', Bool.not_eq_false', beq_iff_eq, beq_eq_false_iff_ne, ne_eq] at h5
      refine Rn ?_
      refine Rn ?_
      refine Rq ?_
      refine Rq ?_
      refine Rn ?_
      refine Rn ?_
      refine Rn ?_
      refine Rn ?_
      refine Rq ?_
      have tr : ∀ a b c d e f g h i j k m n o p q r s t u v w x y z A B C D E F G H I J K L M N O P Q R : AV, let l := lc_at_ok a b c d e f g h i j k m n o p; trim ((46,R)::(45,Q)::(44,P)::(43,O)::(42,N)::(41,M)::(40,L)::(39,K)::(38,J)::(37,I)::(36,H)::(35,G)::(34,F)::(33,E)::(32,D)::(31,C)::(30,B)::(29,A)::(28,z)::(27,y)::(26,x)::(25,w)::(24,v)::(23,u)::(22,t)::(21,s)::(20,r)::(19,q)::l) l = [(0,a),(1,b),(2,c),(3,d),(4,e),(8,f),(9,g),(10,h),(11,i),(12,j),(13,k),(17,m),(46,R),(50,o),(70,p)] := by intros; rfl
      refine R_nil (tr ..) ?_; clear tr
      refine then_n ?_
      refine cdt ?_
      refine at_seq rfl ?_
      refine rg rfl ?_
      refine Rq ?_
      refine Rq ?_
      have tr : ∀ a b c d e f g h i j k m n o p q r : AV, let l := lc_at_ok a b c d e f g h i j k m n o p; trim ((9,r)::(8,q)::l) l = [(0,a),(1,b),(2,c),(3,d),(4,e),(8,q),(9,r),(10,h),(11,i),(12,j),(13,k),(17,m),(46,n),(50,o),(70,p)] := by intros; rfl
      refine R_nil (tr ..) ?_; clear tr
      refine then_n ?_
      refine at_ret rfl ?_
      refine then_r ?_
      refine fpure ?_
      refine ⟨?_, rfl⟩
      rw [atS, if_neg (by omega), if_pos (by unfold atBad; omega)]
     ·
      try simp only [decide_eq_true_eq, decide_eq_false_iff_not, Bool.not_eq_true', Bool.not_eq_false', beq_iff_eq, beq_eq_false_iff_ne, ne_eq] at h5
      refine Ry ?_
      refine Rq ?_
      refine Ry ?_
      refine Rq ?_
      refine Rq ?_
      refine Rq ?_
      refine Rp_split (fun h6 => ?_) (fun h6 => ?_)
      ·
       try simp only [decide_eq_true_eq, decide_eq_false_iff_not, Bool.not_eq_true', Bool.not_eq_false', beq_iff_eq, beq_eq_false_iff_ne, ne_eq] at h6
       refine Rn ?_
       refine Rn ?_
       refine Rn ?_
       refine Rn ?_
       refine Rq ?_
       have tr : ∀ a b c d e f g h i j k m n o p q r s t u v w x y z A B C D E F G H I J K L M N O P Q R : AV, let l := lc_at_ok a b c d e f g h i j k m n o p; trim ((46,R)::(45,Q)::(44,P)::(43,O)::(42,N)::(41,M)::(40,L)::(39,K)::(38,J)::(37,I)::(36,H)::(35,G)::(34,F)::(33,E)::(32,D)::(31,C)::(30,B)::(29,A)::(28,z)::(27,y)::(26,x)::(25,w)::(24,v)::(23,u)::(22,t)::(21,s)::(20,r)::(19,q)::l) l = [(0,a),(1,b),(2,c),(3,d),(4,e),(8,f),(9,g),(10,h),(11,i),(12,j),(13,k),(17,m),(46,R),(50,o),(70,p)] := by intros; rfl
       refine R_nil (tr ..) ?_; clear tr
       refine then_n ?_
       refine cdt ?_
       refine at_seq rfl ?_
       refine rg rfl ?_
       refine Rq ?_
       refine Rq ?_
       have tr : ∀ a b c d e f g h i j k m n o p q r : AV, let l := lc_at_ok a b c d e f g h i j k m n o p; trim ((9,r)::(8,q)::l) l = [(0,a),(1,b),(2,c),(3,d),(4,e),(8,q),(9,r),(10,h),(11,i),(12,j),(13,k),(17,m),(46,n),(50,o),(70,p)] := by intros; rfl
       refine R_nil (tr ..) ?_; clear tr
       refine then_n ?_
       refine at_ret rfl ?_
       refine then_r ?_
       refine fpure ?_
       refine ⟨?_, rfl⟩
       rw [atS, if_neg (by omega), if_pos (by unfold atBad; omega)]
      ·
       try simp only [decide_eq_true_eq, decide_eq_false_iff_not, Bool.not_eq_true', Bool.not_eq_false', beq_iff_eq, beq_eq_false_iff_ne, ne_eq] at h6
       refine Ry ?_
       refine Rq ?_
       refine Ry ?_
       refine Rq ?_
       refine Ry ?_
       refine Rcall ?_
       refine ACall_eq (wickets_ok _ _ rows g2) ?_
       refine Ry ?_
       refine Rq ?_
       refine Rq ?_
       have tr : ∀ a b c d e f g h i j k m n o p q r s t u v w x y z A B C D E F G H I J K L M N O P Q R : AV, let l := lc_at_ok a b c d e f g h i j k m n o p; trim ((46,R)::(45,Q)::(44,P)::(43,O)::(42,N)::(41,M)::(40,L)::(39,K)::(38,J)::(37,I)::(36,H)::(35,G)::(34,F)::(33,E)::(32,D)::(31,C)::(30,B)::(29,A)::(28,z)::(27,y)::(26,x)::(25,w)::(24,v)::(23,u)::(22,t)::(21,s)::(20,r)::(19,q)::l) l = [(0,a),(1,b),(2,c),(3,d),(4,e),(8,f),(9,g),(10,h),(11,i),(12,j),(13,k),(17,m),(46,R),(50,o),(70,p)] := by intros; rfl
       refine R_nil (tr ..) ?_; clear tr
       refine then_n ?_
       refine cdd (fun h7 => ?_) (fun h7 => ?_)
       ·
        try simp only [decide_eq_true_eq, decide_eq_false_iff_not, Bool.not_eq_true', Bool.not_eq_false', beq_iff_eq, beq_eq_false_iff_ne, ne_eq] at h7
        refine at_seq rfl ?_
        refine rg rfl ?_
        refine Rq ?_
        refine Rq ?_
        have tr : ∀ a b c d e f g h i j k m n o p q r : AV, let l := lc_at_ok a b c d e f g h i j k m n o p; trim ((9,r)::(8,q)::l) l = [(0,a),(1,b),(2,c),(3,d),(4,e),(8,q),(9,r),(10,h),(11,i),(12,j),(13,k),(17,m),(46,n),(50,o),(70,p)] := by intros; rfl
        refine R_nil (tr ..) ?_; clear tr
        refine then_n ?_
        refine at_ret rfl ?_
        refine then_r ?_
        refine fpure ?_
        refine ⟨?_, rfl⟩
        rw [atS, if_neg (by omega), if_pos (by unfold atBad; omega)]
       ·
        try simp only [decide_eq_true_eq, decide_eq_false_iff_not, Bool.not_eq_true', Bool.not_eq_false', beq_iff_eq, beq_eq_false_iff_ne, ne_eq] at h7
        refine at_skip rfl ?_
        refine then_n ?_
        refine at_seq rfl ?_
        refine at_seq rfl ?_
        refine rg rfl ?_
        refine Rq ?_
        refine Rq ?_
        refine Rcall ?_
        refine ACall_eq (wickets_ok _ _ rows g2) ?_
        refine Rq ?_
        have tr : ∀ a b c d e f g h i j k m n o p q r s t : AV, let l := lc_at_ok a b c d e f g h i j k m n o p; trim ((50,t)::(49,s)::(48,r)::(47,q)::l) l = [(0,a),(1,b),(2,c),(3,d),(4,e),(8,f),(9,g),(10,h),(11,i),(12,j),(13,k),(17,m),(46,n),(50,t),(70,p)] := by intros; rfl
        refine R_nil (tr ..) ?_; clear tr
        refine then_n ?_
        refine cdd (fun h8 => ?_) (fun h8 => ?_)
        ·
         try simp only [decide_eq_true_eq, decide_eq_false_iff_not, Bool.not_eq_true', Bool.not_eq_false', beq_iff_eq, beq_eq_false_iff_ne, ne_eq] at h8
         refine at_seq rfl ?_
         refine rg rfl ?_
         refine Rq ?_
         refine Rq ?_
         have tr : ∀ a b c d e f g h i j k m n o p q r : AV, let l := lc_at_ok a b c d e f g h i j k m n o p; trim ((9,r)::(8,q)::l) l = [(0,a),(1,b),(2,c),(3,d),(4,e),(8,q),(9,r),(10,h),(11,i),(12,j),(13,k),(17,m),(46,n),(50,o),(70,p)] := by intros; rfl
         refine R_nil (tr ..) ?_; clear tr
         refine then_n ?_
         refine at_ret rfl ?_
         refine then_r ?_
         refine fpure ?_
         refine ⟨?_, rfl⟩
         rw [atS, if_neg (by omega), if_neg (by unfold atBad; omega), if_pos (by omega)]
        ·
         try simp only [decide_eq_true_eq, decide_eq_false_iff_not, Bool.not_eq_true', Bool.not_eq_false', beq_iff_eq, beq_eq_false_iff_ne, ne_eq] at h8
         refine at_skip rfl ?_
         refine then_n ?_
         refine at_seq rfl ?_
         refine rd rfl rfl ?_
         have hat := at_place (n := (rows.length : Int) - 1) (per := per) (balls := balls) (by omega) (by omega) (by omega)
         obtain ⟨q0, q1, r0, r1, q2⟩ := hat
         have gl := s.len
         have gr := s.rng
         have hl1 := gl (balls / per).toNat (by omega)
         have k1 : 0 ≤ gt (gt rows (balls / per).toNat) w.toNat ∧ gt (gt rows (balls / per).toNat) w.toNat ≤ 10000 := gr _ (by omega) _ (by omega)
         have k2 := mul_box (b := per - balls % per) (B := 8) k1.1 k1.2 (by omega) (by omega)
         refine Qq ?_
         refine Qq ?_
         refine Qq ?_
         refine Qq ?_
         refine Qq ?_
         refine Qq ?_
         refine Qq ?_
         refine Qq ?_
         refine Q_nil ?_
         have tr : ∀ a b c d e f g h i j k m n o p q r s t u v w x : AV, let l := lc_at_ok a b c d e f g h i j k m n o p; trim ((12,x)::(11,w)::(56,v)::(55,u)::(54,t)::(53,s)::(52,r)::(51,q)::l) l = [(0,a),(1,b),(2,c),(3,d),(4,e),(8,f),(9,g),(10,h),(11,w),(12,x),(13,k),(17,m),(46,n),(50,o),(70,p)] := by intros; rfl
         refine R_nil (tr ..) ?_; clear tr
         refine then_n ?_
         refine at_seq rfl ?_
         refine rg rfl ?_
         refine Rq ?_
         refine Rq ?_
         refine Rq ?_
         refine Rq ?_
         refine Rq ?_
         refine Rq ?_
         refine Rq ?_
         refine Rq ?_
         refine Rq ?_
         refine Rq ?_
         refine Rq ?_
         refine Rq ?_
         refine Rq ?_
         have tr : ∀ a b c d e f g h i j k m n o p q r s t u v w x y z A B C : AV, let l := lc_at_ok a b c d e f g h i j k m n o p; trim ((13,C)::(68,B)::(67,A)::(66,z)::(65,y)::(64,x)::(63,w)::(62,v)::(61,u)::(60,t)::(59,s)::(58,r)::(57,q)::l) l = [(0,a),(1,b),(2,c),(3,d),(4,e),(8,f),(9,g),(10,h),(11,i),(12,j),(13,C),(17,m),(46,n),(50,o),(70,p)] := by intros; rfl
         refine R_nil (tr ..) ?_; clear tr
         refine then_n ?_
         refine at_seq rfl ?_
         refine at_seq rfl ?_
         refine rg rfl ?_
         refine Rq ?_
         refine Rq ?_
         have tr : ∀ a b c d e f g h i j k m n o p q r : AV, let l := lc_at_ok a b c d e f g h i j k m n o p; trim ((70,r)::(69,q)::l) l = [(0,a),(1,b),(2,c),(3,d),(4,e),(8,f),(9,g),(10,h),(11,i),(12,j),(13,k),(17,m),(46,n),(50,o),(70,r)] := by intros; rfl
         refine R_nil (tr ..) ?_; clear tr
         refine then_n ?_
         refine cdd (fun h9 => ?_) (fun h9 => ?_)
         ·
          try simp only [decide_eq_true_eq, decide_eq_false_iff_not, Bool.not_eq_true', Bool.not_eq_false', beq_iff_eq, beq_eq_false_iff_ne, ne_eq] at h9
          refine rg rfl ?_
          have q3 := q2 (by assumption)
          have hl2 := gl (balls / per + 1).toNat (by omega)
          have k3 : 0 ≤ gt (gt rows (balls / per + 1).toNat) w.toNat ∧ gt (gt rows (balls / per + 1).toNat) w.toNat ≤ 10000 := gr _ (by omega) _ (by omega)
          have k4 := mul_box (b := balls % per) (B := 8) k3.1 k3.2 (by omega) (by omega)
          refine Rq ?_
          refine Rq ?_
          refine Rq ?_
          refine Rq ?_
          refine Rq ?_
          refine Rq ?_
          refine Rq ?_
          refine Rq ?_
          refine Rq ?_
          refine Rq ?_
          refine Rq ?_
          refine Rq ?_
          refine Rq ?_
          refine Rq ?_
          have tr : ∀ a b c d e f g h i j k m n o p q r s t u v w x y z A B C D : AV, let l := lc_at_ok a b c d e f g h i j k m n o p; trim ((13,D)::(83,C)::(82,B)::(81,A)::(80,z)::(79,y)::(78,x)::(77,w)::(76,v)::(75,u)::(74,t)::(73,s)::(72,r)::(71,q)::l) l = [(0,a),(1,b),(2,c),(3,d),(4,e),(8,f),(9,g),(10,h),(11,i),(12,j),(13,D),(17,m),(46,n),(50,o),(70,p)] := by intros; rfl
          refine R_nil (tr ..) ?_; clear tr
          refine then_n ?_
          refine at_seq rfl ?_
          refine rg rfl ?_
          refine Rq ?_
          refine Rq ?_
          refine Rq ?_
          have tr : ∀ a b c d e f g h i j k m n o p q r s : AV, let l := lc_at_ok a b c d e f g h i j k m n o p; trim ((9,s)::(8,r)::(84,q)::l) l = [(0,a),(1,b),(2,c),(3,d),(4,e),(8,r),(9,s),(10,h),(11,i),(12,j),(13,k),(17,m),(46,n),(50,o),(70,p)] := by intros; rfl
          refine R_nil (tr ..) ?_; clear tr
          refine then_n ?_
          refine at_ret rfl ?_
          refine fpure ?_
          refine ⟨?_, rfl⟩
          rw [atS, if_neg (by omega), if_neg (by unfold atBad; omega), if_neg (by omega), atV, cellI, cellI, if_pos (by omega)]
         ·
          try simp only [decide_eq_true_eq, decide_eq_false_iff_not, Bool.not_eq_true', Bool.not_eq_false', beq_iff_eq, beq_eq_false_iff_ne, ne_eq] at h9
          refine at_skip rfl ?_
          refine then_n ?_
          refine at_seq rfl ?_
          refine rg rfl ?_
          refine Rq ?_
          refine Rq ?_
          refine Rq ?_
          have tr : ∀ a b c d e f g h i j k m n o p q r s : AV, let l := lc_at_ok a b c d e f g h i j k m n o p; trim ((9,s)::(8,r)::(84,q)::l) l = [(0,a),(1,b),(2,c),(3,d),(4,e),(8,r),(9,s),(10,h),(11,i),(12,j),(13,k),(17,m),(46,n),(50,o),(70,p)] := by intros; rfl
          refine R_nil (tr ..) ?_; clear tr
          refine then_n ?_
          refine at_ret rfl ?_
          refine fpure ?_
          refine ⟨?_, rfl⟩
          rw [atS, if_neg (by omega), if_neg (by unfold atBad; omega), if_neg (by omega), atV, cellI, cellI, if_neg (by omega), Int.add_zero]

end Go.Proofs.Ytaoondlakhocnaa
