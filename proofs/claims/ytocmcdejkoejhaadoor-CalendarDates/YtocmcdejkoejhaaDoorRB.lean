/-
  Walks of chapter 48. The steps are written by program (walk.py).
-/
import Derived.Test.YtocmcdejkoejhaaDoorRA
set_option linter.unusedSimpArgs false
set_option linter.unusedVariables false
set_option maxHeartbeats 1000000
set_option maxRecDepth 20000
namespace Go.Proofs.YtocmcdejkoejhaaDoor
open Go Go.Am
abbrev lc_day_ok (a b c d e f g h i j k : AV) : Env := [(0,a),(1,b),(2,c),(6,d),(7,e),(8,f),(9,g),(10,h),(35,i),(40,j),(49,k)]
theorem day_ok (lim : Nat) (H : Heap) (Y m d : Int) : ACall sig lim 10 [AV.i Y, AV.i m, AV.i d] H fun r H' => r = .tup [AV.i (dayS Y m d).1, AV.i (dayS Y m d).2] ∧ H' = H := by
 refine ACall_pure (fa := fa10) rfl rfl rfl rfl ?_
 have tr : ∀ a0 a1 a2 : AV, env0 fa10.keep [a0, a1, a2] = [(0,a0),(1,a1),(2,a2),(6,.any),(7,.any),(8,.any),(9,.any),(10,.any),(35,.any),(40,.any),(49,.any)] := fun a0 a1 a2 => rfl
 refine W_to (tr _ _ _) ?_; clear tr
 refine at_seq rfl ?_
 refine rg rfl ?_
 refine Rq ?_
 refine Rq ?_
 have tr : ∀ a b c d e f g h i j k m n : AV, let l := lc_day_ok a b c d e f g h i j k; trim ((7,n)::(6,m)::l) l = [(0,a),(1,b),(2,c),(6,m),(7,n),(8,f),(9,g),(10,h),(35,i),(40,j),(49,k)] := by intros; rfl
 refine R_nil (tr ..) ?_; clear tr
 refine then_n ?_
 refine at_seq rfl ?_
 refine at_seq rfl ?_
 refine rg rfl ?_
 refine Rq ?_
 refine Rq ?_
 refine Rq ?_
 refine Rp_split (fun h1 => ?_) (fun h1 => ?_)
 ·
  try simp only [decide_eq_true_eq, decide_eq_false_iff_not, Bool.not_eq_true', Bool.not_eq_false', beq_iff_eq, beq_eq_false_iff_ne, ne_eq] at h1
  refine Rn ?_
  refine Rn ?_
  refine Rq ?_
  refine Rq ?_
  refine Rn ?_
  refine Rn ?_
  refine Rq ?_
  refine Rq ?_
  refine Rn ?_
  refine Rn ?_
  refine Rq ?_
  refine Rq ?_
  refine Rn ?_
  refine Rn ?_
  refine Rq ?_
  refine Rq ?_
  refine Rn ?_
  refine Rn ?_
  refine Rn ?_
  refine Rn ?_
  refine Rn ?_
  refine Rq ?_
  have tr : ∀ a b c d e f g h i j k m n o p q r s t u v w x y z A B C D E F G H I J K : AV, let l := lc_day_ok a b c d e f g h i j k; trim ((35,K)::(34,J)::(33,I)::(32,H)::(31,G)::(30,F)::(29,E)::(28,D)::(27,C)::(26,B)::(25,A)::(24,z)::(23,y)::(22,x)::(21,w)::(20,v)::(19,u)::(18,t)::(17,s)::(16,r)::(15,q)::(14,p)::(13,o)::(12,n)::(11,m)::l) l = [(0,a),(1,b),(2,c),(6,d),(7,e),(8,f),(9,g),(10,h),(35,K),(40,j),(49,k)] := by intros; rfl
  refine R_nil (tr ..) ?_; clear tr
  refine then_n ?_
  refine cdt ?_
  refine at_seq rfl ?_
  refine rg rfl ?_
  refine Rq ?_
  refine Rq ?_
  have tr : ∀ a b c d e f g h i j k m n : AV, let l := lc_day_ok a b c d e f g h i j k; trim ((7,n)::(6,m)::l) l = [(0,a),(1,b),(2,c),(6,m),(7,n),(8,f),(9,g),(10,h),(35,i),(40,j),(49,k)] := by intros; rfl
  refine R_nil (tr ..) ?_; clear tr
  refine then_n ?_
  refine at_ret rfl ?_
  refine then_r ?_
  first | (refine fpure ?_; refine ⟨?_, rfl⟩; rw [dayS, if_pos (by omega)]; done) | (refine fpure ?_; refine ⟨?_, rfl⟩; rw [dayS, if_neg (by omega), show (m - 1).toNat = v by omega, ← hk])
 ·
  try simp only [decide_eq_true_eq, decide_eq_false_iff_not, Bool.not_eq_true', Bool.not_eq_false', beq_iff_eq, beq_eq_false_iff_ne, ne_eq] at h1
  refine Ry ?_
  refine Rq ?_
  refine Ry ?_
  refine Rq ?_
  refine Rq ?_
  refine Rq ?_
  refine Rp_split (fun h2 => ?_) (fun h2 => ?_)
  ·
   try simp only [decide_eq_true_eq, decide_eq_false_iff_not, Bool.not_eq_true', Bool.not_eq_false', beq_iff_eq, beq_eq_false_iff_ne, ne_eq] at h2
   refine Rn ?_
   refine Rn ?_
   refine Rq ?_
   refine Rq ?_
   refine Rn ?_
   refine Rn ?_
   refine Rq ?_
   refine Rq ?_
   refine Rn ?_
   refine Rn ?_
   refine Rq ?_
   refine Rq ?_
   refine Rn ?_
   refine Rn ?_
   refine Rn ?_
   refine Rn ?_
   refine Rn ?_
   refine Rq ?_
   have tr : ∀ a b c d e f g h i j k m n o p q r s t u v w x y z A B C D E F G H I J K : AV, let l := lc_day_ok a b c d e f g h i j k; trim ((35,K)::(34,J)::(33,I)::(32,H)::(31,G)::(30,F)::(29,E)::(28,D)::(27,C)::(26,B)::(25,A)::(24,z)::(23,y)::(22,x)::(21,w)::(20,v)::(19,u)::(18,t)::(17,s)::(16,r)::(15,q)::(14,p)::(13,o)::(12,n)::(11,m)::l) l = [(0,a),(1,b),(2,c),(6,d),(7,e),(8,f),(9,g),(10,h),(35,K),(40,j),(49,k)] := by intros; rfl
   refine R_nil (tr ..) ?_; clear tr
   refine then_n ?_
   refine cdt ?_
   refine at_seq rfl ?_
   refine rg rfl ?_
   refine Rq ?_
   refine Rq ?_
   have tr : ∀ a b c d e f g h i j k m n : AV, let l := lc_day_ok a b c d e f g h i j k; trim ((7,n)::(6,m)::l) l = [(0,a),(1,b),(2,c),(6,m),(7,n),(8,f),(9,g),(10,h),(35,i),(40,j),(49,k)] := by intros; rfl
   refine R_nil (tr ..) ?_; clear tr
   refine then_n ?_
   refine at_ret rfl ?_
   refine then_r ?_
   first | (refine fpure ?_; refine ⟨?_, rfl⟩; rw [dayS, if_pos (by omega)]; done) | (refine fpure ?_; refine ⟨?_, rfl⟩; rw [dayS, if_neg (by omega), show (m - 1).toNat = v by omega, ← hk])
  ·
   try simp only [decide_eq_true_eq, decide_eq_false_iff_not, Bool.not_eq_true', Bool.not_eq_false', beq_iff_eq, beq_eq_false_iff_ne, ne_eq] at h2
   refine Ry ?_
   refine Rq ?_
   refine Ry ?_
   refine Rq ?_
   refine Rq ?_
   refine Rq ?_
   refine Rp_split (fun h3 => ?_) (fun h3 => ?_)
   ·
    try simp only [decide_eq_true_eq, decide_eq_false_iff_not, Bool.not_eq_true', Bool.not_eq_false', beq_iff_eq, beq_eq_false_iff_ne, ne_eq] at h3
    refine Rn ?_
    refine Rn ?_
    refine Rq ?_
    refine Rq ?_
    refine Rn ?_
    refine Rn ?_
    refine Rq ?_
    refine Rq ?_
    refine Rn ?_
    refine Rn ?_
    refine Rn ?_
    refine Rn ?_
    refine Rn ?_
    refine Rq ?_
    have tr : ∀ a b c d e f g h i j k m n o p q r s t u v w x y z A B C D E F G H I J K : AV, let l := lc_day_ok a b c d e f g h i j k; trim ((35,K)::(34,J)::(33,I)::(32,H)::(31,G)::(30,F)::(29,E)::(28,D)::(27,C)::(26,B)::(25,A)::(24,z)::(23,y)::(22,x)::(21,w)::(20,v)::(19,u)::(18,t)::(17,s)::(16,r)::(15,q)::(14,p)::(13,o)::(12,n)::(11,m)::l) l = [(0,a),(1,b),(2,c),(6,d),(7,e),(8,f),(9,g),(10,h),(35,K),(40,j),(49,k)] := by intros; rfl
    refine R_nil (tr ..) ?_; clear tr
    refine then_n ?_
    refine cdt ?_
    refine at_seq rfl ?_
    refine rg rfl ?_
    refine Rq ?_
    refine Rq ?_
    have tr : ∀ a b c d e f g h i j k m n : AV, let l := lc_day_ok a b c d e f g h i j k; trim ((7,n)::(6,m)::l) l = [(0,a),(1,b),(2,c),(6,m),(7,n),(8,f),(9,g),(10,h),(35,i),(40,j),(49,k)] := by intros; rfl
    refine R_nil (tr ..) ?_; clear tr
    refine then_n ?_
    refine at_ret rfl ?_
    refine then_r ?_
    first | (refine fpure ?_; refine ⟨?_, rfl⟩; rw [dayS, if_pos (by omega)]; done) | (refine fpure ?_; refine ⟨?_, rfl⟩; rw [dayS, if_neg (by omega), show (m - 1).toNat = v by omega, ← hk])
   ·
    try simp only [decide_eq_true_eq, decide_eq_false_iff_not, Bool.not_eq_true', Bool.not_eq_false', beq_iff_eq, beq_eq_false_iff_ne, ne_eq] at h3
    refine Ry ?_
    refine Rq ?_
    refine Ry ?_
    refine Rq ?_
    refine Rq ?_
    refine Rq ?_
    refine Rp_split (fun h4 => ?_) (fun h4 => ?_)
    ·
     try simp only [decide_eq_true_eq, decide_eq_false_iff_not, Bool.not_eq_true', Bool.not_eq_false', beq_iff_eq, beq_eq_false_iff_ne, ne_eq] at h4
     refine Rn ?_
     refine Rn ?_
     refine Rq ?_
     refine Rq ?_
     refine Rn ?_
     refine Rn ?_
     refine Rn ?_
     refine Rn ?_
     refine Rn ?_
     refine Rq ?_
     have tr : ∀ a b c d e f g h i j k m n o p q r s t u v w x y z A B C D E F G H I J K : AV, let l := lc_day_ok a b c d e f g h i j k; trim ((35,K)::(34,J)::(33,I)::(32,H)::(31,G)::(30,F)::(29,E)::(28,D)::(27,C)::(26,B)::(25,A)::(24,z)::(23,y)::(22,x)::(21,w)::(20,v)::(19,u)::(18,t)::(17,s)::(16,r)::(15,q)::(14,p)::(13,o)::(12,n)::(11,m)::l) l = [(0,a),(1,b),(2,c),(6,d),(7,e),(8,f),(9,g),(10,h),(35,K),(40,j),(49,k)] := by intros; rfl
     refine R_nil (tr ..) ?_; clear tr
     refine then_n ?_
     refine cdt ?_
     refine at_seq rfl ?_
     refine rg rfl ?_
     refine Rq ?_
     refine Rq ?_
     have tr : ∀ a b c d e f g h i j k m n : AV, let l := lc_day_ok a b c d e f g h i j k; trim ((7,n)::(6,m)::l) l = [(0,a),(1,b),(2,c),(6,m),(7,n),(8,f),(9,g),(10,h),(35,i),(40,j),(49,k)] := by intros; rfl
     refine R_nil (tr ..) ?_; clear tr
     refine then_n ?_
     refine at_ret rfl ?_
     refine then_r ?_
     first | (refine fpure ?_; refine ⟨?_, rfl⟩; rw [dayS, if_pos (by omega)]; done) | (refine fpure ?_; refine ⟨?_, rfl⟩; rw [dayS, if_neg (by omega), show (m - 1).toNat = v by omega, ← hk])
    ·
     try simp only [decide_eq_true_eq, decide_eq_false_iff_not, Bool.not_eq_true', Bool.not_eq_false', beq_iff_eq, beq_eq_false_iff_ne, ne_eq] at h4
     refine Ry ?_
     refine Rq ?_
     refine Ry ?_
     refine Rq ?_
     refine Rq ?_
     refine Rq ?_
     refine Rp_split (fun h5 => ?_) (fun h5 => ?_)
     ·
      try simp only [decide_eq_true_eq, decide_eq_false_iff_not, Bool.not_eq_true', Bool.not_eq_false', beq_iff_eq, beq_eq_false_iff_ne, ne_eq] at h5
      refine Rn ?_
      refine Rn ?_
      refine Rn ?_
      refine Rn ?_
      refine Rn ?_
      refine Rq ?_
      have tr : ∀ a b c d e f g h i j k m n o p q r s t u v w x y z A B C D E F G H I J K : AV, let l := lc_day_ok a b c d e f g h i j k; trim ((35,K)::(34,J)::(33,I)::(32,H)::(31,G)::(30,F)::(29,E)::(28,D)::(27,C)::(26,B)::(25,A)::(24,z)::(23,y)::(22,x)::(21,w)::(20,v)::(19,u)::(18,t)::(17,s)::(16,r)::(15,q)::(14,p)::(13,o)::(12,n)::(11,m)::l) l = [(0,a),(1,b),(2,c),(6,d),(7,e),(8,f),(9,g),(10,h),(35,K),(40,j),(49,k)] := by intros; rfl
      refine R_nil (tr ..) ?_; clear tr
      refine then_n ?_
      refine cdt ?_
      refine at_seq rfl ?_
      refine rg rfl ?_
      refine Rq ?_
      refine Rq ?_
      have tr : ∀ a b c d e f g h i j k m n : AV, let l := lc_day_ok a b c d e f g h i j k; trim ((7,n)::(6,m)::l) l = [(0,a),(1,b),(2,c),(6,m),(7,n),(8,f),(9,g),(10,h),(35,i),(40,j),(49,k)] := by intros; rfl
      refine R_nil (tr ..) ?_; clear tr
      refine then_n ?_
      refine at_ret rfl ?_
      refine then_r ?_
      first | (refine fpure ?_; refine ⟨?_, rfl⟩; rw [dayS, if_pos (by omega)]; done) | (refine fpure ?_; refine ⟨?_, rfl⟩; rw [dayS, if_neg (by omega), show (m - 1).toNat = v by omega, ← hk])
     ·
      try simp only [decide_eq_true_eq, decide_eq_false_iff_not, Bool.not_eq_true', Bool.not_eq_false', beq_iff_eq, beq_eq_false_iff_ne, ne_eq] at h5
      refine Ry ?_
      refine Rq ?_
      refine Ry ?_
      refine Rq ?_
      refine Ry ?_
      refine Rq ?_
      refine Ry ?_
      refine Rcall ?_
      refine ACall_eq (length_ok _ _ _ _) ?_
      refine Ry ?_
      refine Rq ?_
      refine Rq ?_
      have tr : ∀ a b c d e f g h i j k m n o p q r s t u v w x y z A B C D E F G H I J K : AV, let l := lc_day_ok a b c d e f g h i j k; trim ((35,K)::(34,J)::(33,I)::(32,H)::(31,G)::(30,F)::(29,E)::(28,D)::(27,C)::(26,B)::(25,A)::(24,z)::(23,y)::(22,x)::(21,w)::(20,v)::(19,u)::(18,t)::(17,s)::(16,r)::(15,q)::(14,p)::(13,o)::(12,n)::(11,m)::l) l = [(0,a),(1,b),(2,c),(6,d),(7,e),(8,f),(9,g),(10,h),(35,K),(40,j),(49,k)] := by intros; rfl
      refine R_nil (tr ..) ?_; clear tr
      refine then_n ?_
      refine cdd (fun h6 => ?_) (fun h6 => ?_)
      ·
       try simp only [decide_eq_true_eq, decide_eq_false_iff_not, Bool.not_eq_true', Bool.not_eq_false', beq_iff_eq, beq_eq_false_iff_ne, ne_eq] at h6
       refine at_seq rfl ?_
       refine rg rfl ?_
       refine Rq ?_
       refine Rq ?_
       have tr : ∀ a b c d e f g h i j k m n : AV, let l := lc_day_ok a b c d e f g h i j k; trim ((7,n)::(6,m)::l) l = [(0,a),(1,b),(2,c),(6,m),(7,n),(8,f),(9,g),(10,h),(35,i),(40,j),(49,k)] := by intros; rfl
       refine R_nil (tr ..) ?_; clear tr
       refine then_n ?_
       refine at_ret rfl ?_
       refine then_r ?_
       first | (refine fpure ?_; refine ⟨?_, rfl⟩; rw [dayS, if_pos (by omega)]; done) | (refine fpure ?_; refine ⟨?_, rfl⟩; rw [dayS, if_neg (by omega), show (m - 1).toNat = v by omega, ← hk])
      ·
       try simp only [decide_eq_true_eq, decide_eq_false_iff_not, Bool.not_eq_true', Bool.not_eq_false', beq_iff_eq, beq_eq_false_iff_ne, ne_eq] at h6
       refine at_skip rfl ?_
       refine then_n ?_
       refine at_seq rfl ?_
       refine rg rfl ?_
       have hlr := lenS_rng Y m
       refine Rq ?_
       refine Rq ?_
       refine Rq ?_
       have tr : ∀ a b c d e f g h i j k m n o : AV, let l := lc_day_ok a b c d e f g h i j k; trim ((8,o)::(37,n)::(36,m)::l) l = [(0,a),(1,b),(2,c),(6,d),(7,e),(8,o),(9,g),(10,h),(35,i),(40,j),(49,k)] := by intros; rfl
       refine R_nil (tr ..) ?_; clear tr
       refine then_n ?_
       refine at_seq rfl ?_
       refine at_seq rfl ?_
       refine rg rfl ?_
       refine Rq ?_
       have tr : ∀ a b c d e f g h i j k m : AV, let l := lc_day_ok a b c d e f g h i j k; trim ((9,m)::l) l = [(0,a),(1,b),(2,c),(6,d),(7,e),(8,f),(9,m),(10,h),(35,i),(40,j),(49,k)] := by intros; rfl
       refine R_nil (tr ..) ?_; clear tr
       refine then_n ?_
       refine at_block rfl ?_
       refine loop_n rfl (fun mm kv H' => ∃ u : Nat, ∃ y : Int, ∃ n : Int, ∃ x40 : AV, (kv = [(8, AV.i n), (9, AV.i y), (40, x40)]) ∧ (mm = (Y - 1900).toNat - u) ∧ (H' = H) ∧ ((u : Int) ≤ Y - 1900) ∧ (y = 1900 + (u : Int)) ∧ (n = d - 1 + yS u)) ⟨0, 1900, d - 1, _, rfl, rfl, rfl, by omega, by omega, by (rw [yS]; omega)⟩ (by rfl) ?_
       rintro mm kv H' ⟨u, y, n, x40, rfl, rfl, rfl, hu, hy, hn⟩
       have tr : ∀ a b c d e f g h i j k m n o : AV, upd [(0,a),(1,b),(2,c),(6,d),(7,e),(8,f),(9,g),(10,h),(35,i),(40,j),(49,k)] [(8,m),(9,n),(40,o)] = [(0,a),(1,b),(2,c),(6,d),(7,e),(8,m),(9,n),(10,h),(35,i),(40,o),(49,k)] := by intros; rfl
       refine W_to (tr ..) ?_; clear tr
       obtain ⟨H, hHH⟩ : ∃ x, x = H' := ⟨_, rfl⟩
       subst hHH
       have hyr := yS_rng u
       have hdr := daysS_rng y
       refine at_seq rfl ?_
       refine at_seq rfl ?_
       refine rg rfl ?_
       refine Rq ?_
       refine Rq ?_
       refine Rq ?_
       have tr : ∀ a b c d e f g h i j k m n o : AV, let l := lc_day_ok a b c d e f g h i j k; trim ((40,o)::(39,n)::(38,m)::l) l = [(0,a),(1,b),(2,c),(6,d),(7,e),(8,f),(9,g),(10,h),(35,i),(40,o),(49,k)] := by intros; rfl
       refine R_nil (tr ..) ?_; clear tr
       refine then_n ?_
       refine cdd (fun h7 => ?_) (fun h7 => ?_)
       ·
        try simp only [decide_eq_true_eq, decide_eq_false_iff_not, Bool.not_eq_true', Bool.not_eq_false', beq_iff_eq, beq_eq_false_iff_ne, ne_eq] at h7
        refine at_skip rfl ?_
        refine then_n ?_
        refine at_seq rfl ?_
        refine at_block rfl ?_
        refine rg rfl ?_
        refine Rq ?_
        refine Rq ?_
        refine Rcall ?_
        refine ACall_eq (days_ok _ _ _) ?_
        refine Rq ?_
        refine Rq ?_
        have tr : ∀ a b c d e f g h i j k m n o p q : AV, let l := lc_day_ok a b c d e f g h i j k; trim ((8,q)::(46,p)::(45,o)::(44,n)::(43,m)::l) l = [(0,a),(1,b),(2,c),(6,d),(7,e),(8,q),(9,g),(10,h),(35,i),(40,j),(49,k)] := by intros; rfl
        refine R_nil (tr ..) ?_; clear tr
        refine blk_n ?_
        refine then_n ?_
        refine rg rfl ?_
        refine Rq ?_
        refine Rq ?_
        refine Rq ?_
        have tr : ∀ a b c d e f g h i j k m n o : AV, let l := lc_day_ok a b c d e f g h i j k; trim ((9,o)::(42,n)::(41,m)::l) l = [(0,a),(1,b),(2,c),(6,d),(7,e),(8,f),(9,o),(10,h),(35,i),(40,j),(49,k)] := by intros; rfl
        refine R_nil (tr ..) ?_; clear tr
        refine then_n ?_
        exact ⟨_, _, ⟨u + 1, y + 1, n + daysS y, _, rfl, rfl, rfl, by omega, by omega, by (subst hy; rw [yS, hn]; omega)⟩, by rfl, by omega⟩
       ·
        try simp only [decide_eq_true_eq, decide_eq_false_iff_not, Bool.not_eq_true', Bool.not_eq_false', beq_iff_eq, beq_eq_false_iff_ne, ne_eq] at h7
        refine at_exit rfl ?_
        refine then_x ?_
        refine then_x ?_
        refine blk_x ?_
        refine then_n ?_
        refine at_seq rfl ?_
        refine at_seq rfl ?_
        refine rg rfl ?_
        refine Rq ?_
        have tr : ∀ a b c d e f g h i j k m : AV, let l := lc_day_ok a b c d e f g h i j k; trim ((10,m)::l) l = [(0,a),(1,b),(2,c),(6,d),(7,e),(8,f),(9,g),(10,m),(35,i),(40,j),(49,k)] := by intros; rfl
        refine R_nil (tr ..) ?_; clear tr
        refine then_n ?_
        refine at_block rfl ?_
        refine loop_n rfl (fun mm kv H' => ∃ v : Nat, ∃ z : Int, ∃ k : Int, ∃ x49 : AV, (kv = [(8, AV.i k), (10, AV.i z), (49, x49)]) ∧ (mm = (m - 1).toNat - v) ∧ (H' = H) ∧ ((v : Int) ≤ m - 1) ∧ (z = 1 + (v : Int)) ∧ (k = d - 1 + yS (Y - 1900).toNat + mS Y v)) ⟨0, 1, n, _, rfl, rfl, rfl, by omega, by omega, by (rw [mS, hn, show (Y - 1900).toNat = u by omega]; omega)⟩ (by rfl) ?_
        rintro mm kv H' ⟨v, z, k, x49, rfl, rfl, rfl, hv, hz, hk⟩
        have tr : ∀ a b c d e f g h i j k m n o : AV, upd [(0,a),(1,b),(2,c),(6,d),(7,e),(8,f),(9,g),(10,h),(35,i),(40,j),(49,k)] [(8,m),(10,n),(49,o)] = [(0,a),(1,b),(2,c),(6,d),(7,e),(8,m),(9,g),(10,n),(35,i),(40,j),(49,o)] := by intros; rfl
        refine W_to (tr ..) ?_; clear tr
        have hmr := mS_rng Y v
        have hlz := lenS_rng Y z
        have hyy := yS_rng (Y - 1900).toNat
        refine at_seq rfl ?_
        refine at_seq rfl ?_
        refine rg rfl ?_
        refine Rq ?_
        refine Rq ?_
        refine Rq ?_
        have tr : ∀ a b c d e f g h i j k m n o : AV, let l := lc_day_ok a b c d e f g h i j k; trim ((49,o)::(48,n)::(47,m)::l) l = [(0,a),(1,b),(2,c),(6,d),(7,e),(8,f),(9,g),(10,h),(35,i),(40,j),(49,o)] := by intros; rfl
        refine R_nil (tr ..) ?_; clear tr
        refine then_n ?_
        refine cdd (fun h8 => ?_) (fun h8 => ?_)
        ·
         try simp only [decide_eq_true_eq, decide_eq_false_iff_not, Bool.not_eq_true', Bool.not_eq_false', beq_iff_eq, beq_eq_false_iff_ne, ne_eq] at h8
         refine at_skip rfl ?_
         refine then_n ?_
         refine at_seq rfl ?_
         refine at_block rfl ?_
         refine rg rfl ?_
         refine Rq ?_
         refine Rq ?_
         refine Rq ?_
         refine Rcall ?_
         refine ACall_eq (length_ok _ _ _ _) ?_
         refine Rq ?_
         refine Rq ?_
         have tr : ∀ a b c d e f g h i j k m n o p q r : AV, let l := lc_day_ok a b c d e f g h i j k; trim ((8,r)::(56,q)::(55,p)::(54,o)::(53,n)::(52,m)::l) l = [(0,a),(1,b),(2,c),(6,d),(7,e),(8,r),(9,g),(10,h),(35,i),(40,j),(49,k)] := by intros; rfl
         refine R_nil (tr ..) ?_; clear tr
         refine blk_n ?_
         refine then_n ?_
         refine rg rfl ?_
         refine Rq ?_
         refine Rq ?_
         refine Rq ?_
         have tr : ∀ a b c d e f g h i j k m n o : AV, let l := lc_day_ok a b c d e f g h i j k; trim ((10,o)::(51,n)::(50,m)::l) l = [(0,a),(1,b),(2,c),(6,d),(7,e),(8,f),(9,g),(10,o),(35,i),(40,j),(49,k)] := by intros; rfl
         refine R_nil (tr ..) ?_; clear tr
         refine then_n ?_
         exact ⟨_, _, ⟨v + 1, z + 1, k + lenS Y z, _, rfl, rfl, rfl, by omega, by omega, by (subst hz; rw [mS, hk]; omega)⟩, by rfl, by omega⟩
        ·
         try simp only [decide_eq_true_eq, decide_eq_false_iff_not, Bool.not_eq_true', Bool.not_eq_false', beq_iff_eq, beq_eq_false_iff_ne, ne_eq] at h8
         refine at_exit rfl ?_
         refine then_x ?_
         refine then_x ?_
         refine blk_x ?_
         refine then_n ?_
         refine at_seq rfl ?_
         refine rg rfl ?_
         refine Rq ?_
         refine Rq ?_
         refine Rq ?_
         have tr : ∀ a b c d e f g h i j k m n o : AV, let l := lc_day_ok a b c d e f g h i j k; trim ((7,o)::(6,n)::(57,m)::l) l = [(0,a),(1,b),(2,c),(6,n),(7,o),(8,f),(9,g),(10,h),(35,i),(40,j),(49,k)] := by intros; rfl
         refine R_nil (tr ..) ?_; clear tr
         refine then_n ?_
         refine at_ret rfl ?_
         first | (refine fpure ?_; refine ⟨?_, rfl⟩; rw [dayS, if_pos (by omega)]; done) | (refine fpure ?_; refine ⟨?_, rfl⟩; rw [dayS, if_neg (by omega), show (m - 1).toNat = v by omega, ← hk])

abbrev lc_rday_ok (a b c d e f g h i j k m : AV) : Env := [(0,a),(1,b),(2,c),(6,d),(7,e),(8,f),(9,g),(10,h),(35,i),(40,j),(46,k),(51,m)]
theorem rday_ok (lim : Nat) (H : Heap) (Y m d : Int) : ACall sig lim 11 [AV.i Y, AV.i m, AV.i d] H fun r H' => r = .tup [AV.i (dayS Y m d).1, AV.i (dayS Y m d).2] ∧ H' = H := by
 refine ACall_pure (fa := fa11) rfl rfl rfl rfl ?_
 have tr : ∀ a0 a1 a2 : AV, env0 fa11.keep [a0, a1, a2] = [(0,a0),(1,a1),(2,a2),(6,.any),(7,.any),(8,.any),(9,.any),(10,.any),(35,.any),(40,.any),(46,.any),(51,.any)] := fun a0 a1 a2 => rfl
 refine W_to (tr _ _ _) ?_; clear tr
 refine at_seq rfl ?_
 refine rg rfl ?_
 refine Rq ?_
 refine Rq ?_
 have tr : ∀ a b c d e f g h i j k m n o : AV, let l := lc_rday_ok a b c d e f g h i j k m; trim ((7,o)::(6,n)::l) l = [(0,a),(1,b),(2,c),(6,n),(7,o),(8,f),(9,g),(10,h),(35,i),(40,j),(46,k),(51,m)] := by intros; rfl
 refine R_nil (tr ..) ?_; clear tr
 refine then_n ?_
 refine at_seq rfl ?_
 refine at_seq rfl ?_
 refine rg rfl ?_
 refine Rq ?_
 refine Rq ?_
 refine Rq ?_
 refine Rp_split (fun h1 => ?_) (fun h1 => ?_)
 ·
  try simp only [decide_eq_true_eq, decide_eq_false_iff_not, Bool.not_eq_true', Bool.not_eq_false', beq_iff_eq, beq_eq_false_iff_ne, ne_eq] at h1
  refine Rn ?_
  refine Rn ?_
  refine Rq ?_
  refine Rq ?_
  refine Rn ?_
  refine Rn ?_
  refine Rq ?_
  refine Rq ?_
  refine Rn ?_
  refine Rn ?_
  refine Rq ?_
  refine Rq ?_
  refine Rn ?_
  refine Rn ?_
  refine Rq ?_
  refine Rq ?_
  refine Rn ?_
  refine Rn ?_
  refine Rn ?_
  refine Rn ?_
  refine Rn ?_
  refine Rq ?_
  have tr : ∀ a b c d e f g h i j k m n o p q r s t u v w x y z A B C D E F G H I J K L : AV, let l := lc_rday_ok a b c d e f g h i j k m; trim ((35,L)::(34,K)::(33,J)::(32,I)::(31,H)::(30,G)::(29,F)::(28,E)::(27,D)::(26,C)::(25,B)::(24,A)::(23,z)::(22,y)::(21,x)::(20,w)::(19,v)::(18,u)::(17,t)::(16,s)::(15,r)::(14,q)::(13,p)::(12,o)::(11,n)::l) l = [(0,a),(1,b),(2,c),(6,d),(7,e),(8,f),(9,g),(10,h),(35,L),(40,j),(46,k),(51,m)] := by intros; rfl
  refine R_nil (tr ..) ?_; clear tr
  refine then_n ?_
  refine cdt ?_
  refine at_seq rfl ?_
  refine rg rfl ?_
  refine Rq ?_
  refine Rq ?_
  have tr : ∀ a b c d e f g h i j k m n o : AV, let l := lc_rday_ok a b c d e f g h i j k m; trim ((7,o)::(6,n)::l) l = [(0,a),(1,b),(2,c),(6,n),(7,o),(8,f),(9,g),(10,h),(35,i),(40,j),(46,k),(51,m)] := by intros; rfl
  refine R_nil (tr ..) ?_; clear tr
  refine then_n ?_
  refine at_ret rfl ?_
  refine then_r ?_
  first | (refine fpure ?_; refine ⟨?_, rfl⟩; rw [dayS, if_pos (by omega)]; done) | (refine fpure ?_; refine ⟨?_, rfl⟩; rw [dayS, if_neg (by omega), show (m - 1).toNat = v by omega, ← hk])
 ·
  try simp only [decide_eq_true_eq, decide_eq_false_iff_not, Bool.not_eq_true', Bool.not_eq_false', beq_iff_eq, beq_eq_false_iff_ne, ne_eq] at h1
  refine Ry ?_
  refine Rq ?_
  refine Ry ?_
  refine Rq ?_
  refine Rq ?_
  refine Rq ?_
  refine Rp_split (fun h2 => ?_) (fun h2 => ?_)
  ·
   try simp only [decide_eq_true_eq, decide_eq_false_iff_not, Bool.not_eq_true', Bool.not_eq_false', beq_iff_eq, beq_eq_false_iff_ne, ne_eq] at h2
   refine Rn ?_
   refine Rn ?_
   refine Rq ?_
   refine Rq ?_
   refine Rn ?_
   refine Rn ?_
   refine Rq ?_
   refine Rq ?_
   refine Rn ?_
   refine Rn ?_
   refine Rq ?_
   refine Rq ?_
   refine Rn ?_
   refine Rn ?_
   refine Rn ?_
   refine Rn ?_
   refine Rn ?_
   refine Rq ?_
   have tr : ∀ a b c d e f g h i j k m n o p q r s t u v w x y z A B C D E F G H I J K L : AV, let l := lc_rday_ok a b c d e f g h i j k m; trim ((35,L)::(34,K)::(33,J)::(32,I)::(31,H)::(30,G)::(29,F)::(28,E)::(27,D)::(26,C)::(25,B)::(24,A)::(23,z)::(22,y)::(21,x)::(20,w)::(19,v)::(18,u)::(17,t)::(16,s)::(15,r)::(14,q)::(13,p)::(12,o)::(11,n)::l) l = [(0,a),(1,b),(2,c),(6,d),(7,e),(8,f),(9,g),(10,h),(35,L),(40,j),(46,k),(51,m)] := by intros; rfl
   refine R_nil (tr ..) ?_; clear tr
   refine then_n ?_
   refine cdt ?_
   refine at_seq rfl ?_
   refine rg rfl ?_
   refine Rq ?_
   refine Rq ?_
   have tr : ∀ a b c d e f g h i j k m n o : AV, let l := lc_rday_ok a b c d e f g h i j k m; trim ((7,o)::(6,n)::l) l = [(0,a),(1,b),(2,c),(6,n),(7,o),(8,f),(9,g),(10,h),(35,i),(40,j),(46,k),(51,m)] := by intros; rfl
   refine R_nil (tr ..) ?_; clear tr
   refine then_n ?_
   refine at_ret rfl ?_
   refine then_r ?_
   first | (refine fpure ?_; refine ⟨?_, rfl⟩; rw [dayS, if_pos (by omega)]; done) | (refine fpure ?_; refine ⟨?_, rfl⟩; rw [dayS, if_neg (by omega), show (m - 1).toNat = v by omega, ← hk])
  ·
   try simp only [decide_eq_true_eq, decide_eq_false_iff_not, Bool.not_eq_true', Bool.not_eq_false', beq_iff_eq, beq_eq_false_iff_ne, ne_eq] at h2
   refine Ry ?_
   refine Rq ?_
   refine Ry ?_
   refine Rq ?_
   refine Rq ?_
   refine Rq ?_
   refine Rp_split (fun h3 => ?_) (fun h3 => ?_)
   ·
    try simp only [decide_eq_true_eq, decide_eq_false_iff_not, Bool.not_eq_true', Bool.not_eq_false', beq_iff_eq, beq_eq_false_iff_ne, ne_eq] at h3
    refine Rn ?_
    refine Rn ?_
    refine Rq ?_
    refine Rq ?_
    refine Rn ?_
    refine Rn ?_
    refine Rq ?_
    refine Rq ?_
    refine Rn ?_
    refine Rn ?_
    refine Rn ?_
    refine Rn ?_
    refine Rn ?_
    refine Rq ?_
    have tr : ∀ a b c d e f g h i j k m n o p q r s t u v w x y z A B C D E F G H I J K L : AV, let l := lc_rday_ok a b c d e f g h i j k m; trim ((35,L)::(34,K)::(33,J)::(32,I)::(31,H)::(30,G)::(29,F)::(28,E)::(27,D)::(26,C)::(25,B)::(24,A)::(23,z)::(22,y)::(21,x)::(20,w)::(19,v)::(18,u)::(17,t)::(16,s)::(15,r)::(14,q)::(13,p)::(12,o)::(11,n)::l) l = [(0,a),(1,b),(2,c),(6,d),(7,e),(8,f),(9,g),(10,h),(35,L),(40,j),(46,k),(51,m)] := by intros; rfl
    refine R_nil (tr ..) ?_; clear tr
    refine then_n ?_
    refine cdt ?_
    refine at_seq rfl ?_
    refine rg rfl ?_
    refine Rq ?_
    refine Rq ?_
    have tr : ∀ a b c d e f g h i j k m n o : AV, let l := lc_rday_ok a b c d e f g h i j k m; trim ((7,o)::(6,n)::l) l = [(0,a),(1,b),(2,c),(6,n),(7,o),(8,f),(9,g),(10,h),(35,i),(40,j),(46,k),(51,m)] := by intros; rfl
    refine R_nil (tr ..) ?_; clear tr
    refine then_n ?_
    refine at_ret rfl ?_
    refine then_r ?_
    first | (refine fpure ?_; refine ⟨?_, rfl⟩; rw [dayS, if_pos (by omega)]; done) | (refine fpure ?_; refine ⟨?_, rfl⟩; rw [dayS, if_neg (by omega), show (m - 1).toNat = v by omega, ← hk])
   ·
    try simp only [decide_eq_true_eq, decide_eq_false_iff_not, Bool.not_eq_true', Bool.not_eq_false', beq_iff_eq, beq_eq_false_iff_ne, ne_eq] at h3
    refine Ry ?_
    refine Rq ?_
    refine Ry ?_
    refine Rq ?_
    refine Rq ?_
    refine Rq ?_
    refine Rp_split (fun h4 => ?_) (fun h4 => ?_)
    ·
     try simp only [decide_eq_true_eq, decide_eq_false_iff_not, Bool.not_eq_true', Bool.not_eq_false', beq_iff_eq, beq_eq_false_iff_ne, ne_eq] at h4
     refine Rn ?_
     refine Rn ?_
     refine Rq ?_
     refine Rq ?_
     refine Rn ?_
     refine Rn ?_
     refine Rn ?_
     refine Rn ?_
     refine Rn ?_
     refine Rq ?_
     have tr : ∀ a b c d e f g h i j k m n o p q r s t u v w x y z A B C D E F G H I J K L : AV, let l := lc_rday_ok a b c d e f g h i j k m; trim ((35,L)::(34,K)::(33,J)::(32,I)::(31,H)::(30,G)::(29,F)::(28,E)::(27,D)::(26,C)::(25,B)::(24,A)::(23,z)::(22,y)::(21,x)::(20,w)::(19,v)::(18,u)::(17,t)::(16,s)::(15,r)::(14,q)::(13,p)::(12,o)::(11,n)::l) l = [(0,a),(1,b),(2,c),(6,d),(7,e),(8,f),(9,g),(10,h),(35,L),(40,j),(46,k),(51,m)] := by intros; rfl
     refine R_nil (tr ..) ?_; clear tr
     refine then_n ?_
     refine cdt ?_
     refine at_seq rfl ?_
     refine rg rfl ?_
     refine Rq ?_
     refine Rq ?_
     have tr : ∀ a b c d e f g h i j k m n o : AV, let l := lc_rday_ok a b c d e f g h i j k m; trim ((7,o)::(6,n)::l) l = [(0,a),(1,b),(2,c),(6,n),(7,o),(8,f),(9,g),(10,h),(35,i),(40,j),(46,k),(51,m)] := by intros; rfl
     refine R_nil (tr ..) ?_; clear tr
     refine then_n ?_
     refine at_ret rfl ?_
     refine then_r ?_
     first | (refine fpure ?_; refine ⟨?_, rfl⟩; rw [dayS, if_pos (by omega)]; done) | (refine fpure ?_; refine ⟨?_, rfl⟩; rw [dayS, if_neg (by omega), show (m - 1).toNat = v by omega, ← hk])
    ·
     try simp only [decide_eq_true_eq, decide_eq_false_iff_not, Bool.not_eq_true', Bool.not_eq_false', beq_iff_eq, beq_eq_false_iff_ne, ne_eq] at h4
     refine Ry ?_
     refine Rq ?_
     refine Ry ?_
     refine Rq ?_
     refine Rq ?_
     refine Rq ?_
     refine Rp_split (fun h5 => ?_) (fun h5 => ?_)
     ·
      try simp only [decide_eq_true_eq, decide_eq_false_iff_not, Bool.not_eq_true', Bool.not_eq_false', beq_iff_eq, beq_eq_false_iff_ne, ne_eq] at h5
      refine Rn ?_
      refine Rn ?_
      refine Rn ?_
      refine Rn ?_
      refine Rn ?_
      refine Rq ?_
      have tr : ∀ a b c d e f g h i j k m n o p q r s t u v w x y z A B C D E F G H I J K L : AV, let l := lc_rday_ok a b c d e f g h i j k m; trim ((35,L)::(34,K)::(33,J)::(32,I)::(31,H)::(30,G)::(29,F)::(28,E)::(27,D)::(26,C)::(25,B)::(24,A)::(23,z)::(22,y)::(21,x)::(20,w)::(19,v)::(18,u)::(17,t)::(16,s)::(15,r)::(14,q)::(13,p)::(12,o)::(11,n)::l) l = [(0,a),(1,b),(2,c),(6,d),(7,e),(8,f),(9,g),(10,h),(35,L),(40,j),(46,k),(51,m)] := by intros; rfl
      refine R_nil (tr ..) ?_; clear tr
      refine then_n ?_
      refine cdt ?_
      refine at_seq rfl ?_
      refine rg rfl ?_
      refine Rq ?_
      refine Rq ?_
      have tr : ∀ a b c d e f g h i j k m n o : AV, let l := lc_rday_ok a b c d e f g h i j k m; trim ((7,o)::(6,n)::l) l = [(0,a),(1,b),(2,c),(6,n),(7,o),(8,f),(9,g),(10,h),(35,i),(40,j),(46,k),(51,m)] := by intros; rfl
      refine R_nil (tr ..) ?_; clear tr
      refine then_n ?_
      refine at_ret rfl ?_
      refine then_r ?_
      first | (refine fpure ?_; refine ⟨?_, rfl⟩; rw [dayS, if_pos (by omega)]; done) | (refine fpure ?_; refine ⟨?_, rfl⟩; rw [dayS, if_neg (by omega), show (m - 1).toNat = v by omega, ← hk])
     ·
      try simp only [decide_eq_true_eq, decide_eq_false_iff_not, Bool.not_eq_true', Bool.not_eq_false', beq_iff_eq, beq_eq_false_iff_ne, ne_eq] at h5
      refine Ry ?_
      refine Rq ?_
      refine Ry ?_
      refine Rq ?_
      refine Ry ?_
      refine Rq ?_
      refine Ry ?_
      refine Rcall ?_
      refine ACall_eq (rlength_ok _ _ _ _) ?_
      refine Ry ?_
      refine Rq ?_
      refine Rq ?_
      have tr : ∀ a b c d e f g h i j k m n o p q r s t u v w x y z A B C D E F G H I J K L : AV, let l := lc_rday_ok a b c d e f g h i j k m; trim ((35,L)::(34,K)::(33,J)::(32,I)::(31,H)::(30,G)::(29,F)::(28,E)::(27,D)::(26,C)::(25,B)::(24,A)::(23,z)::(22,y)::(21,x)::(20,w)::(19,v)::(18,u)::(17,t)::(16,s)::(15,r)::(14,q)::(13,p)::(12,o)::(11,n)::l) l = [(0,a),(1,b),(2,c),(6,d),(7,e),(8,f),(9,g),(10,h),(35,L),(40,j),(46,k),(51,m)] := by intros; rfl
      refine R_nil (tr ..) ?_; clear tr
      refine then_n ?_
      refine cdd (fun h6 => ?_) (fun h6 => ?_)
      ·
       try simp only [decide_eq_true_eq, decide_eq_false_iff_not, Bool.not_eq_true', Bool.not_eq_false', beq_iff_eq, beq_eq_false_iff_ne, ne_eq] at h6
       refine at_seq rfl ?_
       refine rg rfl ?_
       refine Rq ?_
       refine Rq ?_
       have tr : ∀ a b c d e f g h i j k m n o : AV, let l := lc_rday_ok a b c d e f g h i j k m; trim ((7,o)::(6,n)::l) l = [(0,a),(1,b),(2,c),(6,n),(7,o),(8,f),(9,g),(10,h),(35,i),(40,j),(46,k),(51,m)] := by intros; rfl
       refine R_nil (tr ..) ?_; clear tr
       refine then_n ?_
       refine at_ret rfl ?_
       refine then_r ?_
       first | (refine fpure ?_; refine ⟨?_, rfl⟩; rw [dayS, if_pos (by omega)]; done) | (refine fpure ?_; refine ⟨?_, rfl⟩; rw [dayS, if_neg (by omega), show (m - 1).toNat = v by omega, ← hk])
      ·
       try simp only [decide_eq_true_eq, decide_eq_false_iff_not, Bool.not_eq_true', Bool.not_eq_false', beq_iff_eq, beq_eq_false_iff_ne, ne_eq] at h6
       refine at_skip rfl ?_
       refine then_n ?_
       refine at_seq rfl ?_
       refine rg rfl ?_
       have hlr := lenS_rng Y m
       refine Rq ?_
       refine Rq ?_
       refine Rq ?_
       have tr : ∀ a b c d e f g h i j k m n o p : AV, let l := lc_rday_ok a b c d e f g h i j k m; trim ((8,p)::(37,o)::(36,n)::l) l = [(0,a),(1,b),(2,c),(6,d),(7,e),(8,p),(9,g),(10,h),(35,i),(40,j),(46,k),(51,m)] := by intros; rfl
       refine R_nil (tr ..) ?_; clear tr
       refine then_n ?_
       refine at_seq rfl ?_
       refine at_seq rfl ?_
       refine rg rfl ?_
       refine Rq ?_
       have tr : ∀ a b c d e f g h i j k m n : AV, let l := lc_rday_ok a b c d e f g h i j k m; trim ((9,n)::l) l = [(0,a),(1,b),(2,c),(6,d),(7,e),(8,f),(9,n),(10,h),(35,i),(40,j),(46,k),(51,m)] := by intros; rfl
       refine R_nil (tr ..) ?_; clear tr
       refine then_n ?_
       refine at_block rfl ?_
       refine loop_n rfl (fun mm kv H' => ∃ u : Nat, ∃ y : Int, ∃ n : Int, ∃ x40 x46 : AV, (kv = [(8, AV.i n), (9, AV.i y), (40, x40), (46, x46)]) ∧ (mm = (Y - 1900).toNat - u) ∧ (H' = H) ∧ ((u : Int) ≤ Y - 1900) ∧ (y = 1900 + (u : Int)) ∧ (n = d - 1 + yS u)) ⟨0, 1900, d - 1, _, _, rfl, rfl, rfl, by omega, by omega, by (rw [yS]; omega)⟩ (by rfl) ?_
       rintro mm kv H' ⟨u, y, n, x40, x46, rfl, rfl, rfl, hu, hy, hn⟩
       have tr : ∀ a b c d e f g h i j k m n o p q : AV, upd [(0,a),(1,b),(2,c),(6,d),(7,e),(8,f),(9,g),(10,h),(35,i),(40,j),(46,k),(51,m)] [(8,n),(9,o),(40,p),(46,q)] = [(0,a),(1,b),(2,c),(6,d),(7,e),(8,n),(9,o),(10,h),(35,i),(40,p),(46,q),(51,m)] := by intros; rfl
       refine W_to (tr ..) ?_; clear tr
       obtain ⟨H, hHH⟩ : ∃ x, x = H' := ⟨_, rfl⟩
       subst hHH
       have hyr := yS_rng u
       have hdr := daysS_rng y
       refine at_seq rfl ?_
       refine at_seq rfl ?_
       refine rg rfl ?_
       refine Rq ?_
       refine Rq ?_
       refine Rq ?_
       have tr : ∀ a b c d e f g h i j k m n o p : AV, let l := lc_rday_ok a b c d e f g h i j k m; trim ((40,p)::(39,o)::(38,n)::l) l = [(0,a),(1,b),(2,c),(6,d),(7,e),(8,f),(9,g),(10,h),(35,i),(40,p),(46,k),(51,m)] := by intros; rfl
       refine R_nil (tr ..) ?_; clear tr
       refine then_n ?_
       refine cdd (fun h7 => ?_) (fun h7 => ?_)
       ·
        try simp only [decide_eq_true_eq, decide_eq_false_iff_not, Bool.not_eq_true', Bool.not_eq_false', beq_iff_eq, beq_eq_false_iff_ne, ne_eq] at h7
        refine at_skip rfl ?_
        refine then_n ?_
        refine at_seq rfl ?_
        refine at_block rfl ?_
        refine at_seq rfl ?_
        refine rg rfl ?_
        refine Rq ?_
        refine Rq ?_
        refine Rq ?_
        have tr : ∀ a b c d e f g h i j k m n o p : AV, let l := lc_rday_ok a b c d e f g h i j k m; trim ((8,p)::(44,o)::(43,n)::l) l = [(0,a),(1,b),(2,c),(6,d),(7,e),(8,p),(9,g),(10,h),(35,i),(40,j),(46,k),(51,m)] := by intros; rfl
        refine R_nil (tr ..) ?_; clear tr
        refine then_n ?_
        refine at_seq rfl ?_
        refine rg rfl ?_
        refine Rq ?_
        refine Rcall ?_
        refine ACall_eq (rleap_ok _ _ _) ?_
        have tr : ∀ a b c d e f g h i j k m n o : AV, let l := lc_rday_ok a b c d e f g h i j k m; trim ((46,o)::(45,n)::l) l = [(0,a),(1,b),(2,c),(6,d),(7,e),(8,f),(9,g),(10,h),(35,i),(40,j),(46,o),(51,m)] := by intros; rfl
        refine R_nil (tr ..) ?_; clear tr
        refine then_n ?_
        refine cdd (fun h8 => ?_) (fun h8 => ?_)
        ·
         try simp only [decide_eq_true_eq, decide_eq_false_iff_not, Bool.not_eq_true', Bool.not_eq_false', beq_iff_eq, beq_eq_false_iff_ne, ne_eq] at h8
         refine rg rfl ?_
         refine Rq ?_
         refine Rq ?_
         refine Rq ?_
         have tr : ∀ a b c d e f g h i j k m n o p : AV, let l := lc_rday_ok a b c d e f g h i j k m; trim ((8,p)::(48,o)::(47,n)::l) l = [(0,a),(1,b),(2,c),(6,d),(7,e),(8,p),(9,g),(10,h),(35,i),(40,j),(46,k),(51,m)] := by intros; rfl
         refine R_nil (tr ..) ?_; clear tr
         refine blk_n ?_
         refine then_n ?_
         refine rg rfl ?_
         refine Rq ?_
         refine Rq ?_
         refine Rq ?_
         have tr : ∀ a b c d e f g h i j k m n o p : AV, let l := lc_rday_ok a b c d e f g h i j k m; trim ((9,p)::(42,o)::(41,n)::l) l = [(0,a),(1,b),(2,c),(6,d),(7,e),(8,f),(9,p),(10,h),(35,i),(40,j),(46,k),(51,m)] := by intros; rfl
         refine R_nil (tr ..) ?_; clear tr
         refine then_n ?_
         exact ⟨_, _, ⟨u + 1, y + 1, n + 365 + 1, _, _, rfl, rfl, rfl, by omega, by omega, by (subst hy; rw [yS, hn]; simp_all [daysS] <;> omega)⟩, by rfl, by omega⟩
        ·
         try simp only [decide_eq_true_eq, decide_eq_false_iff_not, Bool.not_eq_true', Bool.not_eq_false', beq_iff_eq, beq_eq_false_iff_ne, ne_eq] at h8
         refine at_skip rfl ?_
         refine blk_n ?_
         refine then_n ?_
         refine rg rfl ?_
         refine Rq ?_
         refine Rq ?_
         refine Rq ?_
         have tr : ∀ a b c d e f g h i j k m n o p : AV, let l := lc_rday_ok a b c d e f g h i j k m; trim ((9,p)::(42,o)::(41,n)::l) l = [(0,a),(1,b),(2,c),(6,d),(7,e),(8,f),(9,p),(10,h),(35,i),(40,j),(46,k),(51,m)] := by intros; rfl
         refine R_nil (tr ..) ?_; clear tr
         refine then_n ?_
         exact ⟨_, _, ⟨u + 1, y + 1, n + 365, _, _, rfl, rfl, rfl, by omega, by omega, by (subst hy; rw [yS, hn]; simp_all [daysS] <;> omega)⟩, by rfl, by omega⟩
       ·
        try simp only [decide_eq_true_eq, decide_eq_false_iff_not, Bool.not_eq_true', Bool.not_eq_false', beq_iff_eq, beq_eq_false_iff_ne, ne_eq] at h7
        refine at_exit rfl ?_
        refine then_x ?_
        refine then_x ?_
        refine blk_x ?_
        refine then_n ?_
        refine at_seq rfl ?_
        refine at_seq rfl ?_
        refine rg rfl ?_
        refine Rq ?_
        have tr : ∀ a b c d e f g h i j k m n : AV, let l := lc_rday_ok a b c d e f g h i j k m; trim ((10,n)::l) l = [(0,a),(1,b),(2,c),(6,d),(7,e),(8,f),(9,g),(10,n),(35,i),(40,j),(46,k),(51,m)] := by intros; rfl
        refine R_nil (tr ..) ?_; clear tr
        refine then_n ?_
        refine at_block rfl ?_
        refine loop_n rfl (fun mm kv H' => ∃ v : Nat, ∃ z : Int, ∃ k : Int, ∃ x51 : AV, (kv = [(8, AV.i k), (10, AV.i z), (51, x51)]) ∧ (mm = (m - 1).toNat - v) ∧ (H' = H) ∧ ((v : Int) ≤ m - 1) ∧ (z = 1 + (v : Int)) ∧ (k = d - 1 + yS (Y - 1900).toNat + mS Y v)) ⟨0, 1, n, _, rfl, rfl, rfl, by omega, by omega, by (rw [mS, hn, show (Y - 1900).toNat = u by omega]; omega)⟩ (by rfl) ?_
        rintro mm kv H' ⟨v, z, k, x51, rfl, rfl, rfl, hv, hz, hk⟩
        have tr : ∀ a b c d e f g h i j k m n o p : AV, upd [(0,a),(1,b),(2,c),(6,d),(7,e),(8,f),(9,g),(10,h),(35,i),(40,j),(46,k),(51,m)] [(8,n),(10,o),(51,p)] = [(0,a),(1,b),(2,c),(6,d),(7,e),(8,n),(9,g),(10,o),(35,i),(40,j),(46,k),(51,p)] := by intros; rfl
        refine W_to (tr ..) ?_; clear tr
        have hmr := mS_rng Y v
        have hlz := lenS_rng Y z
        have hyy := yS_rng (Y - 1900).toNat
        refine at_seq rfl ?_
        refine at_seq rfl ?_
        refine rg rfl ?_
        refine Rq ?_
        refine Rq ?_
        refine Rq ?_
        have tr : ∀ a b c d e f g h i j k m n o p : AV, let l := lc_rday_ok a b c d e f g h i j k m; trim ((51,p)::(50,o)::(49,n)::l) l = [(0,a),(1,b),(2,c),(6,d),(7,e),(8,f),(9,g),(10,h),(35,i),(40,j),(46,k),(51,p)] := by intros; rfl
        refine R_nil (tr ..) ?_; clear tr
        refine then_n ?_
        refine cdd (fun h9 => ?_) (fun h9 => ?_)
        ·
         try simp only [decide_eq_true_eq, decide_eq_false_iff_not, Bool.not_eq_true', Bool.not_eq_false', beq_iff_eq, beq_eq_false_iff_ne, ne_eq] at h9
         refine at_skip rfl ?_
         refine then_n ?_
         refine at_seq rfl ?_
         refine at_block rfl ?_
         refine rg rfl ?_
         refine Rq ?_
         refine Rq ?_
         refine Rq ?_
         refine Rcall ?_
         refine ACall_eq (rlength_ok _ _ _ _) ?_
         refine Rq ?_
         refine Rq ?_
         have tr : ∀ a b c d e f g h i j k m n o p q r s : AV, let l := lc_rday_ok a b c d e f g h i j k m; trim ((8,s)::(58,r)::(57,q)::(56,p)::(55,o)::(54,n)::l) l = [(0,a),(1,b),(2,c),(6,d),(7,e),(8,s),(9,g),(10,h),(35,i),(40,j),(46,k),(51,m)] := by intros; rfl
         refine R_nil (tr ..) ?_; clear tr
         refine blk_n ?_
         refine then_n ?_
         refine rg rfl ?_
         refine Rq ?_
         refine Rq ?_
         refine Rq ?_
         have tr : ∀ a b c d e f g h i j k m n o p : AV, let l := lc_rday_ok a b c d e f g h i j k m; trim ((10,p)::(53,o)::(52,n)::l) l = [(0,a),(1,b),(2,c),(6,d),(7,e),(8,f),(9,g),(10,p),(35,i),(40,j),(46,k),(51,m)] := by intros; rfl
         refine R_nil (tr ..) ?_; clear tr
         refine then_n ?_
         exact ⟨_, _, ⟨v + 1, z + 1, k + lenS Y z, _, rfl, rfl, rfl, by omega, by omega, by (subst hz; rw [mS, hk]; omega)⟩, by rfl, by omega⟩
        ·
         try simp only [decide_eq_true_eq, decide_eq_false_iff_not, Bool.not_eq_true', Bool.not_eq_false', beq_iff_eq, beq_eq_false_iff_ne, ne_eq] at h9
         refine at_exit rfl ?_
         refine then_x ?_
         refine then_x ?_
         refine blk_x ?_
         refine then_n ?_
         refine at_seq rfl ?_
         refine rg rfl ?_
         refine Rq ?_
         refine Rq ?_
         refine Rq ?_
         have tr : ∀ a b c d e f g h i j k m n o p : AV, let l := lc_rday_ok a b c d e f g h i j k m; trim ((7,p)::(6,o)::(59,n)::l) l = [(0,a),(1,b),(2,c),(6,o),(7,p),(8,f),(9,g),(10,h),(35,i),(40,j),(46,k),(51,m)] := by intros; rfl
         refine R_nil (tr ..) ?_; clear tr
         refine then_n ?_
         refine at_ret rfl ?_
         first | (refine fpure ?_; refine ⟨?_, rfl⟩; rw [dayS, if_pos (by omega)]; done) | (refine fpure ?_; refine ⟨?_, rfl⟩; rw [dayS, if_neg (by omega), show (m - 1).toNat = v by omega, ← hk])

end Go.Proofs.YtocmcdejkoejhaaDoor
