/-
  Walks of chapter 48. The steps are written by program (walk.py).
-/
import Derived.Test.YtocmcdejkoejhaaDoorK2
import Derived.Test.YtocmcdejkoejhaaDoorRA
set_option linter.unusedSimpArgs false
set_option linter.unusedVariables false
set_option maxHeartbeats 1000000
set_option maxRecDepth 20000
namespace Go.Proofs.YtocmcdejkoejhaaDoor
open Go Go.Am
abbrev lc_rest_ok (a b c d e f g h i j k m n o p : AV) : Env := [(0,a),(1,b),(4,c),(5,d),(7,e),(8,f),(9,g),(13,h),(20,i),(21,j),(22,k),(23,m),(28,n),(33,o),(47,p)]
theorem rest_ok (lim : Nat) (H : Heap) (l : List Int) (rest : Int) : ACall sig lim 21 [intsAV l, AV.i rest] H fun r H' => r = .tup [AV.i (restS l rest).1, AV.i (restS l rest).2] ∧ H' = H := by
 refine ACall_pure (fa := fa21) rfl rfl rfl rfl ?_
 have tr : ∀ a0 a1 : AV, env0 fa21.keep [a0, a1] = [(0,a0),(1,a1),(4,.any),(5,.any),(7,.any),(8,.any),(9,.any),(13,.any),(20,.any),(21,.any),(22,.any),(23,.any),(28,.any),(33,.any),(47,.any)] := fun a0 a1 => rfl
 refine W_to (tr _ _) ?_; clear tr
 refine at_seq rfl ?_
 refine rg rfl ?_
 refine Rq ?_
 refine Rq ?_
 have tr : ∀ a b c d e f g h i j k m n o p q r : AV, let l := lc_rest_ok a b c d e f g h i j k m n o p; trim ((5,r)::(4,q)::l) l = [(0,a),(1,b),(4,q),(5,r),(7,e),(8,f),(9,g),(13,h),(20,i),(21,j),(22,k),(23,m),(28,n),(33,o),(47,p)] := by intros; rfl
 refine R_nil (tr ..) ?_; clear tr
 refine then_n ?_
 refine at_seq rfl ?_
 refine at_block rfl ?_
 refine at_seq rfl ?_
 refine rg rfl ?_
 refine Rq ?_
 refine Rq ?_
 refine Rq ?_
 refine Rq ?_
 have tr : ∀ a b c d e f g h i j k m n o p q r s t : AV, let l := lc_rest_ok a b c d e f g h i j k m n o p; trim ((9,t)::(12,s)::(11,r)::(10,q)::l) l = [(0,a),(1,b),(4,c),(5,d),(7,e),(8,f),(9,t),(13,h),(20,i),(21,j),(22,k),(23,m),(28,n),(33,o),(47,p)] := by intros; rfl
 refine R_nil (tr ..) ?_; clear tr
 refine then_n ?_
 refine cdd (fun h1 => ?_) (fun h1 => ?_)
 ·
  try simp only [decide_eq_true_eq, decide_eq_false_iff_not, Bool.not_eq_true', Bool.not_eq_false', beq_iff_eq, beq_eq_false_iff_ne, ne_eq] at h1
  refine at_seq rfl ?_
  refine rg rfl ?_
  refine Rq ?_
  refine Rq ?_
  have tr : ∀ a b c d e f g h i j k m n o p q r : AV, let l := lc_rest_ok a b c d e f g h i j k m n o p; trim ((5,r)::(4,q)::l) l = [(0,a),(1,b),(4,q),(5,r),(7,e),(8,f),(9,g),(13,h),(20,i),(21,j),(22,k),(23,m),(28,n),(33,o),(47,p)] := by intros; rfl
  refine R_nil (tr ..) ?_; clear tr
  refine then_n ?_
  refine at_ret rfl ?_
  refine blk_r ?_
  refine then_r ?_
  first | (refine fpure ?_; refine ⟨?_, rfl⟩; rw [rest_a (by omega)]; done) | (refine fpure ?_; refine ⟨?_, rfl⟩; rw [rest_b (by omega) (by omega)]; done) | (refine fpure ?_; refine ⟨?_, rfl⟩; rw [rest_c (u := u) (by omega) (by omega) (by omega) (by omega)]; done) | (refine fpure ?_; refine ⟨?_, rfl⟩; rw [rest_d (by omega) (by omega) hall, ← hr, rF_hit (by omega) (by omega)]; done) | (refine fpure ?_; refine ⟨?_, rfl⟩; rw [rest_d (by omega) (by omega) hall, ← hr, rF_end (by omega)]; done)
 ·
  try simp only [decide_eq_true_eq, decide_eq_false_iff_not, Bool.not_eq_true', Bool.not_eq_false', beq_iff_eq, beq_eq_false_iff_ne, ne_eq] at h1
  refine at_seq rfl ?_
  refine rg rfl ?_
  refine Rq ?_
  refine Rq ?_
  refine Rq ?_
  refine Rp_split (fun h2 => ?_) (fun h2 => ?_)
  ·
   try simp only [decide_eq_true_eq, decide_eq_false_iff_not, Bool.not_eq_true', Bool.not_eq_false', beq_iff_eq, beq_eq_false_iff_ne, ne_eq] at h2
   refine Rn ?_
   refine Rn ?_
   refine Rq ?_
   refine Rq ?_
   have tr : ∀ a b c d e f g h i j k m n o p q r s t u v w : AV, let l := lc_rest_ok a b c d e f g h i j k m n o p; trim ((13,w)::(19,v)::(18,u)::(17,t)::(16,s)::(15,r)::(14,q)::l) l = [(0,a),(1,b),(4,c),(5,d),(7,e),(8,f),(9,g),(13,w),(20,i),(21,j),(22,k),(23,m),(28,n),(33,o),(47,p)] := by intros; rfl
   refine R_nil (tr ..) ?_; clear tr
   refine then_n ?_
   refine cdt ?_
   refine at_seq rfl ?_
   refine rg rfl ?_
   refine Rq ?_
   refine Rq ?_
   have tr : ∀ a b c d e f g h i j k m n o p q r : AV, let l := lc_rest_ok a b c d e f g h i j k m n o p; trim ((5,r)::(4,q)::l) l = [(0,a),(1,b),(4,q),(5,r),(7,e),(8,f),(9,g),(13,h),(20,i),(21,j),(22,k),(23,m),(28,n),(33,o),(47,p)] := by intros; rfl
   refine R_nil (tr ..) ?_; clear tr
   refine then_n ?_
   refine at_ret rfl ?_
   refine blk_r ?_
   refine then_r ?_
   first | (refine fpure ?_; refine ⟨?_, rfl⟩; rw [rest_a (by omega)]; done) | (refine fpure ?_; refine ⟨?_, rfl⟩; rw [rest_b (by omega) (by omega)]; done) | (refine fpure ?_; refine ⟨?_, rfl⟩; rw [rest_c (u := u) (by omega) (by omega) (by omega) (by omega)]; done) | (refine fpure ?_; refine ⟨?_, rfl⟩; rw [rest_d (by omega) (by omega) hall, ← hr, rF_hit (by omega) (by omega)]; done) | (refine fpure ?_; refine ⟨?_, rfl⟩; rw [rest_d (by omega) (by omega) hall, ← hr, rF_end (by omega)]; done)
  ·
   try simp only [decide_eq_true_eq, decide_eq_false_iff_not, Bool.not_eq_true', Bool.not_eq_false', beq_iff_eq, beq_eq_false_iff_ne, ne_eq] at h2
   refine Ry ?_
   refine Rq ?_
   refine Ry ?_
   refine Rq ?_
   refine Rq ?_
   refine Rq ?_
   have tr : ∀ a b c d e f g h i j k m n o p q r s t u v w : AV, let l := lc_rest_ok a b c d e f g h i j k m n o p; trim ((13,w)::(19,v)::(18,u)::(17,t)::(16,s)::(15,r)::(14,q)::l) l = [(0,a),(1,b),(4,c),(5,d),(7,e),(8,f),(9,g),(13,w),(20,i),(21,j),(22,k),(23,m),(28,n),(33,o),(47,p)] := by intros; rfl
   refine R_nil (tr ..) ?_; clear tr
   refine then_n ?_
   refine cdd (fun h3 => ?_) (fun h3 => ?_)
   ·
    try simp only [decide_eq_true_eq, decide_eq_false_iff_not, Bool.not_eq_true', Bool.not_eq_false', beq_iff_eq, beq_eq_false_iff_ne, ne_eq] at h3
    refine at_seq rfl ?_
    refine rg rfl ?_
    refine Rq ?_
    refine Rq ?_
    have tr : ∀ a b c d e f g h i j k m n o p q r : AV, let l := lc_rest_ok a b c d e f g h i j k m n o p; trim ((5,r)::(4,q)::l) l = [(0,a),(1,b),(4,q),(5,r),(7,e),(8,f),(9,g),(13,h),(20,i),(21,j),(22,k),(23,m),(28,n),(33,o),(47,p)] := by intros; rfl
    refine R_nil (tr ..) ?_; clear tr
    refine then_n ?_
    refine at_ret rfl ?_
    refine blk_r ?_
    refine then_r ?_
    first | (refine fpure ?_; refine ⟨?_, rfl⟩; rw [rest_a (by omega)]; done) | (refine fpure ?_; refine ⟨?_, rfl⟩; rw [rest_b (by omega) (by omega)]; done) | (refine fpure ?_; refine ⟨?_, rfl⟩; rw [rest_c (u := u) (by omega) (by omega) (by omega) (by omega)]; done) | (refine fpure ?_; refine ⟨?_, rfl⟩; rw [rest_d (by omega) (by omega) hall, ← hr, rF_hit (by omega) (by omega)]; done) | (refine fpure ?_; refine ⟨?_, rfl⟩; rw [rest_d (by omega) (by omega) hall, ← hr, rF_end (by omega)]; done)
   ·
    try simp only [decide_eq_true_eq, decide_eq_false_iff_not, Bool.not_eq_true', Bool.not_eq_false', beq_iff_eq, beq_eq_false_iff_ne, ne_eq] at h3
    refine at_skip rfl ?_
    refine blk_n ?_
    refine then_n ?_
    refine at_seq rfl ?_
    refine at_seq rfl ?_
    refine rg rfl ?_
    refine Rq ?_
    refine Rq ?_
    refine Rq ?_
    have tr : ∀ a b c d e f g h i j k m n o p q r s : AV, let l := lc_rest_ok a b c d e f g h i j k m n o p; trim ((22,s)::(21,r)::(20,q)::l) l = [(0,a),(1,b),(4,c),(5,d),(7,e),(8,f),(9,g),(13,h),(20,q),(21,r),(22,s),(23,m),(28,n),(33,o),(47,p)] := by intros; rfl
    refine R_nil (tr ..) ?_; clear tr
    refine then_n ?_
    refine at_block rfl ?_
    refine loop_n rfl (fun mm kv H' => ∃ u : Nat, ∃ x4 x5 x7 x23 x28 : AV, (kv = [(4, x4), (5, x5), (7, x7), (22, AV.i u), (23, x23), (28, x28)]) ∧ (mm = l.length - u) ∧ (H' = H) ∧ (u ≤ l.length) ∧ (∀ i, i < u → 0 ≤ gt l i ∧ gt l i ≤ 109572)) ⟨0, _, _, _, _, _, rfl, rfl, rfl, by omega, by intro i hi; omega⟩ (by rfl) ?_
    rintro mm kv H' ⟨u, x4, x5, x7, x23, x28, rfl, rfl, rfl, hu, hq⟩
    have tr : ∀ a b c d e f g h i j k m n o p q r s t u v : AV, upd [(0,a),(1,b),(4,c),(5,d),(7,e),(8,f),(9,g),(13,h),(20,i),(21,j),(22,k),(23,m),(28,n),(33,o),(47,p)] [(4,q),(5,r),(7,s),(22,t),(23,u),(28,v)] = [(0,a),(1,b),(4,q),(5,r),(7,s),(8,f),(9,g),(13,h),(20,i),(21,j),(22,t),(23,u),(28,v),(33,o),(47,p)] := by intros; rfl
    refine W_to (tr ..) ?_; clear tr
    obtain ⟨H, hHH⟩ : ∃ x, x = H' := ⟨_, rfl⟩
    subst hHH
    refine at_seq rfl ?_
    refine rg rfl ?_
    refine Rq ?_
    have tr : ∀ a b c d e f g h i j k m n o p q : AV, let l := lc_rest_ok a b c d e f g h i j k m n o p; trim ((23,q)::l) l = [(0,a),(1,b),(4,c),(5,d),(7,e),(8,f),(9,g),(13,h),(20,i),(21,j),(22,k),(23,q),(28,n),(33,o),(47,p)] := by intros; rfl
    refine R_nil (tr ..) ?_; clear tr
    refine then_n ?_
    refine at_seq rfl ?_
    refine cdd (fun h4 => ?_) (fun h4 => ?_)
    ·
     try simp only [decide_eq_true_eq, decide_eq_false_iff_not, Bool.not_eq_true', Bool.not_eq_false', beq_iff_eq, beq_eq_false_iff_ne, ne_eq] at h4
     refine at_skip rfl ?_
     refine then_n ?_
     refine at_seq rfl ?_
     refine at_block rfl ?_
     refine at_seq rfl ?_
     refine rg rfl ?_
     refine Rq ?_
     refine Rq ?_
     refine Rq ?_
     have tr : ∀ a b c d e f g h i j k m n o p q r s : AV, let l := lc_rest_ok a b c d e f g h i j k m n o p; trim ((7,s)::(25,r)::(24,q)::l) l = [(0,a),(1,b),(4,c),(5,d),(7,s),(8,f),(9,g),(13,h),(20,i),(21,j),(22,k),(23,m),(28,n),(33,o),(47,p)] := by intros; rfl
     refine R_nil (tr ..) ?_; clear tr
     refine then_n ?_
     refine at_seq rfl ?_
     refine rg rfl ?_
     refine Rq ?_
     refine Rcall ?_
     refine ACall_eq (inside_ok _ _ _) ?_
     refine Rq ?_
     have tr : ∀ a b c d e f g h i j k m n o p q r s : AV, let l := lc_rest_ok a b c d e f g h i j k m n o p; trim ((28,s)::(27,r)::(26,q)::l) l = [(0,a),(1,b),(4,c),(5,d),(7,e),(8,f),(9,g),(13,h),(20,i),(21,j),(22,k),(23,m),(28,s),(33,o),(47,p)] := by intros; rfl
     refine R_nil (tr ..) ?_; clear tr
     refine then_n ?_
     refine cdd (fun h5 => ?_) (fun h5 => ?_)
     ·
      try simp only [decide_eq_true_eq, decide_eq_false_iff_not, Bool.not_eq_true', Bool.not_eq_false', beq_iff_eq, beq_eq_false_iff_ne, ne_eq] at h5
      refine at_seq rfl ?_
      refine rg rfl ?_
      refine Rq ?_
      refine Rq ?_
      have tr : ∀ a b c d e f g h i j k m n o p q r : AV, let l := lc_rest_ok a b c d e f g h i j k m n o p; trim ((5,r)::(4,q)::l) l = [(0,a),(1,b),(4,q),(5,r),(7,e),(8,f),(9,g),(13,h),(20,i),(21,j),(22,k),(23,m),(28,n),(33,o),(47,p)] := by intros; rfl
      refine R_nil (tr ..) ?_; clear tr
      refine then_n ?_
      refine at_ret rfl ?_
      refine blk_r ?_
      refine then_r ?_
      refine then_r ?_
      refine blk_r ?_
      refine then_r ?_
      first | (refine fpure ?_; refine ⟨?_, rfl⟩; rw [rest_a (by omega)]; done) | (refine fpure ?_; refine ⟨?_, rfl⟩; rw [rest_b (by omega) (by omega)]; done) | (refine fpure ?_; refine ⟨?_, rfl⟩; rw [rest_c (u := u) (by omega) (by omega) (by omega) (by omega)]; done) | (refine fpure ?_; refine ⟨?_, rfl⟩; rw [rest_d (by omega) (by omega) hall, ← hr, rF_hit (by omega) (by omega)]; done) | (refine fpure ?_; refine ⟨?_, rfl⟩; rw [rest_d (by omega) (by omega) hall, ← hr, rF_end (by omega)]; done)
     ·
      try simp only [decide_eq_true_eq, decide_eq_false_iff_not, Bool.not_eq_true', Bool.not_eq_false', beq_iff_eq, beq_eq_false_iff_ne, ne_eq] at h5
      refine at_skip rfl ?_
      refine blk_n ?_
      refine then_n ?_
      refine rg rfl ?_
      refine Rq ?_
      refine Rq ?_
      have tr : ∀ a b c d e f g h i j k m n o p q r : AV, let l := lc_rest_ok a b c d e f g h i j k m n o p; trim ((22,r)::(29,q)::l) l = [(0,a),(1,b),(4,c),(5,d),(7,e),(8,f),(9,g),(13,h),(20,i),(21,j),(22,r),(23,m),(28,n),(33,o),(47,p)] := by intros; rfl
      refine R_nil (tr ..) ?_; clear tr
      refine then_n ?_
      exact ⟨_, _, ⟨u + 1, _, _, _, _, _, rfl, rfl, rfl, by omega, by exact all_next hq (by omega)⟩, by rfl, by omega⟩
    ·
     try simp only [decide_eq_true_eq, decide_eq_false_iff_not, Bool.not_eq_true', Bool.not_eq_false', beq_iff_eq, beq_eq_false_iff_ne, ne_eq] at h4
     refine at_exit rfl ?_
     refine then_x ?_
     refine then_x ?_
     refine blk_x ?_
     refine then_n ?_
     refine at_seq rfl ?_
     refine at_seq rfl ?_
     refine rg rfl ?_
     have hall : ∀ i, i < l.length → 0 ≤ gt l i ∧ gt l i ≤ 109572 := fun i hi => hq i (by omega)
     refine Rq ?_
     have tr : ∀ a b c d e f g h i j k m n o p q : AV, let l := lc_rest_ok a b c d e f g h i j k m n o p; trim ((8,q)::l) l = [(0,a),(1,b),(4,c),(5,d),(7,e),(8,q),(9,g),(13,h),(20,i),(21,j),(22,k),(23,m),(28,n),(33,o),(47,p)] := by intros; rfl
     refine R_nil (tr ..) ?_; clear tr
     refine then_n ?_
     refine at_block rfl ?_
     refine loop_n rfl (fun mm kv H' => ∃ z : Nat, ∃ x4 x5 x33 x47 : AV, (kv = [(4, x4), (5, x5), (8, AV.i z), (33, x33), (47, x47)]) ∧ (mm = l.length - z) ∧ (H' = H) ∧ (1 ≤ z) ∧ (rF l rest (l.length - z) z = rF l rest (l.length - 1) 1)) ⟨1, _, _, _, _, rfl, rfl, rfl, by omega, by rfl⟩ (by rfl) ?_
     rintro mm kv H' ⟨z, x4, x5, x33, x47, rfl, rfl, rfl, hz, hr⟩
     have tr : ∀ a b c d e f g h i j k m n o p q r s t u : AV, upd [(0,a),(1,b),(4,c),(5,d),(7,e),(8,f),(9,g),(13,h),(20,i),(21,j),(22,k),(23,m),(28,n),(33,o),(47,p)] [(4,q),(5,r),(8,s),(33,t),(47,u)] = [(0,a),(1,b),(4,q),(5,r),(7,e),(8,s),(9,g),(13,h),(20,i),(21,j),(22,k),(23,m),(28,n),(33,t),(47,u)] := by intros; rfl
     refine W_to (tr ..) ?_; clear tr
     have hz0 : z - 1 < l.length ∨ ¬ z < l.length := by omega
     refine at_seq rfl ?_
     refine at_seq rfl ?_
     refine rg rfl ?_
     refine Rq ?_
     refine Rq ?_
     refine Rq ?_
     refine Rq ?_
     have tr : ∀ a b c d e f g h i j k m n o p q r s t : AV, let l := lc_rest_ok a b c d e f g h i j k m n o p; trim ((33,t)::(32,s)::(31,r)::(30,q)::l) l = [(0,a),(1,b),(4,c),(5,d),(7,e),(8,f),(9,g),(13,h),(20,i),(21,j),(22,k),(23,m),(28,n),(33,t),(47,p)] := by intros; rfl
     refine R_nil (tr ..) ?_; clear tr
     refine then_n ?_
     refine cdd (fun h6 => ?_) (fun h6 => ?_)
     ·
      try simp only [decide_eq_true_eq, decide_eq_false_iff_not, Bool.not_eq_true', Bool.not_eq_false', beq_iff_eq, beq_eq_false_iff_ne, ne_eq] at h6
      refine at_skip rfl ?_
      refine then_n ?_
      refine at_seq rfl ?_
      refine at_block rfl ?_
      refine at_seq rfl ?_
      refine rd rfl rfl ?_
      have hd1 := hall z (by omega)
      have hd2 := hall (z - 1) (by omega)
      refine Qq ?_
      refine Qq ?_
      refine Qq ?_
      refine Qq ?_
      refine Qq ?_
      refine Qq ?_
      refine Qq ?_
      refine Qq ?_
      refine Qq ?_
      refine Qq ?_
      refine Qq ?_
      refine Qq ?_
      refine Q_nil ?_
      have tr : ∀ a b c d e f g h i j k m n o p q r s t u v w x y z A B : AV, let l := lc_rest_ok a b c d e f g h i j k m n o p; trim ((47,B)::(46,A)::(45,z)::(44,y)::(43,x)::(42,w)::(41,v)::(40,u)::(39,t)::(38,s)::(37,r)::(36,q)::l) l = [(0,a),(1,b),(4,c),(5,d),(7,e),(8,f),(9,g),(13,h),(20,i),(21,j),(22,k),(23,m),(28,n),(33,o),(47,B)] := by intros; rfl
      refine R_nil (tr ..) ?_; clear tr
      refine then_n ?_
      refine cdd (fun h7 => ?_) (fun h7 => ?_)
      ·
       try simp only [decide_eq_true_eq, decide_eq_false_iff_not, Bool.not_eq_true', Bool.not_eq_false', beq_iff_eq, beq_eq_false_iff_ne, ne_eq] at h7
       refine at_seq rfl ?_
       refine rg rfl ?_
       refine Rq ?_
       refine Rq ?_
       refine Rq ?_
       have tr : ∀ a b c d e f g h i j k m n o p q r s : AV, let l := lc_rest_ok a b c d e f g h i j k m n o p; trim ((5,s)::(4,r)::(48,q)::l) l = [(0,a),(1,b),(4,r),(5,s),(7,e),(8,f),(9,g),(13,h),(20,i),(21,j),(22,k),(23,m),(28,n),(33,o),(47,p)] := by intros; rfl
       refine R_nil (tr ..) ?_; clear tr
       refine then_n ?_
       refine at_ret rfl ?_
       refine blk_r ?_
       refine then_r ?_
       refine then_r ?_
       refine blk_r ?_
       refine then_r ?_
       first | (refine fpure ?_; refine ⟨?_, rfl⟩; rw [rest_a (by omega)]; done) | (refine fpure ?_; refine ⟨?_, rfl⟩; rw [rest_b (by omega) (by omega)]; done) | (refine fpure ?_; refine ⟨?_, rfl⟩; rw [rest_c (u := u) (by omega) (by omega) (by omega) (by omega)]; done) | (refine fpure ?_; refine ⟨?_, rfl⟩; rw [rest_d (by omega) (by omega) hall, ← hr, rF_hit (by omega) (by omega)]; done) | (refine fpure ?_; refine ⟨?_, rfl⟩; rw [rest_d (by omega) (by omega) hall, ← hr, rF_end (by omega)]; done)
      ·
       try simp only [decide_eq_true_eq, decide_eq_false_iff_not, Bool.not_eq_true', Bool.not_eq_false', beq_iff_eq, beq_eq_false_iff_ne, ne_eq] at h7
       refine at_skip rfl ?_
       refine blk_n ?_
       refine then_n ?_
       refine rg rfl ?_
       refine Rq ?_
       refine Rq ?_
       refine Rq ?_
       have tr : ∀ a b c d e f g h i j k m n o p q r s : AV, let l := lc_rest_ok a b c d e f g h i j k m n o p; trim ((8,s)::(35,r)::(34,q)::l) l = [(0,a),(1,b),(4,c),(5,d),(7,e),(8,s),(9,g),(13,h),(20,i),(21,j),(22,k),(23,m),(28,n),(33,o),(47,p)] := by intros; rfl
       refine R_nil (tr ..) ?_; clear tr
       refine then_n ?_
       exact ⟨_, _, ⟨z + 1, _, _, _, _, rfl, rfl, rfl, by omega, by exact (rF_miss (by omega) (by omega)).symm.trans hr⟩, by rfl, by omega⟩
     ·
      try simp only [decide_eq_true_eq, decide_eq_false_iff_not, Bool.not_eq_true', Bool.not_eq_false', beq_iff_eq, beq_eq_false_iff_ne, ne_eq] at h6
      refine at_exit rfl ?_
      refine then_x ?_
      refine then_x ?_
      refine blk_x ?_
      refine then_n ?_
      refine at_seq rfl ?_
      refine rg rfl ?_
      refine Rq ?_
      refine Rq ?_
      have tr : ∀ a b c d e f g h i j k m n o p q r : AV, let l := lc_rest_ok a b c d e f g h i j k m n o p; trim ((5,r)::(4,q)::l) l = [(0,a),(1,b),(4,q),(5,r),(7,e),(8,f),(9,g),(13,h),(20,i),(21,j),(22,k),(23,m),(28,n),(33,o),(47,p)] := by intros; rfl
      refine R_nil (tr ..) ?_; clear tr
      refine then_n ?_
      refine at_ret rfl ?_
      first | (refine fpure ?_; refine ⟨?_, rfl⟩; rw [rest_a (by omega)]; done) | (refine fpure ?_; refine ⟨?_, rfl⟩; rw [rest_b (by omega) (by omega)]; done) | (refine fpure ?_; refine ⟨?_, rfl⟩; rw [rest_c (u := u) (by omega) (by omega) (by omega) (by omega)]; done) | (refine fpure ?_; refine ⟨?_, rfl⟩; rw [rest_d (by omega) (by omega) hall, ← hr, rF_hit (by omega) (by omega)]; done) | (refine fpure ?_; refine ⟨?_, rfl⟩; rw [rest_d (by omega) (by omega) hall, ← hr, rF_end (by omega)]; done)

abbrev lc_rrest_ok (a b c d e f g h i j k m n o p : AV) : Env := [(0,a),(1,b),(4,c),(5,d),(7,e),(8,f),(11,g),(17,h),(18,i),(19,j),(20,k),(21,m),(29,n),(34,o),(48,p)]
theorem rrest_ok (lim : Nat) (H : Heap) (l : List Int) (rest : Int) : ACall sig lim 22 [intsAV l, AV.i rest] H fun r H' => r = .tup [AV.i (restS l rest).1, AV.i (restS l rest).2] ∧ H' = H := by
 refine ACall_pure (fa := fa22) rfl rfl rfl rfl ?_
 have tr : ∀ a0 a1 : AV, env0 fa22.keep [a0, a1] = [(0,a0),(1,a1),(4,.any),(5,.any),(7,.any),(8,.any),(11,.any),(17,.any),(18,.any),(19,.any),(20,.any),(21,.any),(29,.any),(34,.any),(48,.any)] := fun a0 a1 => rfl
 refine W_to (tr _ _) ?_; clear tr
 refine at_seq rfl ?_
 refine rg rfl ?_
 refine Rq ?_
 refine Rq ?_
 have tr : ∀ a b c d e f g h i j k m n o p q r : AV, let l := lc_rrest_ok a b c d e f g h i j k m n o p; trim ((5,r)::(4,q)::l) l = [(0,a),(1,b),(4,q),(5,r),(7,e),(8,f),(11,g),(17,h),(18,i),(19,j),(20,k),(21,m),(29,n),(34,o),(48,p)] := by intros; rfl
 refine R_nil (tr ..) ?_; clear tr
 refine then_n ?_
 refine at_seq rfl ?_
 refine at_seq rfl ?_
 refine rg rfl ?_
 refine Rq ?_
 refine Rq ?_
 refine Rq ?_
 have tr : ∀ a b c d e f g h i j k m n o p q r s : AV, let l := lc_rrest_ok a b c d e f g h i j k m n o p; trim ((11,s)::(10,r)::(9,q)::l) l = [(0,a),(1,b),(4,c),(5,d),(7,e),(8,f),(11,s),(17,h),(18,i),(19,j),(20,k),(21,m),(29,n),(34,o),(48,p)] := by intros; rfl
 refine R_nil (tr ..) ?_; clear tr
 refine then_n ?_
 refine cdd (fun h1 => ?_) (fun h1 => ?_)
 ·
  try simp only [decide_eq_true_eq, decide_eq_false_iff_not, Bool.not_eq_true', Bool.not_eq_false', beq_iff_eq, beq_eq_false_iff_ne, ne_eq] at h1
  refine at_seq rfl ?_
  refine rg rfl ?_
  refine Rq ?_
  refine Rq ?_
  have tr : ∀ a b c d e f g h i j k m n o p q r : AV, let l := lc_rrest_ok a b c d e f g h i j k m n o p; trim ((5,r)::(4,q)::l) l = [(0,a),(1,b),(4,q),(5,r),(7,e),(8,f),(11,g),(17,h),(18,i),(19,j),(20,k),(21,m),(29,n),(34,o),(48,p)] := by intros; rfl
  refine R_nil (tr ..) ?_; clear tr
  refine then_n ?_
  refine at_ret rfl ?_
  refine then_r ?_
  first | (refine fpure ?_; refine ⟨?_, rfl⟩; rw [rest_a (by omega)]; done) | (refine fpure ?_; refine ⟨?_, rfl⟩; rw [rest_b (by omega) (by omega)]; done) | (refine fpure ?_; refine ⟨?_, rfl⟩; rw [rest_c (u := u) (by omega) (by omega) (by omega) (by omega)]; done) | (refine fpure ?_; refine ⟨?_, rfl⟩; rw [rest_d (by omega) (by omega) hall, ← hr, rF_hit (by omega) (by omega)]; done) | (refine fpure ?_; refine ⟨?_, rfl⟩; rw [rest_d (by omega) (by omega) hall, ← hr, rF_end (by omega)]; done)
 ·
  try simp only [decide_eq_true_eq, decide_eq_false_iff_not, Bool.not_eq_true', Bool.not_eq_false', beq_iff_eq, beq_eq_false_iff_ne, ne_eq] at h1
  refine at_skip rfl ?_
  refine then_n ?_
  refine at_seq rfl ?_
  refine at_seq rfl ?_
  refine rg rfl ?_
  refine Rq ?_
  refine Rq ?_
  refine Rq ?_
  refine Rp_split (fun h2 => ?_) (fun h2 => ?_)
  ·
   try simp only [decide_eq_true_eq, decide_eq_false_iff_not, Bool.not_eq_true', Bool.not_eq_false', beq_iff_eq, beq_eq_false_iff_ne, ne_eq] at h2
   refine Rn ?_
   refine Rn ?_
   refine Rq ?_
   have tr : ∀ a b c d e f g h i j k m n o p q r s t u v : AV, let l := lc_rrest_ok a b c d e f g h i j k m n o p; trim ((17,v)::(16,u)::(15,t)::(14,s)::(13,r)::(12,q)::l) l = [(0,a),(1,b),(4,c),(5,d),(7,e),(8,f),(11,g),(17,v),(18,i),(19,j),(20,k),(21,m),(29,n),(34,o),(48,p)] := by intros; rfl
   refine R_nil (tr ..) ?_; clear tr
   refine then_n ?_
   refine cdt ?_
   refine at_seq rfl ?_
   refine rg rfl ?_
   refine Rq ?_
   refine Rq ?_
   have tr : ∀ a b c d e f g h i j k m n o p q r : AV, let l := lc_rrest_ok a b c d e f g h i j k m n o p; trim ((5,r)::(4,q)::l) l = [(0,a),(1,b),(4,q),(5,r),(7,e),(8,f),(11,g),(17,h),(18,i),(19,j),(20,k),(21,m),(29,n),(34,o),(48,p)] := by intros; rfl
   refine R_nil (tr ..) ?_; clear tr
   refine then_n ?_
   refine at_ret rfl ?_
   refine then_r ?_
   first | (refine fpure ?_; refine ⟨?_, rfl⟩; rw [rest_a (by omega)]; done) | (refine fpure ?_; refine ⟨?_, rfl⟩; rw [rest_b (by omega) (by omega)]; done) | (refine fpure ?_; refine ⟨?_, rfl⟩; rw [rest_c (u := u) (by omega) (by omega) (by omega) (by omega)]; done) | (refine fpure ?_; refine ⟨?_, rfl⟩; rw [rest_d (by omega) (by omega) hall, ← hr, rF_hit (by omega) (by omega)]; done) | (refine fpure ?_; refine ⟨?_, rfl⟩; rw [rest_d (by omega) (by omega) hall, ← hr, rF_end (by omega)]; done)
  ·
   try simp only [decide_eq_true_eq, decide_eq_false_iff_not, Bool.not_eq_true', Bool.not_eq_false', beq_iff_eq, beq_eq_false_iff_ne, ne_eq] at h2
   refine Ry ?_
   refine Rq ?_
   refine Ry ?_
   refine Rq ?_
   refine Rq ?_
   have tr : ∀ a b c d e f g h i j k m n o p q r s t u v : AV, let l := lc_rrest_ok a b c d e f g h i j k m n o p; trim ((17,v)::(16,u)::(15,t)::(14,s)::(13,r)::(12,q)::l) l = [(0,a),(1,b),(4,c),(5,d),(7,e),(8,f),(11,g),(17,v),(18,i),(19,j),(20,k),(21,m),(29,n),(34,o),(48,p)] := by intros; rfl
   refine R_nil (tr ..) ?_; clear tr
   refine then_n ?_
   refine cdd (fun h3 => ?_) (fun h3 => ?_)
   ·
    try simp only [decide_eq_true_eq, decide_eq_false_iff_not, Bool.not_eq_true', Bool.not_eq_false', beq_iff_eq, beq_eq_false_iff_ne, ne_eq] at h3
    refine at_seq rfl ?_
    refine rg rfl ?_
    refine Rq ?_
    refine Rq ?_
    have tr : ∀ a b c d e f g h i j k m n o p q r : AV, let l := lc_rrest_ok a b c d e f g h i j k m n o p; trim ((5,r)::(4,q)::l) l = [(0,a),(1,b),(4,q),(5,r),(7,e),(8,f),(11,g),(17,h),(18,i),(19,j),(20,k),(21,m),(29,n),(34,o),(48,p)] := by intros; rfl
    refine R_nil (tr ..) ?_; clear tr
    refine then_n ?_
    refine at_ret rfl ?_
    refine then_r ?_
    first | (refine fpure ?_; refine ⟨?_, rfl⟩; rw [rest_a (by omega)]; done) | (refine fpure ?_; refine ⟨?_, rfl⟩; rw [rest_b (by omega) (by omega)]; done) | (refine fpure ?_; refine ⟨?_, rfl⟩; rw [rest_c (u := u) (by omega) (by omega) (by omega) (by omega)]; done) | (refine fpure ?_; refine ⟨?_, rfl⟩; rw [rest_d (by omega) (by omega) hall, ← hr, rF_hit (by omega) (by omega)]; done) | (refine fpure ?_; refine ⟨?_, rfl⟩; rw [rest_d (by omega) (by omega) hall, ← hr, rF_end (by omega)]; done)
   ·
    try simp only [decide_eq_true_eq, decide_eq_false_iff_not, Bool.not_eq_true', Bool.not_eq_false', beq_iff_eq, beq_eq_false_iff_ne, ne_eq] at h3
    refine at_skip rfl ?_
    refine then_n ?_
    refine at_seq rfl ?_
    refine at_seq rfl ?_
    refine rg rfl ?_
    refine Rq ?_
    refine Rq ?_
    refine Rq ?_
    have tr : ∀ a b c d e f g h i j k m n o p q r s : AV, let l := lc_rrest_ok a b c d e f g h i j k m n o p; trim ((20,s)::(19,r)::(18,q)::l) l = [(0,a),(1,b),(4,c),(5,d),(7,e),(8,f),(11,g),(17,h),(18,q),(19,r),(20,s),(21,m),(29,n),(34,o),(48,p)] := by intros; rfl
    refine R_nil (tr ..) ?_; clear tr
    refine then_n ?_
    refine at_block rfl ?_
    refine loop_n rfl (fun mm kv H' => ∃ u : Nat, ∃ x4 x5 x7 x21 x29 : AV, (kv = [(4, x4), (5, x5), (7, x7), (20, AV.i u), (21, x21), (29, x29)]) ∧ (mm = l.length - u) ∧ (H' = H) ∧ (u ≤ l.length) ∧ (∀ i, i < u → 0 ≤ gt l i ∧ gt l i ≤ 109572)) ⟨0, _, _, _, _, _, rfl, rfl, rfl, by omega, by intro i hi; omega⟩ (by rfl) ?_
    rintro mm kv H' ⟨u, x4, x5, x7, x21, x29, rfl, rfl, rfl, hu, hq⟩
    have tr : ∀ a b c d e f g h i j k m n o p q r s t u v : AV, upd [(0,a),(1,b),(4,c),(5,d),(7,e),(8,f),(11,g),(17,h),(18,i),(19,j),(20,k),(21,m),(29,n),(34,o),(48,p)] [(4,q),(5,r),(7,s),(20,t),(21,u),(29,v)] = [(0,a),(1,b),(4,q),(5,r),(7,s),(8,f),(11,g),(17,h),(18,i),(19,j),(20,t),(21,u),(29,v),(34,o),(48,p)] := by intros; rfl
    refine W_to (tr ..) ?_; clear tr
    obtain ⟨H, hHH⟩ : ∃ x, x = H' := ⟨_, rfl⟩
    subst hHH
    refine at_seq rfl ?_
    refine rg rfl ?_
    refine Rq ?_
    have tr : ∀ a b c d e f g h i j k m n o p q : AV, let l := lc_rrest_ok a b c d e f g h i j k m n o p; trim ((21,q)::l) l = [(0,a),(1,b),(4,c),(5,d),(7,e),(8,f),(11,g),(17,h),(18,i),(19,j),(20,k),(21,q),(29,n),(34,o),(48,p)] := by intros; rfl
    refine R_nil (tr ..) ?_; clear tr
    refine then_n ?_
    refine at_seq rfl ?_
    refine cdd (fun h4 => ?_) (fun h4 => ?_)
    ·
     try simp only [decide_eq_true_eq, decide_eq_false_iff_not, Bool.not_eq_true', Bool.not_eq_false', beq_iff_eq, beq_eq_false_iff_ne, ne_eq] at h4
     refine at_skip rfl ?_
     refine then_n ?_
     refine at_seq rfl ?_
     refine at_block rfl ?_
     refine at_seq rfl ?_
     refine rg rfl ?_
     refine Rq ?_
     refine Rq ?_
     refine Rq ?_
     have tr : ∀ a b c d e f g h i j k m n o p q r s : AV, let l := lc_rrest_ok a b c d e f g h i j k m n o p; trim ((7,s)::(23,r)::(22,q)::l) l = [(0,a),(1,b),(4,c),(5,d),(7,s),(8,f),(11,g),(17,h),(18,i),(19,j),(20,k),(21,m),(29,n),(34,o),(48,p)] := by intros; rfl
     refine R_nil (tr ..) ?_; clear tr
     refine then_n ?_
     refine at_seq rfl ?_
     refine rg rfl ?_
     refine Rq ?_
     refine Rq ?_
     refine Rq ?_
     refine Rp_split (fun h5 => ?_) (fun h5 => ?_)
     ·
      try simp only [decide_eq_true_eq, decide_eq_false_iff_not, Bool.not_eq_true', Bool.not_eq_false', beq_iff_eq, beq_eq_false_iff_ne, ne_eq] at h5
      refine Rn ?_
      refine Rn ?_
      refine Rq ?_
      have tr : ∀ a b c d e f g h i j k m n o p q r s t u v : AV, let l := lc_rrest_ok a b c d e f g h i j k m n o p; trim ((29,v)::(28,u)::(27,t)::(26,s)::(25,r)::(24,q)::l) l = [(0,a),(1,b),(4,c),(5,d),(7,e),(8,f),(11,g),(17,h),(18,i),(19,j),(20,k),(21,m),(29,v),(34,o),(48,p)] := by intros; rfl
      refine R_nil (tr ..) ?_; clear tr
      refine then_n ?_
      refine cdt ?_
      refine at_seq rfl ?_
      refine rg rfl ?_
      refine Rq ?_
      refine Rq ?_
      have tr : ∀ a b c d e f g h i j k m n o p q r : AV, let l := lc_rrest_ok a b c d e f g h i j k m n o p; trim ((5,r)::(4,q)::l) l = [(0,a),(1,b),(4,q),(5,r),(7,e),(8,f),(11,g),(17,h),(18,i),(19,j),(20,k),(21,m),(29,n),(34,o),(48,p)] := by intros; rfl
      refine R_nil (tr ..) ?_; clear tr
      refine then_n ?_
      refine at_ret rfl ?_
      refine blk_r ?_
      refine then_r ?_
      refine then_r ?_
      refine blk_r ?_
      refine then_r ?_
      first | (refine fpure ?_; refine ⟨?_, rfl⟩; rw [rest_a (by omega)]; done) | (refine fpure ?_; refine ⟨?_, rfl⟩; rw [rest_b (by omega) (by omega)]; done) | (refine fpure ?_; refine ⟨?_, rfl⟩; rw [rest_c (u := u) (by omega) (by omega) (by omega) (by omega)]; done) | (refine fpure ?_; refine ⟨?_, rfl⟩; rw [rest_d (by omega) (by omega) hall, ← hr, rF_hit (by omega) (by omega)]; done) | (refine fpure ?_; refine ⟨?_, rfl⟩; rw [rest_d (by omega) (by omega) hall, ← hr, rF_end (by omega)]; done)
     ·
      try simp only [decide_eq_true_eq, decide_eq_false_iff_not, Bool.not_eq_true', Bool.not_eq_false', beq_iff_eq, beq_eq_false_iff_ne, ne_eq] at h5
      refine Ry ?_
      refine Rq ?_
      refine Ry ?_
      refine Rq ?_
      refine Rq ?_
      have tr : ∀ a b c d e f g h i j k m n o p q r s t u v : AV, let l := lc_rrest_ok a b c d e f g h i j k m n o p; trim ((29,v)::(28,u)::(27,t)::(26,s)::(25,r)::(24,q)::l) l = [(0,a),(1,b),(4,c),(5,d),(7,e),(8,f),(11,g),(17,h),(18,i),(19,j),(20,k),(21,m),(29,v),(34,o),(48,p)] := by intros; rfl
      refine R_nil (tr ..) ?_; clear tr
      refine then_n ?_
      refine cdd (fun h6 => ?_) (fun h6 => ?_)
      ·
       try simp only [decide_eq_true_eq, decide_eq_false_iff_not, Bool.not_eq_true', Bool.not_eq_false', beq_iff_eq, beq_eq_false_iff_ne, ne_eq] at h6
       refine at_seq rfl ?_
       refine rg rfl ?_
       refine Rq ?_
       refine Rq ?_
       have tr : ∀ a b c d e f g h i j k m n o p q r : AV, let l := lc_rrest_ok a b c d e f g h i j k m n o p; trim ((5,r)::(4,q)::l) l = [(0,a),(1,b),(4,q),(5,r),(7,e),(8,f),(11,g),(17,h),(18,i),(19,j),(20,k),(21,m),(29,n),(34,o),(48,p)] := by intros; rfl
       refine R_nil (tr ..) ?_; clear tr
       refine then_n ?_
       refine at_ret rfl ?_
       refine blk_r ?_
       refine then_r ?_
       refine then_r ?_
       refine blk_r ?_
       refine then_r ?_
       first | (refine fpure ?_; refine ⟨?_, rfl⟩; rw [rest_a (by omega)]; done) | (refine fpure ?_; refine ⟨?_, rfl⟩; rw [rest_b (by omega) (by omega)]; done) | (refine fpure ?_; refine ⟨?_, rfl⟩; rw [rest_c (u := u) (by omega) (by omega) (by omega) (by omega)]; done) | (refine fpure ?_; refine ⟨?_, rfl⟩; rw [rest_d (by omega) (by omega) hall, ← hr, rF_hit (by omega) (by omega)]; done) | (refine fpure ?_; refine ⟨?_, rfl⟩; rw [rest_d (by omega) (by omega) hall, ← hr, rF_end (by omega)]; done)
      ·
       try simp only [decide_eq_true_eq, decide_eq_false_iff_not, Bool.not_eq_true', Bool.not_eq_false', beq_iff_eq, beq_eq_false_iff_ne, ne_eq] at h6
       refine at_skip rfl ?_
       refine blk_n ?_
       refine then_n ?_
       refine rg rfl ?_
       refine Rq ?_
       refine Rq ?_
       have tr : ∀ a b c d e f g h i j k m n o p q r : AV, let l := lc_rrest_ok a b c d e f g h i j k m n o p; trim ((20,r)::(30,q)::l) l = [(0,a),(1,b),(4,c),(5,d),(7,e),(8,f),(11,g),(17,h),(18,i),(19,j),(20,r),(21,m),(29,n),(34,o),(48,p)] := by intros; rfl
       refine R_nil (tr ..) ?_; clear tr
       refine then_n ?_
       exact ⟨_, _, ⟨u + 1, _, _, _, _, _, rfl, rfl, rfl, by omega, by exact all_next hq (by omega)⟩, by rfl, by omega⟩
    ·
     try simp only [decide_eq_true_eq, decide_eq_false_iff_not, Bool.not_eq_true', Bool.not_eq_false', beq_iff_eq, beq_eq_false_iff_ne, ne_eq] at h4
     refine at_exit rfl ?_
     refine then_x ?_
     refine then_x ?_
     refine blk_x ?_
     refine then_n ?_
     refine at_seq rfl ?_
     refine at_seq rfl ?_
     refine rg rfl ?_
     have hall : ∀ i, i < l.length → 0 ≤ gt l i ∧ gt l i ≤ 109572 := fun i hi => hq i (by omega)
     refine Rq ?_
     have tr : ∀ a b c d e f g h i j k m n o p q : AV, let l := lc_rrest_ok a b c d e f g h i j k m n o p; trim ((8,q)::l) l = [(0,a),(1,b),(4,c),(5,d),(7,e),(8,q),(11,g),(17,h),(18,i),(19,j),(20,k),(21,m),(29,n),(34,o),(48,p)] := by intros; rfl
     refine R_nil (tr ..) ?_; clear tr
     refine then_n ?_
     refine at_block rfl ?_
     refine loop_n rfl (fun mm kv H' => ∃ z : Nat, ∃ x4 x5 x34 x48 : AV, (kv = [(4, x4), (5, x5), (8, AV.i z), (34, x34), (48, x48)]) ∧ (mm = l.length - z) ∧ (H' = H) ∧ (1 ≤ z) ∧ (rF l rest (l.length - z) z = rF l rest (l.length - 1) 1)) ⟨1, _, _, _, _, rfl, rfl, rfl, by omega, by rfl⟩ (by rfl) ?_
     rintro mm kv H' ⟨z, x4, x5, x34, x48, rfl, rfl, rfl, hz, hr⟩
     have tr : ∀ a b c d e f g h i j k m n o p q r s t u : AV, upd [(0,a),(1,b),(4,c),(5,d),(7,e),(8,f),(11,g),(17,h),(18,i),(19,j),(20,k),(21,m),(29,n),(34,o),(48,p)] [(4,q),(5,r),(8,s),(34,t),(48,u)] = [(0,a),(1,b),(4,q),(5,r),(7,e),(8,s),(11,g),(17,h),(18,i),(19,j),(20,k),(21,m),(29,n),(34,t),(48,u)] := by intros; rfl
     refine W_to (tr ..) ?_; clear tr
     have hz0 : z - 1 < l.length ∨ ¬ z < l.length := by omega
     refine at_seq rfl ?_
     refine at_seq rfl ?_
     refine rg rfl ?_
     refine Rq ?_
     refine Rq ?_
     refine Rq ?_
     refine Rq ?_
     have tr : ∀ a b c d e f g h i j k m n o p q r s t : AV, let l := lc_rrest_ok a b c d e f g h i j k m n o p; trim ((34,t)::(33,s)::(32,r)::(31,q)::l) l = [(0,a),(1,b),(4,c),(5,d),(7,e),(8,f),(11,g),(17,h),(18,i),(19,j),(20,k),(21,m),(29,n),(34,t),(48,p)] := by intros; rfl
     refine R_nil (tr ..) ?_; clear tr
     refine then_n ?_
     refine cdd (fun h7 => ?_) (fun h7 => ?_)
     ·
      try simp only [decide_eq_true_eq, decide_eq_false_iff_not, Bool.not_eq_true', Bool.not_eq_false', beq_iff_eq, beq_eq_false_iff_ne, ne_eq] at h7
      refine at_skip rfl ?_
      refine then_n ?_
      refine at_seq rfl ?_
      refine at_block rfl ?_
      refine at_seq rfl ?_
      refine rd rfl rfl ?_
      have hd1 := hall z (by omega)
      have hd2 := hall (z - 1) (by omega)
      refine Qq ?_
      refine Qq ?_
      refine Qq ?_
      refine Qq ?_
      refine Qq ?_
      refine Qq ?_
      refine Qq ?_
      refine Qq ?_
      refine Qq ?_
      refine Qq ?_
      refine Qq ?_
      refine Qq ?_
      refine Q_nil ?_
      have tr : ∀ a b c d e f g h i j k m n o p q r s t u v w x y z A B : AV, let l := lc_rrest_ok a b c d e f g h i j k m n o p; trim ((48,B)::(47,A)::(46,z)::(45,y)::(44,x)::(43,w)::(42,v)::(41,u)::(40,t)::(39,s)::(38,r)::(37,q)::l) l = [(0,a),(1,b),(4,c),(5,d),(7,e),(8,f),(11,g),(17,h),(18,i),(19,j),(20,k),(21,m),(29,n),(34,o),(48,B)] := by intros; rfl
      refine R_nil (tr ..) ?_; clear tr
      refine then_n ?_
      refine cdd (fun h8 => ?_) (fun h8 => ?_)
      ·
       try simp only [decide_eq_true_eq, decide_eq_false_iff_not, Bool.not_eq_true', Bool.not_eq_false', beq_iff_eq, beq_eq_false_iff_ne, ne_eq] at h8
       refine at_seq rfl ?_
       refine rg rfl ?_
       refine Rq ?_
       refine Rq ?_
       refine Rq ?_
       have tr : ∀ a b c d e f g h i j k m n o p q r s : AV, let l := lc_rrest_ok a b c d e f g h i j k m n o p; trim ((5,s)::(4,r)::(49,q)::l) l = [(0,a),(1,b),(4,r),(5,s),(7,e),(8,f),(11,g),(17,h),(18,i),(19,j),(20,k),(21,m),(29,n),(34,o),(48,p)] := by intros; rfl
       refine R_nil (tr ..) ?_; clear tr
       refine then_n ?_
       refine at_ret rfl ?_
       refine blk_r ?_
       refine then_r ?_
       refine then_r ?_
       refine blk_r ?_
       refine then_r ?_
       first | (refine fpure ?_; refine ⟨?_, rfl⟩; rw [rest_a (by omega)]; done) | (refine fpure ?_; refine ⟨?_, rfl⟩; rw [rest_b (by omega) (by omega)]; done) | (refine fpure ?_; refine ⟨?_, rfl⟩; rw [rest_c (u := u) (by omega) (by omega) (by omega) (by omega)]; done) | (refine fpure ?_; refine ⟨?_, rfl⟩; rw [rest_d (by omega) (by omega) hall, ← hr, rF_hit (by omega) (by omega)]; done) | (refine fpure ?_; refine ⟨?_, rfl⟩; rw [rest_d (by omega) (by omega) hall, ← hr, rF_end (by omega)]; done)
      ·
       try simp only [decide_eq_true_eq, decide_eq_false_iff_not, Bool.not_eq_true', Bool.not_eq_false', beq_iff_eq, beq_eq_false_iff_ne, ne_eq] at h8
       refine at_skip rfl ?_
       refine blk_n ?_
       refine then_n ?_
       refine rg rfl ?_
       refine Rq ?_
       refine Rq ?_
       refine Rq ?_
       have tr : ∀ a b c d e f g h i j k m n o p q r s : AV, let l := lc_rrest_ok a b c d e f g h i j k m n o p; trim ((8,s)::(36,r)::(35,q)::l) l = [(0,a),(1,b),(4,c),(5,d),(7,e),(8,s),(11,g),(17,h),(18,i),(19,j),(20,k),(21,m),(29,n),(34,o),(48,p)] := by intros; rfl
       refine R_nil (tr ..) ?_; clear tr
       refine then_n ?_
       exact ⟨_, _, ⟨z + 1, _, _, _, _, rfl, rfl, rfl, by omega, by exact (rF_miss (by omega) (by omega)).symm.trans hr⟩, by rfl, by omega⟩
     ·
      try simp only [decide_eq_true_eq, decide_eq_false_iff_not, Bool.not_eq_true', Bool.not_eq_false', beq_iff_eq, beq_eq_false_iff_ne, ne_eq] at h7
      refine at_exit rfl ?_
      refine then_x ?_
      refine then_x ?_
      refine blk_x ?_
      refine then_n ?_
      refine at_seq rfl ?_
      refine rg rfl ?_
      refine Rq ?_
      refine Rq ?_
      have tr : ∀ a b c d e f g h i j k m n o p q r : AV, let l := lc_rrest_ok a b c d e f g h i j k m n o p; trim ((5,r)::(4,q)::l) l = [(0,a),(1,b),(4,q),(5,r),(7,e),(8,f),(11,g),(17,h),(18,i),(19,j),(20,k),(21,m),(29,n),(34,o),(48,p)] := by intros; rfl
      refine R_nil (tr ..) ?_; clear tr
      refine then_n ?_
      refine at_ret rfl ?_
      first | (refine fpure ?_; refine ⟨?_, rfl⟩; rw [rest_a (by omega)]; done) | (refine fpure ?_; refine ⟨?_, rfl⟩; rw [rest_b (by omega) (by omega)]; done) | (refine fpure ?_; refine ⟨?_, rfl⟩; rw [rest_c (u := u) (by omega) (by omega) (by omega) (by omega)]; done) | (refine fpure ?_; refine ⟨?_, rfl⟩; rw [rest_d (by omega) (by omega) hall, ← hr, rF_hit (by omega) (by omega)]; done) | (refine fpure ?_; refine ⟨?_, rfl⟩; rw [rest_d (by omega) (by omega) hall, ← hr, rF_end (by omega)]; done)

end Go.Proofs.YtocmcdejkoejhaaDoor
