/-
  Walks of chapter 55. The steps are written by program (walk.py).
-/
import Derived.Test.YtcnleglfdnhagaaNB
set_option linter.unusedSimpArgs false
set_option linter.unusedVariables false
set_option maxHeartbeats 1000000
set_option maxRecDepth 20000
namespace Go.Proofs.Ytcnleglfdnhagaa
open Go Go.Am
abbrev lc_umpires_ok (a b c d e f g h i j k m n o p q r s t : AV) : Env := [(0,a),(2,b),(3,c),(4,d),(5,e),(6,f),(7,g),(8,h),(9,i),(10,j),(14,k),(30,m),(44,n),(50,o),(51,p),(52,q),(53,r),(57,s),(61,t)]
theorem umpires_ok (lim : Nat) (H : Heap) (us : List Um) (hl : us.length ≤ 1000000) (hs : ∀ u, (gt us u).nm.size ≤ 9223372036854775807 ∧ (gt us u).tm.size ≤ 9223372036854775807) : ACall sig lim 19 [umsAV us] H fun r H' => r = AV.i (ferr (umE us) us.length) ∧ H' = H := by
 refine ACall_pure (fa := fa19) rfl rfl rfl rfl ?_
 have tr : ∀ a0 : AV, env0 fa19.keep [a0] = [(0,a0),(2,.any),(3,.any),(4,.any),(5,.any),(6,.any),(7,.any),(8,.any),(9,.any),(10,.any),(14,.any),(30,.any),(44,.any),(50,.any),(51,.any),(52,.any),(53,.any),(57,.any),(61,.any)] := fun a0 => rfl
 refine W_to (tr _) ?_; clear tr
 refine at_seq rfl ?_
 refine rg rfl ?_
 refine Rq ?_
 have tr : ∀ a b c d e f g h i j k m n o p q r s t u : AV, let l := lc_umpires_ok a b c d e f g h i j k m n o p q r s t; trim ((2,u)::l) l = [(0,a),(2,u),(3,c),(4,d),(5,e),(6,f),(7,g),(8,h),(9,i),(10,j),(14,k),(30,m),(44,n),(50,o),(51,p),(52,q),(53,r),(57,s),(61,t)] := by intros; rfl
 refine R_nil (tr ..) ?_; clear tr
 refine then_n ?_
 refine at_seq rfl ?_
 refine at_seq rfl ?_
 refine rg rfl ?_
 refine Rq ?_
 refine Rq ?_
 refine Rq ?_
 have tr : ∀ a b c d e f g h i j k m n o p q r s t u v w : AV, let l := lc_umpires_ok a b c d e f g h i j k m n o p q r s t; trim ((9,w)::(8,v)::(7,u)::l) l = [(0,a),(2,b),(3,c),(4,d),(5,e),(6,f),(7,u),(8,v),(9,w),(10,j),(14,k),(30,m),(44,n),(50,o),(51,p),(52,q),(53,r),(57,s),(61,t)] := by intros; rfl
 refine R_nil (tr ..) ?_; clear tr
 refine then_n ?_
 refine at_block rfl ?_
 refine loop_n rfl (fun mm kv H' => ∃ i : Nat, ∃ X : Heap, ∃ x2 x3 x4 x5 x6 x10 x14 x30 x44 x50 x51 x52 x53 x57 x61 : AV, (kv = [(2, x2), (3, x3), (4, x4), (5, x5), (6, x6), (9, AV.i (i : Int)), (10, x10), (14, x14), (30, x30), (44, x44), (50, x50), (51, x51), (52, x52), (53, x53), (57, x57), (61, x61)]) ∧ (mm = us.length - i) ∧ (H' = H ++ X) ∧ (i ≤ us.length) ∧ (ferr (umE us) i = 0)) ⟨0, [], _, _, _, _, _, _, _, _, _, _, _, _, _, _, _, rfl, rfl, by simp, by omega, by rfl⟩ (by rfl) ?_
 rintro mm kv HO ⟨i, X, x2, x3, x4, x5, x6, x10, x14, x30, x44, x50, x51, x52, x53, x57, x61, rfl, rfl, hX, hi, hf⟩
 have tr : ∀ a b c d e f g h i j k m n o p q r s t u v w x y z A B C D E F G H I J : AV, upd [(0,a),(2,b),(3,c),(4,d),(5,e),(6,f),(7,g),(8,h),(9,i),(10,j),(14,k),(30,m),(44,n),(50,o),(51,p),(52,q),(53,r),(57,s),(61,t)] [(2,u),(3,v),(4,w),(5,x),(6,y),(9,z),(10,A),(14,B),(30,C),(44,D),(50,E),(51,F),(52,G),(53,H),(57,I),(61,J)] = [(0,a),(2,u),(3,v),(4,w),(5,x),(6,y),(7,g),(8,h),(9,z),(10,A),(14,B),(30,C),(44,D),(50,E),(51,F),(52,G),(53,H),(57,I),(61,J)] := by intros; rfl
 refine W_to (tr ..) ?_; clear tr
 subst hX
 refine at_seq rfl ?_
 refine rg rfl ?_
 refine Rq ?_
 have tr : ∀ a b c d e f g h i j k m n o p q r s t u : AV, let l := lc_umpires_ok a b c d e f g h i j k m n o p q r s t; trim ((10,u)::l) l = [(0,a),(2,b),(3,c),(4,d),(5,e),(6,f),(7,g),(8,h),(9,i),(10,u),(14,k),(30,m),(44,n),(50,o),(51,p),(52,q),(53,r),(57,s),(61,t)] := by intros; rfl
 refine R_nil (tr ..) ?_; clear tr
 refine then_n ?_
 refine at_seq rfl ?_
 refine cdd (fun h1 => ?_) (fun h1 => ?_)
 ·
  try simp only [decide_eq_true_eq, decide_eq_false_iff_not, Bool.not_eq_true', Bool.not_eq_false', beq_iff_eq, beq_eq_false_iff_ne, ne_eq] at h1
  refine at_skip rfl ?_
  refine then_n ?_
  refine at_seq rfl ?_
  refine at_block rfl ?_
  refine at_seq rfl ?_
  refine rg rfl ?_
  refine Rq ?_
  refine Rq ?_
  refine Rq ?_
  refine R_alloc (by simp (disch := first | omega | (simp only [List.length_map, List.length_append, List.length_set, List.length_cons, List.length_nil]; omega)) only [go_sem, ↓reduceIte, Nat.reduceEqDiff, reduceCtorEq]; rfl) rfl (by simp only [List.map_cons, List.map_nil]; rfl) ?_
  refine Rq ?_
  refine R_store ty35 (by simp (disch := first | omega | (simp only [List.length_map, List.length_append, List.length_set, List.length_cons, List.length_nil]; omega)) only [go_sem, ↓reduceIte, Nat.reduceEqDiff, reduceCtorEq]; rfl) (by simp (disch := first | omega | (simp only [List.length_map, List.length_append, List.length_set, List.length_cons, List.length_nil]; omega)) only [go_sem, ↓reduceIte, Nat.reduceEqDiff, reduceCtorEq]; rfl) (by simp (disch := first | omega | (simp only [List.length_map, List.length_append, List.length_set, List.length_cons, List.length_nil]; omega)) only [go_sem, ↓reduceIte, Nat.reduceEqDiff, reduceCtorEq]; rfl) (by simp) (by rfl) (by simp (disch := first | omega | (simp only [List.length_map, List.length_append, List.length_set, List.length_cons, List.length_nil]; omega)) only [go_sem, ↓reduceIte, Nat.reduceEqDiff, reduceCtorEq]; rfl) ?_
  have tr : ∀ a b c d e f g h i j k m n o p q r s t u v w x y : AV, let l := lc_umpires_ok a b c d e f g h i j k m n o p q r s t; trim ((3,y)::(4,x)::(13,w)::(12,v)::(11,u)::l) l = [(0,a),(2,b),(3,y),(4,x),(5,e),(6,f),(7,g),(8,h),(9,i),(10,j),(14,k),(30,m),(44,n),(50,o),(51,p),(52,q),(53,r),(57,s),(61,t)] := by intros; rfl
  refine R_nil (tr ..) ?_; clear tr
  refine then_n ?_
  refine at_seq rfl ?_
  refine at_block rfl ?_
  refine at_seq rfl ?_
  refine rg rfl ?_
  refine Rq ?_
  refine Rq ?_
  refine Rcall ?_
  refine ACall_eq (name_ok28 _ _ _ (hs i).1) ?_
  refine Rq ?_
  refine Rq ?_
  refine Rp_split (fun h2 => ?_) (fun h2 => ?_)
  ·
   try simp only [decide_eq_true_eq, decide_eq_false_iff_not, Bool.not_eq_true', Bool.not_eq_false', beq_iff_eq, beq_eq_false_iff_ne, ne_eq] at h2
   refine Rn ?_
   refine Rn ?_
   refine Rn ?_
   refine Rn ?_
   refine Ru ?_
   refine Ru ?_
   refine Ru ?_
   refine Ru ?_
   refine Rn ?_
   refine Rq ?_
   refine Rq ?_
   have tr : ∀ a b c d e f g h i j k m n o p q r s t u v w x y z A B C D E F G H I J : AV, let l := lc_umpires_ok a b c d e f g h i j k m n o p q r s t; trim ((14,J)::(29,I)::(28,H)::(27,G)::(26,F)::(25,E)::(24,D)::(23,C)::(22,B)::(21,A)::(20,z)::(19,y)::(18,x)::(17,w)::(16,v)::(15,u)::l) l = [(0,a),(2,b),(3,c),(4,d),(5,e),(6,f),(7,g),(8,h),(9,i),(10,j),(14,J),(30,m),(44,n),(50,o),(51,p),(52,q),(53,r),(57,s),(61,t)] := by intros; rfl
   refine R_nil (tr ..) ?_; clear tr
   refine then_n ?_
   refine cdt ?_
   refine at_seq rfl ?_
   refine rg rfl ?_
   refine Rq ?_
   have tr : ∀ a b c d e f g h i j k m n o p q r s t u : AV, let l := lc_umpires_ok a b c d e f g h i j k m n o p q r s t; trim ((2,u)::l) l = [(0,a),(2,u),(3,c),(4,d),(5,e),(6,f),(7,g),(8,h),(9,i),(10,j),(14,k),(30,m),(44,n),(50,o),(51,p),(52,q),(53,r),(57,s),(61,t)] := by intros; rfl
   refine R_nil (tr ..) ?_; clear tr
   refine then_n ?_
   refine at_ret rfl ?_
   refine blk_r ?_
   refine then_r ?_
   refine blk_r ?_
   refine then_r ?_
   refine then_r ?_
   refine blk_r ?_
   refine then_r ?_
   first | (refine fpure ?_; refine ⟨?_, rfl⟩; rw [ferr_hit (u := i) (by omega) hf (e := 5) (umE_5 (by first | exact .inl (by assumption) | exact .inr ⟨fun h => absurd ((str_e _).2 h) (by assumption), by assumption⟩)) (by decide)]) | (refine fpure ?_; refine ⟨?_, rfl⟩; rw [ferr_hit (u := i) (by omega) hf (e := 8) (umE_8 h5f ⟨by omega, by assumption⟩) (by decide)]) | (refine fpure ?_; refine ⟨?_, rfl⟩; rw [ferr_hit (u := i) (by omega) hf (e := 9) (umE_9 h5f h8f (by omega)) (by decide)]) | (refine fpure ?_; refine ⟨?_, rfl⟩; rw [ferr_hit (u := i) (by omega) hf (e := 2) ((umE_d h5f h8f h9f).trans (ferr_hit (u := k) (by omega) hk (dyE_2 (by assumption)) (by decide))) (by decide)]) | (refine fpure ?_; refine ⟨?_, rfl⟩; rw [ferr_hit (u := i) (by omega) hf (e := 8) ((umE_d h5f h8f h9f).trans (ferr_hit (u := k) (by omega) hk (dyE_8 (by assumption) ⟨by omega, by omega⟩) (by decide))) (by decide)]) | (refine fpure ?_; refine ⟨?_, rfl⟩; rw [← show i = us.length by omega, hf])
  ·
   try simp only [decide_eq_true_eq, decide_eq_false_iff_not, Bool.not_eq_true', Bool.not_eq_false', beq_iff_eq, beq_eq_false_iff_ne, ne_eq] at h2
   refine Ry ?_
   refine Rq ?_
   refine Ry ?_
   refine Rq ?_
   refine Ry ?_
   refine Rq ?_
   refine Ry ?_
   refine Rq ?_
   refine Rp_split (fun h3 => ?_) (fun h3 => ?_)
   ·
    try simp only [decide_eq_true_eq, decide_eq_false_iff_not, Bool.not_eq_true', Bool.not_eq_false', beq_iff_eq, beq_eq_false_iff_ne, ne_eq] at h3
    refine Ry ?_
    refine Rq ?_
    refine Ry ?_
    refine Rq ?_
    refine Ry ?_
    refine Rcall ?_
    refine ACall_eq (name_ok28 _ _ _ (hs i).2) ?_
    refine Ry ?_
    refine Rq ?_
    refine Ry ?_
    refine Rq ?_
    refine Rq ?_
    refine Rq ?_
    have tr : ∀ a b c d e f g h i j k m n o p q r s t u v w x y z A B C D E F G H I J : AV, let l := lc_umpires_ok a b c d e f g h i j k m n o p q r s t; trim ((14,J)::(29,I)::(28,H)::(27,G)::(26,F)::(25,E)::(24,D)::(23,C)::(22,B)::(21,A)::(20,z)::(19,y)::(18,x)::(17,w)::(16,v)::(15,u)::l) l = [(0,a),(2,b),(3,c),(4,d),(5,e),(6,f),(7,g),(8,h),(9,i),(10,j),(14,J),(30,m),(44,n),(50,o),(51,p),(52,q),(53,r),(57,s),(61,t)] := by intros; rfl
    refine R_nil (tr ..) ?_; clear tr
    refine then_n ?_
    refine cdd (fun h4 => ?_) (fun h4 => ?_)
    ·
     try simp only [decide_eq_true_eq, decide_eq_false_iff_not, Bool.not_eq_true', Bool.not_eq_false', beq_iff_eq, beq_eq_false_iff_ne, ne_eq] at h4
     refine at_seq rfl ?_
     refine rg rfl ?_
     refine Rq ?_
     have tr : ∀ a b c d e f g h i j k m n o p q r s t u : AV, let l := lc_umpires_ok a b c d e f g h i j k m n o p q r s t; trim ((2,u)::l) l = [(0,a),(2,u),(3,c),(4,d),(5,e),(6,f),(7,g),(8,h),(9,i),(10,j),(14,k),(30,m),(44,n),(50,o),(51,p),(52,q),(53,r),(57,s),(61,t)] := by intros; rfl
     refine R_nil (tr ..) ?_; clear tr
     refine then_n ?_
     refine at_ret rfl ?_
     refine blk_r ?_
     refine then_r ?_
     refine blk_r ?_
     refine then_r ?_
     refine then_r ?_
     refine blk_r ?_
     refine then_r ?_
     first | (refine fpure ?_; refine ⟨?_, rfl⟩; rw [ferr_hit (u := i) (by omega) hf (e := 5) (umE_5 (by first | exact .inl (by assumption) | exact .inr ⟨fun h => absurd ((str_e _).2 h) (by assumption), by assumption⟩)) (by decide)]) | (refine fpure ?_; refine ⟨?_, rfl⟩; rw [ferr_hit (u := i) (by omega) hf (e := 8) (umE_8 h5f ⟨by omega, by assumption⟩) (by decide)]) | (refine fpure ?_; refine ⟨?_, rfl⟩; rw [ferr_hit (u := i) (by omega) hf (e := 9) (umE_9 h5f h8f (by omega)) (by decide)]) | (refine fpure ?_; refine ⟨?_, rfl⟩; rw [ferr_hit (u := i) (by omega) hf (e := 2) ((umE_d h5f h8f h9f).trans (ferr_hit (u := k) (by omega) hk (dyE_2 (by assumption)) (by decide))) (by decide)]) | (refine fpure ?_; refine ⟨?_, rfl⟩; rw [ferr_hit (u := i) (by omega) hf (e := 8) ((umE_d h5f h8f h9f).trans (ferr_hit (u := k) (by omega) hk (dyE_8 (by assumption) ⟨by omega, by omega⟩) (by decide))) (by decide)]) | (refine fpure ?_; refine ⟨?_, rfl⟩; rw [← show i = us.length by omega, hf])
    ·
     try simp only [decide_eq_true_eq, decide_eq_false_iff_not, Bool.not_eq_true', Bool.not_eq_false', beq_iff_eq, beq_eq_false_iff_ne, ne_eq] at h4
     refine at_seq rfl ?_
     refine rd rfl rfl ?_
     have h5f : ¬ (nameS (gt us i).nm = false ∨ ((gt us i).tm.size ≠ 0 ∧ nameS (gt us i).tm = false)) := by rintro (hh | ⟨hh, hh2⟩) <;> first | exact absurd ((str_e _).1 (by assumption)) hh | (simp_all; done)
     refine Qq ?_
     refine Qq ?_
     refine Qq ?_
     refine Qp_split (fun h5 => ?_) (fun h5 => ?_)
     ·
      try simp only [decide_eq_true_eq, decide_eq_false_iff_not, Bool.not_eq_true', Bool.not_eq_false', beq_iff_eq, beq_eq_false_iff_ne, ne_eq] at h5
      refine Qy ?_
      refine Qq ?_
      refine Qy ?_
      refine Qq ?_
      refine Qy ?_
      refine Qq ?_
      refine Qy ?_
      refine Qq ?_
      refine Qy ?_
      refine Qq ?_
      refine Qy ?_
      refine Qq ?_
      refine Qy ?_
      refine Qq ?_
      refine Qy ?_
      refine Q_q (r := .v (.string (gt us (i - 1)).nm)) rfl (by simp (disch := first | omega | (simp only [List.length_map, List.length_append, List.length_set, List.length_cons, List.length_nil]; omega)) only [go_sem, ↓reduceIte, Nat.reduceEqDiff, reduceCtorEq] <;> (rw [show ((i : Int) - 1).toNat = i - 1 by omega]; exact flatU0 us (i - 1) (by omega))) ?_
      refine Qy ?_
      refine Qq ?_
      refine Qq ?_
      refine Qq ?_
      refine Q_nil ?_
      have tr : ∀ a b c d e f g h i j k m n o p q r s t u v w x y z A B C D E F G H : AV, let l := lc_umpires_ok a b c d e f g h i j k m n o p q r s t; trim ((30,H)::(43,G)::(42,F)::(41,E)::(40,D)::(39,C)::(38,B)::(37,A)::(36,z)::(35,y)::(34,x)::(33,w)::(32,v)::(31,u)::l) l = [(0,a),(2,b),(3,c),(4,d),(5,e),(6,f),(7,g),(8,h),(9,i),(10,j),(14,k),(30,H),(44,n),(50,o),(51,p),(52,q),(53,r),(57,s),(61,t)] := by intros; rfl
      refine R_nil (tr ..) ?_; clear tr
      refine then_n ?_
      refine cdd (fun h6 => ?_) (fun h6 => ?_)
      ·
       try simp only [decide_eq_true_eq, decide_eq_false_iff_not, Bool.not_eq_true', Bool.not_eq_false', beq_iff_eq, beq_eq_false_iff_ne, ne_eq] at h6
       refine at_seq rfl ?_
       refine rg rfl ?_
       refine Rq ?_
       have tr : ∀ a b c d e f g h i j k m n o p q r s t u : AV, let l := lc_umpires_ok a b c d e f g h i j k m n o p q r s t; trim ((2,u)::l) l = [(0,a),(2,u),(3,c),(4,d),(5,e),(6,f),(7,g),(8,h),(9,i),(10,j),(14,k),(30,m),(44,n),(50,o),(51,p),(52,q),(53,r),(57,s),(61,t)] := by intros; rfl
       refine R_nil (tr ..) ?_; clear tr
       refine then_n ?_
       refine at_ret rfl ?_
       refine blk_r ?_
       refine then_r ?_
       refine blk_r ?_
       refine then_r ?_
       refine then_r ?_
       refine blk_r ?_
       refine then_r ?_
       first | (refine fpure ?_; refine ⟨?_, rfl⟩; rw [ferr_hit (u := i) (by omega) hf (e := 5) (umE_5 (by first | exact .inl (by assumption) | exact .inr ⟨fun h => absurd ((str_e _).2 h) (by assumption), by assumption⟩)) (by decide)]) | (refine fpure ?_; refine ⟨?_, rfl⟩; rw [ferr_hit (u := i) (by omega) hf (e := 8) (umE_8 h5f ⟨by omega, by assumption⟩) (by decide)]) | (refine fpure ?_; refine ⟨?_, rfl⟩; rw [ferr_hit (u := i) (by omega) hf (e := 9) (umE_9 h5f h8f (by omega)) (by decide)]) | (refine fpure ?_; refine ⟨?_, rfl⟩; rw [ferr_hit (u := i) (by omega) hf (e := 2) ((umE_d h5f h8f h9f).trans (ferr_hit (u := k) (by omega) hk (dyE_2 (by assumption)) (by decide))) (by decide)]) | (refine fpure ?_; refine ⟨?_, rfl⟩; rw [ferr_hit (u := i) (by omega) hf (e := 8) ((umE_d h5f h8f h9f).trans (ferr_hit (u := k) (by omega) hk (dyE_8 (by assumption) ⟨by omega, by omega⟩) (by decide))) (by decide)]) | (refine fpure ?_; refine ⟨?_, rfl⟩; rw [← show i = us.length by omega, hf])
      ·
       try simp only [decide_eq_true_eq, decide_eq_false_iff_not, Bool.not_eq_true', Bool.not_eq_false', beq_iff_eq, beq_eq_false_iff_ne, ne_eq] at h6
       refine at_seq rfl ?_
       refine rg rfl ?_
       have h8f : ¬ (0 < i ∧ leB (gt us i).nm (gt us (i - 1)).nm = true) := by first | (rintro ⟨hh, _⟩; omega) | (rintro ⟨_, hh⟩; exact absurd (hh.symm.trans (show leB (gt us i).nm (gt us (i - 1)).nm = false by assumption)) (by decide))
       refine Rq ?_
       refine Rq ?_
       refine Rq ?_
       refine Rq ?_
       refine Rq ?_
       have tr : ∀ a b c d e f g h i j k m n o p q r s t u v w x y : AV, let l := lc_umpires_ok a b c d e f g h i j k m n o p q r s t; trim ((44,y)::(48,x)::(47,w)::(46,v)::(45,u)::l) l = [(0,a),(2,b),(3,c),(4,d),(5,e),(6,f),(7,g),(8,h),(9,i),(10,j),(14,k),(30,m),(44,y),(50,o),(51,p),(52,q),(53,r),(57,s),(61,t)] := by intros; rfl
       refine R_nil (tr ..) ?_; clear tr
       refine then_n ?_
       refine cdd (fun h7 => ?_) (fun h7 => ?_)
       ·
        try simp only [decide_eq_true_eq, decide_eq_false_iff_not, Bool.not_eq_true', Bool.not_eq_false', beq_iff_eq, beq_eq_false_iff_ne, ne_eq] at h7
        refine at_seq rfl ?_
        refine rg rfl ?_
        refine Rq ?_
        have tr : ∀ a b c d e f g h i j k m n o p q r s t u : AV, let l := lc_umpires_ok a b c d e f g h i j k m n o p q r s t; trim ((2,u)::l) l = [(0,a),(2,u),(3,c),(4,d),(5,e),(6,f),(7,g),(8,h),(9,i),(10,j),(14,k),(30,m),(44,n),(50,o),(51,p),(52,q),(53,r),(57,s),(61,t)] := by intros; rfl
        refine R_nil (tr ..) ?_; clear tr
        refine then_n ?_
        refine at_ret rfl ?_
        refine blk_r ?_
        refine then_r ?_
        refine blk_r ?_
        refine then_r ?_
        refine then_r ?_
        refine blk_r ?_
        refine then_r ?_
        first | (refine fpure ?_; refine ⟨?_, rfl⟩; rw [ferr_hit (u := i) (by omega) hf (e := 5) (umE_5 (by first | exact .inl (by assumption) | exact .inr ⟨fun h => absurd ((str_e _).2 h) (by assumption), by assumption⟩)) (by decide)]) | (refine fpure ?_; refine ⟨?_, rfl⟩; rw [ferr_hit (u := i) (by omega) hf (e := 8) (umE_8 h5f ⟨by omega, by assumption⟩) (by decide)]) | (refine fpure ?_; refine ⟨?_, rfl⟩; rw [ferr_hit (u := i) (by omega) hf (e := 9) (umE_9 h5f h8f (by omega)) (by decide)]) | (refine fpure ?_; refine ⟨?_, rfl⟩; rw [ferr_hit (u := i) (by omega) hf (e := 2) ((umE_d h5f h8f h9f).trans (ferr_hit (u := k) (by omega) hk (dyE_2 (by assumption)) (by decide))) (by decide)]) | (refine fpure ?_; refine ⟨?_, rfl⟩; rw [ferr_hit (u := i) (by omega) hf (e := 8) ((umE_d h5f h8f h9f).trans (ferr_hit (u := k) (by omega) hk (dyE_8 (by assumption) ⟨by omega, by omega⟩) (by decide))) (by decide)]) | (refine fpure ?_; refine ⟨?_, rfl⟩; rw [← show i = us.length by omega, hf])
       ·
        try simp only [decide_eq_true_eq, decide_eq_false_iff_not, Bool.not_eq_true', Bool.not_eq_false', beq_iff_eq, beq_eq_false_iff_ne, ne_eq] at h7
        refine at_skip rfl ?_
        refine blk_n ?_
        refine then_n ?_
        refine at_seq rfl ?_
        refine rg rfl ?_
        have h9f : ¬ 400 < (gt us i).ds.length := by omega
        refine Rq ?_
        refine Rq ?_
        refine Rq ?_
        refine Rq ?_
        have tr : ∀ a b c d e f g h i j k m n o p q r s t u v w x : AV, let l := lc_umpires_ok a b c d e f g h i j k m n o p q r s t; trim ((52,x)::(51,w)::(50,v)::(49,u)::l) l = [(0,a),(2,b),(3,c),(4,d),(5,e),(6,f),(7,g),(8,h),(9,i),(10,j),(14,k),(30,m),(44,n),(50,v),(51,w),(52,x),(53,r),(57,s),(61,t)] := by intros; rfl
        refine R_nil (tr ..) ?_; clear tr
        refine then_n ?_
        refine at_block rfl ?_
        refine loop_n rfl (fun mm kv H' => ∃ k : Nat, ∃ x2 x5 x6 x53 x57 x61 : AV, (kv = [(2, x2), (5, x5), (6, x6), (52, AV.i (k : Int)), (53, x53), (57, x57), (61, x61)]) ∧ (mm = (gt us i).ds.length - k) ∧ (H' = H ++ X ++ [some (umC (gt us i))]) ∧ (k ≤ (gt us i).ds.length) ∧ (ferr (dyE (gt us i).ds) k = 0)) ⟨0, _, _, _, _, _, _, rfl, rfl, rfl, by omega, by rfl⟩ (by rfl) ?_
        rintro mm kv H' ⟨k, x2, x5, x6, x53, x57, x61, rfl, rfl, rfl, hkl, hk⟩
        have tr : ∀ a b c d e f g h i j k m n o p q r s t u v w x y z A : AV, upd [(0,a),(2,b),(3,c),(4,d),(5,e),(6,f),(7,g),(8,h),(9,i),(10,j),(14,k),(30,m),(44,n),(50,o),(51,p),(52,q),(53,r),(57,s),(61,t)] [(2,u),(5,v),(6,w),(52,x),(53,y),(57,z),(61,A)] = [(0,a),(2,u),(3,c),(4,d),(5,v),(6,w),(7,g),(8,h),(9,i),(10,j),(14,k),(30,m),(44,n),(50,o),(51,p),(52,x),(53,y),(57,z),(61,A)] := by intros; rfl
        refine W_to (tr ..) ?_; clear tr
        refine at_seq rfl ?_
        refine rg rfl ?_
        refine Rq ?_
        have tr : ∀ a b c d e f g h i j k m n o p q r s t u : AV, let l := lc_umpires_ok a b c d e f g h i j k m n o p q r s t; trim ((53,u)::l) l = [(0,a),(2,b),(3,c),(4,d),(5,e),(6,f),(7,g),(8,h),(9,i),(10,j),(14,k),(30,m),(44,n),(50,o),(51,p),(52,q),(53,u),(57,s),(61,t)] := by intros; rfl
        refine R_nil (tr ..) ?_; clear tr
        refine then_n ?_
        refine at_seq rfl ?_
        refine cdd (fun h8 => ?_) (fun h8 => ?_)
        ·
         try simp only [decide_eq_true_eq, decide_eq_false_iff_not, Bool.not_eq_true', Bool.not_eq_false', beq_iff_eq, beq_eq_false_iff_ne, ne_eq] at h8
         refine at_skip rfl ?_
         refine then_n ?_
         refine at_seq rfl ?_
         refine at_block rfl ?_
         refine at_seq rfl ?_
         refine rg rfl ?_
         refine Rq ?_
         refine Rq ?_
         refine Rq ?_
         refine Rq ?_
         refine Rq ?_
         have tr : ∀ a b c d e f g h i j k m n o p q r s t u v w x y : AV, let l := lc_umpires_ok a b c d e f g h i j k m n o p q r s t; trim ((6,y)::(5,x)::(56,w)::(55,v)::(54,u)::l) l = [(0,a),(2,b),(3,c),(4,d),(5,x),(6,y),(7,g),(8,h),(9,i),(10,j),(14,k),(30,m),(44,n),(50,o),(51,p),(52,q),(53,r),(57,s),(61,t)] := by intros; rfl
         refine R_nil (tr ..) ?_; clear tr
         refine then_n ?_
         refine at_block rfl ?_
         refine at_seq rfl ?_
         refine rg rfl ?_
         refine Rq ?_
         refine Rcall ?_
         refine ACall_eq (day_ok _ _ _) ?_
         refine Rq ?_
         refine Rq ?_
         have tr : ∀ a b c d e f g h i j k m n o p q r s t u v w x : AV, let l := lc_umpires_ok a b c d e f g h i j k m n o p q r s t; trim ((57,x)::(60,w)::(59,v)::(58,u)::l) l = [(0,a),(2,b),(3,c),(4,d),(5,e),(6,f),(7,g),(8,h),(9,i),(10,j),(14,k),(30,m),(44,n),(50,o),(51,p),(52,q),(53,r),(57,x),(61,t)] := by intros; rfl
         refine R_nil (tr ..) ?_; clear tr
         refine then_n ?_
         refine cdd (fun h9 => ?_) (fun h9 => ?_)
         ·
          try simp only [decide_eq_true_eq, decide_eq_false_iff_not, Bool.not_eq_true', Bool.not_eq_false', beq_iff_eq, beq_eq_false_iff_ne, ne_eq] at h9
          refine at_seq rfl ?_
          refine rg rfl ?_
          refine Rq ?_
          have tr : ∀ a b c d e f g h i j k m n o p q r s t u : AV, let l := lc_umpires_ok a b c d e f g h i j k m n o p q r s t; trim ((2,u)::l) l = [(0,a),(2,u),(3,c),(4,d),(5,e),(6,f),(7,g),(8,h),(9,i),(10,j),(14,k),(30,m),(44,n),(50,o),(51,p),(52,q),(53,r),(57,s),(61,t)] := by intros; rfl
          refine R_nil (tr ..) ?_; clear tr
          refine then_n ?_
          refine at_ret rfl ?_
          refine blk_r ?_
          refine blk_r ?_
          refine then_r ?_
          refine then_r ?_
          refine blk_r ?_
          refine blk_r ?_
          refine then_r ?_
          refine then_r ?_
          refine blk_r ?_
          refine then_r ?_
          first | (refine fpure ?_; refine ⟨?_, rfl⟩; rw [ferr_hit (u := i) (by omega) hf (e := 5) (umE_5 (by first | exact .inl (by assumption) | exact .inr ⟨fun h => absurd ((str_e _).2 h) (by assumption), by assumption⟩)) (by decide)]) | (refine fpure ?_; refine ⟨?_, rfl⟩; rw [ferr_hit (u := i) (by omega) hf (e := 8) (umE_8 h5f ⟨by omega, by assumption⟩) (by decide)]) | (refine fpure ?_; refine ⟨?_, rfl⟩; rw [ferr_hit (u := i) (by omega) hf (e := 9) (umE_9 h5f h8f (by omega)) (by decide)]) | (refine fpure ?_; refine ⟨?_, rfl⟩; rw [ferr_hit (u := i) (by omega) hf (e := 2) ((umE_d h5f h8f h9f).trans (ferr_hit (u := k) (by omega) hk (dyE_2 (by assumption)) (by decide))) (by decide)]) | (refine fpure ?_; refine ⟨?_, rfl⟩; rw [ferr_hit (u := i) (by omega) hf (e := 8) ((umE_d h5f h8f h9f).trans (ferr_hit (u := k) (by omega) hk (dyE_8 (by assumption) ⟨by omega, by omega⟩) (by decide))) (by decide)]) | (refine fpure ?_; refine ⟨?_, rfl⟩; rw [← show i = us.length by omega, hf])
         ·
          try simp only [decide_eq_true_eq, decide_eq_false_iff_not, Bool.not_eq_true', Bool.not_eq_false', beq_iff_eq, beq_eq_false_iff_ne, ne_eq] at h9
          refine at_seq rfl ?_
          refine rg rfl ?_
          refine Rq ?_
          refine Rq ?_
          refine Rq ?_
          refine Rp_split (fun h10 => ?_) (fun h10 => ?_)
          ·
           try simp only [decide_eq_true_eq, decide_eq_false_iff_not, Bool.not_eq_true', Bool.not_eq_false', beq_iff_eq, beq_eq_false_iff_ne, ne_eq] at h10
           refine Ry ?_
           refine Rq ?_
           refine Ry ?_
           refine Rq ?_
           refine Ry ?_
           refine Rq ?_
           refine Ry ?_
           refine Rq ?_
           refine Ry ?_
           refine Rq ?_
           refine Ry ?_
           refine Rq ?_
           refine Ry ?_
           refine R_q (r := AV.i (gt (gt us i).ds (k - 1))) rfl (by simp (disch := first | omega | (simp only [List.length_map, List.length_append, List.length_set, List.length_cons, List.length_nil]; omega)) only [go_sem, ↓reduceIte, Nat.reduceEqDiff, reduceCtorEq] <;> (rw [show ((k : Int) - 1).toNat = k - 1 by omega])) ?_
           refine Ry ?_
           refine Rq ?_
           refine Rq ?_
           refine Rq ?_
           have tr : ∀ a b c d e f g h i j k m n o p q r s t u v w x y z A B C D E F G : AV, let l := lc_umpires_ok a b c d e f g h i j k m n o p q r s t; trim ((61,G)::(73,F)::(72,E)::(71,D)::(70,C)::(69,B)::(68,A)::(67,z)::(66,y)::(65,x)::(64,w)::(63,v)::(62,u)::l) l = [(0,a),(2,b),(3,c),(4,d),(5,e),(6,f),(7,g),(8,h),(9,i),(10,j),(14,k),(30,m),(44,n),(50,o),(51,p),(52,q),(53,r),(57,s),(61,G)] := by intros; rfl
           refine R_nil (tr ..) ?_; clear tr
           refine then_n ?_
           refine cdd (fun h11 => ?_) (fun h11 => ?_)
           ·
            try simp only [decide_eq_true_eq, decide_eq_false_iff_not, Bool.not_eq_true', Bool.not_eq_false', beq_iff_eq, beq_eq_false_iff_ne, ne_eq] at h11
            refine at_seq rfl ?_
            refine rg rfl ?_
            refine Rq ?_
            have tr : ∀ a b c d e f g h i j k m n o p q r s t u : AV, let l := lc_umpires_ok a b c d e f g h i j k m n o p q r s t; trim ((2,u)::l) l = [(0,a),(2,u),(3,c),(4,d),(5,e),(6,f),(7,g),(8,h),(9,i),(10,j),(14,k),(30,m),(44,n),(50,o),(51,p),(52,q),(53,r),(57,s),(61,t)] := by intros; rfl
            refine R_nil (tr ..) ?_; clear tr
            refine then_n ?_
            refine at_ret rfl ?_
            refine blk_r ?_
            refine blk_r ?_
            refine then_r ?_
            refine then_r ?_
            refine blk_r ?_
            refine blk_r ?_
            refine then_r ?_
            refine then_r ?_
            refine blk_r ?_
            refine then_r ?_
            first | (refine fpure ?_; refine ⟨?_, rfl⟩; rw [ferr_hit (u := i) (by omega) hf (e := 5) (umE_5 (by first | exact .inl (by assumption) | exact .inr ⟨fun h => absurd ((str_e _).2 h) (by assumption), by assumption⟩)) (by decide)]) | (refine fpure ?_; refine ⟨?_, rfl⟩; rw [ferr_hit (u := i) (by omega) hf (e := 8) (umE_8 h5f ⟨by omega, by assumption⟩) (by decide)]) | (refine fpure ?_; refine ⟨?_, rfl⟩; rw [ferr_hit (u := i) (by omega) hf (e := 9) (umE_9 h5f h8f (by omega)) (by decide)]) | (refine fpure ?_; refine ⟨?_, rfl⟩; rw [ferr_hit (u := i) (by omega) hf (e := 2) ((umE_d h5f h8f h9f).trans (ferr_hit (u := k) (by omega) hk (dyE_2 (by assumption)) (by decide))) (by decide)]) | (refine fpure ?_; refine ⟨?_, rfl⟩; rw [ferr_hit (u := i) (by omega) hf (e := 8) ((umE_d h5f h8f h9f).trans (ferr_hit (u := k) (by omega) hk (dyE_8 (by assumption) ⟨by omega, by omega⟩) (by decide))) (by decide)]) | (refine fpure ?_; refine ⟨?_, rfl⟩; rw [← show i = us.length by omega, hf])
           ·
            try simp only [decide_eq_true_eq, decide_eq_false_iff_not, Bool.not_eq_true', Bool.not_eq_false', beq_iff_eq, beq_eq_false_iff_ne, ne_eq] at h11
            refine at_skip rfl ?_
            refine blk_n ?_
            refine blk_n ?_
            refine then_n ?_
            refine rg rfl ?_
            refine Rq ?_
            refine Rq ?_
            have tr : ∀ a b c d e f g h i j k m n o p q r s t u v : AV, let l := lc_umpires_ok a b c d e f g h i j k m n o p q r s t; trim ((52,v)::(74,u)::l) l = [(0,a),(2,b),(3,c),(4,d),(5,e),(6,f),(7,g),(8,h),(9,i),(10,j),(14,k),(30,m),(44,n),(50,o),(51,p),(52,v),(53,r),(57,s),(61,t)] := by intros; rfl
            refine R_nil (tr ..) ?_; clear tr
            refine then_n ?_
            exact ⟨_, _, ⟨k + 1, _, _, _, _, _, _, rfl, rfl, rfl, by omega, by (exact ferr_ok hk (dyE_0 (by assumption) (by omega)))⟩, by rfl, by omega⟩
          ·
           try simp only [decide_eq_true_eq, decide_eq_false_iff_not, Bool.not_eq_true', Bool.not_eq_false', beq_iff_eq, beq_eq_false_iff_ne, ne_eq] at h10
           refine Rn ?_
           refine Rn ?_
           refine Rn ?_
           refine Rn ?_
           refine Rn ?_
           refine Rn ?_
           refine Rn ?_
           refine Rn ?_
           refine Rq ?_
           refine Rq ?_
           have tr : ∀ a b c d e f g h i j k m n o p q r s t u v w x y z A B C D E F G : AV, let l := lc_umpires_ok a b c d e f g h i j k m n o p q r s t; trim ((61,G)::(73,F)::(72,E)::(71,D)::(70,C)::(69,B)::(68,A)::(67,z)::(66,y)::(65,x)::(64,w)::(63,v)::(62,u)::l) l = [(0,a),(2,b),(3,c),(4,d),(5,e),(6,f),(7,g),(8,h),(9,i),(10,j),(14,k),(30,m),(44,n),(50,o),(51,p),(52,q),(53,r),(57,s),(61,G)] := by intros; rfl
           refine R_nil (tr ..) ?_; clear tr
           refine then_n ?_
           refine cdf ?_
           refine at_skip rfl ?_
           refine blk_n ?_
           refine blk_n ?_
           refine then_n ?_
           refine rg rfl ?_
           refine Rq ?_
           refine Rq ?_
           have tr : ∀ a b c d e f g h i j k m n o p q r s t u v : AV, let l := lc_umpires_ok a b c d e f g h i j k m n o p q r s t; trim ((52,v)::(74,u)::l) l = [(0,a),(2,b),(3,c),(4,d),(5,e),(6,f),(7,g),(8,h),(9,i),(10,j),(14,k),(30,m),(44,n),(50,o),(51,p),(52,v),(53,r),(57,s),(61,t)] := by intros; rfl
           refine R_nil (tr ..) ?_; clear tr
           refine then_n ?_
           exact ⟨_, _, ⟨k + 1, _, _, _, _, _, _, rfl, rfl, rfl, by omega, by (exact ferr_ok hk (dyE_0 (by assumption) (by omega)))⟩, by rfl, by omega⟩
        ·
         try simp only [decide_eq_true_eq, decide_eq_false_iff_not, Bool.not_eq_true', Bool.not_eq_false', beq_iff_eq, beq_eq_false_iff_ne, ne_eq] at h8
         refine at_exit rfl ?_
         refine then_x ?_
         refine then_x ?_
         refine blk_x ?_
         refine blk_n ?_
         refine then_n ?_
         refine rg rfl ?_
         refine Rq ?_
         refine Rq ?_
         have tr : ∀ a b c d e f g h i j k m n o p q r s t u v : AV, let l := lc_umpires_ok a b c d e f g h i j k m n o p q r s t; trim ((9,v)::(75,u)::l) l = [(0,a),(2,b),(3,c),(4,d),(5,e),(6,f),(7,g),(8,h),(9,v),(10,j),(14,k),(30,m),(44,n),(50,o),(51,p),(52,q),(53,r),(57,s),(61,t)] := by intros; rfl
         refine R_nil (tr ..) ?_; clear tr
         refine then_n ?_
         exact ⟨_, _, ⟨i + 1, X ++ [some (umC (gt us i))], _, _, _, _, _, _, _, _, _, _, _, _, _, _, _, rfl, rfl, by (first | (simp; done) | (simp; rfl)), by omega, by (exact ferr_ok hf ((umE_d h5f h8f h9f).trans (by rw [← show k = (gt us i).ds.length by omega]; exact hk)))⟩, by rfl, by omega⟩
     ·
      try simp only [decide_eq_true_eq, decide_eq_false_iff_not, Bool.not_eq_true', Bool.not_eq_false', beq_iff_eq, beq_eq_false_iff_ne, ne_eq] at h5
      refine Qn ?_
      refine Qn ?_
      refine Qn ?_
      refine Qn ?_
      refine Qn ?_
      refine Qn ?_
      refine Qn ?_
      refine Qn ?_
      refine Qn ?_
      refine Qq ?_
      refine Qq ?_
      refine Q_nil ?_
      have tr : ∀ a b c d e f g h i j k m n o p q r s t u v w x y z A B C D E F G H : AV, let l := lc_umpires_ok a b c d e f g h i j k m n o p q r s t; trim ((30,H)::(43,G)::(42,F)::(41,E)::(40,D)::(39,C)::(38,B)::(37,A)::(36,z)::(35,y)::(34,x)::(33,w)::(32,v)::(31,u)::l) l = [(0,a),(2,b),(3,c),(4,d),(5,e),(6,f),(7,g),(8,h),(9,i),(10,j),(14,k),(30,H),(44,n),(50,o),(51,p),(52,q),(53,r),(57,s),(61,t)] := by intros; rfl
      refine R_nil (tr ..) ?_; clear tr
      refine then_n ?_
      refine cdf ?_
      refine at_seq rfl ?_
      refine rg rfl ?_
      have h8f : ¬ (0 < i ∧ leB (gt us i).nm (gt us (i - 1)).nm = true) := by first | (rintro ⟨hh, _⟩; omega) | (rintro ⟨_, hh⟩; exact absurd (hh.symm.trans (show leB (gt us i).nm (gt us (i - 1)).nm = false by assumption)) (by decide))
      refine Rq ?_
      refine Rq ?_
      refine Rq ?_
      refine Rq ?_
      refine Rq ?_
      have tr : ∀ a b c d e f g h i j k m n o p q r s t u v w x y : AV, let l := lc_umpires_ok a b c d e f g h i j k m n o p q r s t; trim ((44,y)::(48,x)::(47,w)::(46,v)::(45,u)::l) l = [(0,a),(2,b),(3,c),(4,d),(5,e),(6,f),(7,g),(8,h),(9,i),(10,j),(14,k),(30,m),(44,y),(50,o),(51,p),(52,q),(53,r),(57,s),(61,t)] := by intros; rfl
      refine R_nil (tr ..) ?_; clear tr
      refine then_n ?_
      refine cdd (fun h12 => ?_) (fun h12 => ?_)
      ·
       try simp only [decide_eq_true_eq, decide_eq_false_iff_not, Bool.not_eq_true', Bool.not_eq_false', beq_iff_eq, beq_eq_false_iff_ne, ne_eq] at h12
       refine at_seq rfl ?_
       refine rg rfl ?_
       refine Rq ?_
       have tr : ∀ a b c d e f g h i j k m n o p q r s t u : AV, let l := lc_umpires_ok a b c d e f g h i j k m n o p q r s t; trim ((2,u)::l) l = [(0,a),(2,u),(3,c),(4,d),(5,e),(6,f),(7,g),(8,h),(9,i),(10,j),(14,k),(30,m),(44,n),(50,o),(51,p),(52,q),(53,r),(57,s),(61,t)] := by intros; rfl
       refine R_nil (tr ..) ?_; clear tr
       refine then_n ?_
       refine at_ret rfl ?_
       refine blk_r ?_
       refine then_r ?_
       refine blk_r ?_
       refine then_r ?_
       refine then_r ?_
       refine blk_r ?_
       refine then_r ?_
       first | (refine fpure ?_; refine ⟨?_, rfl⟩; rw [ferr_hit (u := i) (by omega) hf (e := 5) (umE_5 (by first | exact .inl (by assumption) | exact .inr ⟨fun h => absurd ((str_e _).2 h) (by assumption), by assumption⟩)) (by decide)]) | (refine fpure ?_; refine ⟨?_, rfl⟩; rw [ferr_hit (u := i) (by omega) hf (e := 8) (umE_8 h5f ⟨by omega, by assumption⟩) (by decide)]) | (refine fpure ?_; refine ⟨?_, rfl⟩; rw [ferr_hit (u := i) (by omega) hf (e := 9) (umE_9 h5f h8f (by omega)) (by decide)]) | (refine fpure ?_; refine ⟨?_, rfl⟩; rw [ferr_hit (u := i) (by omega) hf (e := 2) ((umE_d h5f h8f h9f).trans (ferr_hit (u := k) (by omega) hk (dyE_2 (by assumption)) (by decide))) (by decide)]) | (refine fpure ?_; refine ⟨?_, rfl⟩; rw [ferr_hit (u := i) (by omega) hf (e := 8) ((umE_d h5f h8f h9f).trans (ferr_hit (u := k) (by omega) hk (dyE_8 (by assumption) ⟨by omega, by omega⟩) (by decide))) (by decide)]) | (refine fpure ?_; refine ⟨?_, rfl⟩; rw [← show i = us.length by omega, hf])
      ·
       try simp only [decide_eq_true_eq, decide_eq_false_iff_not, Bool.not_eq_true', Bool.not_eq_false', beq_iff_eq, beq_eq_false_iff_ne, ne_eq] at h12
       refine at_skip rfl ?_
       refine blk_n ?_
       refine then_n ?_
       refine at_seq rfl ?_
       refine rg rfl ?_
       have h9f : ¬ 400 < (gt us i).ds.length := by omega
       refine Rq ?_
       refine Rq ?_
       refine Rq ?_
       refine Rq ?_
       have tr : ∀ a b c d e f g h i j k m n o p q r s t u v w x : AV, let l := lc_umpires_ok a b c d e f g h i j k m n o p q r s t; trim ((52,x)::(51,w)::(50,v)::(49,u)::l) l = [(0,a),(2,b),(3,c),(4,d),(5,e),(6,f),(7,g),(8,h),(9,i),(10,j),(14,k),(30,m),(44,n),(50,v),(51,w),(52,x),(53,r),(57,s),(61,t)] := by intros; rfl
       refine R_nil (tr ..) ?_; clear tr
       refine then_n ?_
       refine at_block rfl ?_
       refine loop_n rfl (fun mm kv H' => ∃ k : Nat, ∃ x2 x5 x6 x53 x57 x61 : AV, (kv = [(2, x2), (5, x5), (6, x6), (52, AV.i (k : Int)), (53, x53), (57, x57), (61, x61)]) ∧ (mm = (gt us i).ds.length - k) ∧ (H' = H ++ X ++ [some (umC (gt us i))]) ∧ (k ≤ (gt us i).ds.length) ∧ (ferr (dyE (gt us i).ds) k = 0)) ⟨0, _, _, _, _, _, _, rfl, rfl, rfl, by omega, by rfl⟩ (by rfl) ?_
       rintro mm kv H' ⟨k, x2, x5, x6, x53, x57, x61, rfl, rfl, rfl, hkl, hk⟩
       have tr : ∀ a b c d e f g h i j k m n o p q r s t u v w x y z A : AV, upd [(0,a),(2,b),(3,c),(4,d),(5,e),(6,f),(7,g),(8,h),(9,i),(10,j),(14,k),(30,m),(44,n),(50,o),(51,p),(52,q),(53,r),(57,s),(61,t)] [(2,u),(5,v),(6,w),(52,x),(53,y),(57,z),(61,A)] = [(0,a),(2,u),(3,c),(4,d),(5,v),(6,w),(7,g),(8,h),(9,i),(10,j),(14,k),(30,m),(44,n),(50,o),(51,p),(52,x),(53,y),(57,z),(61,A)] := by intros; rfl
       refine W_to (tr ..) ?_; clear tr
       refine at_seq rfl ?_
       refine rg rfl ?_
       refine Rq ?_
       have tr : ∀ a b c d e f g h i j k m n o p q r s t u : AV, let l := lc_umpires_ok a b c d e f g h i j k m n o p q r s t; trim ((53,u)::l) l = [(0,a),(2,b),(3,c),(4,d),(5,e),(6,f),(7,g),(8,h),(9,i),(10,j),(14,k),(30,m),(44,n),(50,o),(51,p),(52,q),(53,u),(57,s),(61,t)] := by intros; rfl
       refine R_nil (tr ..) ?_; clear tr
       refine then_n ?_
       refine at_seq rfl ?_
       refine cdd (fun h13 => ?_) (fun h13 => ?_)
       ·
        try simp only [decide_eq_true_eq, decide_eq_false_iff_not, Bool.not_eq_true', Bool.not_eq_false', beq_iff_eq, beq_eq_false_iff_ne, ne_eq] at h13
        refine at_skip rfl ?_
        refine then_n ?_
        refine at_seq rfl ?_
        refine at_block rfl ?_
        refine at_seq rfl ?_
        refine rg rfl ?_
        refine Rq ?_
        refine Rq ?_
        refine Rq ?_
        refine Rq ?_
        refine Rq ?_
        have tr : ∀ a b c d e f g h i j k m n o p q r s t u v w x y : AV, let l := lc_umpires_ok a b c d e f g h i j k m n o p q r s t; trim ((6,y)::(5,x)::(56,w)::(55,v)::(54,u)::l) l = [(0,a),(2,b),(3,c),(4,d),(5,x),(6,y),(7,g),(8,h),(9,i),(10,j),(14,k),(30,m),(44,n),(50,o),(51,p),(52,q),(53,r),(57,s),(61,t)] := by intros; rfl
        refine R_nil (tr ..) ?_; clear tr
        refine then_n ?_
        refine at_block rfl ?_
        refine at_seq rfl ?_
        refine rg rfl ?_
        refine Rq ?_
        refine Rcall ?_
        refine ACall_eq (day_ok _ _ _) ?_
        refine Rq ?_
        refine Rq ?_
        have tr : ∀ a b c d e f g h i j k m n o p q r s t u v w x : AV, let l := lc_umpires_ok a b c d e f g h i j k m n o p q r s t; trim ((57,x)::(60,w)::(59,v)::(58,u)::l) l = [(0,a),(2,b),(3,c),(4,d),(5,e),(6,f),(7,g),(8,h),(9,i),(10,j),(14,k),(30,m),(44,n),(50,o),(51,p),(52,q),(53,r),(57,x),(61,t)] := by intros; rfl
        refine R_nil (tr ..) ?_; clear tr
        refine then_n ?_
        refine cdd (fun h14 => ?_) (fun h14 => ?_)
        ·
         try simp only [decide_eq_true_eq, decide_eq_false_iff_not, Bool.not_eq_true', Bool.not_eq_false', beq_iff_eq, beq_eq_false_iff_ne, ne_eq] at h14
         refine at_seq rfl ?_
         refine rg rfl ?_
         refine Rq ?_
         have tr : ∀ a b c d e f g h i j k m n o p q r s t u : AV, let l := lc_umpires_ok a b c d e f g h i j k m n o p q r s t; trim ((2,u)::l) l = [(0,a),(2,u),(3,c),(4,d),(5,e),(6,f),(7,g),(8,h),(9,i),(10,j),(14,k),(30,m),(44,n),(50,o),(51,p),(52,q),(53,r),(57,s),(61,t)] := by intros; rfl
         refine R_nil (tr ..) ?_; clear tr
         refine then_n ?_
         refine at_ret rfl ?_
         refine blk_r ?_
         refine blk_r ?_
         refine then_r ?_
         refine then_r ?_
         refine blk_r ?_
         refine blk_r ?_
         refine then_r ?_
         refine then_r ?_
         refine blk_r ?_
         refine then_r ?_
         first | (refine fpure ?_; refine ⟨?_, rfl⟩; rw [ferr_hit (u := i) (by omega) hf (e := 5) (umE_5 (by first | exact .inl (by assumption) | exact .inr ⟨fun h => absurd ((str_e _).2 h) (by assumption), by assumption⟩)) (by decide)]) | (refine fpure ?_; refine ⟨?_, rfl⟩; rw [ferr_hit (u := i) (by omega) hf (e := 8) (umE_8 h5f ⟨by omega, by assumption⟩) (by decide)]) | (refine fpure ?_; refine ⟨?_, rfl⟩; rw [ferr_hit (u := i) (by omega) hf (e := 9) (umE_9 h5f h8f (by omega)) (by decide)]) | (refine fpure ?_; refine ⟨?_, rfl⟩; rw [ferr_hit (u := i) (by omega) hf (e := 2) ((umE_d h5f h8f h9f).trans (ferr_hit (u := k) (by omega) hk (dyE_2 (by assumption)) (by decide))) (by decide)]) | (refine fpure ?_; refine ⟨?_, rfl⟩; rw [ferr_hit (u := i) (by omega) hf (e := 8) ((umE_d h5f h8f h9f).trans (ferr_hit (u := k) (by omega) hk (dyE_8 (by assumption) ⟨by omega, by omega⟩) (by decide))) (by decide)]) | (refine fpure ?_; refine ⟨?_, rfl⟩; rw [← show i = us.length by omega, hf])
        ·
         try simp only [decide_eq_true_eq, decide_eq_false_iff_not, Bool.not_eq_true', Bool.not_eq_false', beq_iff_eq, beq_eq_false_iff_ne, ne_eq] at h14
         refine at_seq rfl ?_
         refine rg rfl ?_
         refine Rq ?_
         refine Rq ?_
         refine Rq ?_
         refine Rp_split (fun h15 => ?_) (fun h15 => ?_)
         ·
          try simp only [decide_eq_true_eq, decide_eq_false_iff_not, Bool.not_eq_true', Bool.not_eq_false', beq_iff_eq, beq_eq_false_iff_ne, ne_eq] at h15
          refine Ry ?_
          refine Rq ?_
          refine Ry ?_
          refine Rq ?_
          refine Ry ?_
          refine Rq ?_
          refine Ry ?_
          refine Rq ?_
          refine Ry ?_
          refine Rq ?_
          refine Ry ?_
          refine Rq ?_
          refine Ry ?_
          refine R_q (r := AV.i (gt (gt us i).ds (k - 1))) rfl (by simp (disch := first | omega | (simp only [List.length_map, List.length_append, List.length_set, List.length_cons, List.length_nil]; omega)) only [go_sem, ↓reduceIte, Nat.reduceEqDiff, reduceCtorEq] <;> (rw [show ((k : Int) - 1).toNat = k - 1 by omega])) ?_
          refine Ry ?_
          refine Rq ?_
          refine Rq ?_
          refine Rq ?_
          have tr : ∀ a b c d e f g h i j k m n o p q r s t u v w x y z A B C D E F G : AV, let l := lc_umpires_ok a b c d e f g h i j k m n o p q r s t; trim ((61,G)::(73,F)::(72,E)::(71,D)::(70,C)::(69,B)::(68,A)::(67,z)::(66,y)::(65,x)::(64,w)::(63,v)::(62,u)::l) l = [(0,a),(2,b),(3,c),(4,d),(5,e),(6,f),(7,g),(8,h),(9,i),(10,j),(14,k),(30,m),(44,n),(50,o),(51,p),(52,q),(53,r),(57,s),(61,G)] := by intros; rfl
          refine R_nil (tr ..) ?_; clear tr
          refine then_n ?_
          refine cdd (fun h16 => ?_) (fun h16 => ?_)
          ·
           try simp only [decide_eq_true_eq, decide_eq_false_iff_not, Bool.not_eq_true', Bool.not_eq_false', beq_iff_eq, beq_eq_false_iff_ne, ne_eq] at h16
           refine at_seq rfl ?_
           refine rg rfl ?_
           refine Rq ?_
           have tr : ∀ a b c d e f g h i j k m n o p q r s t u : AV, let l := lc_umpires_ok a b c d e f g h i j k m n o p q r s t; trim ((2,u)::l) l = [(0,a),(2,u),(3,c),(4,d),(5,e),(6,f),(7,g),(8,h),(9,i),(10,j),(14,k),(30,m),(44,n),(50,o),(51,p),(52,q),(53,r),(57,s),(61,t)] := by intros; rfl
           refine R_nil (tr ..) ?_; clear tr
           refine then_n ?_
           refine at_ret rfl ?_
           refine blk_r ?_
           refine blk_r ?_
           refine then_r ?_
           refine then_r ?_
           refine blk_r ?_
           refine blk_r ?_
           refine then_r ?_
           refine then_r ?_
           refine blk_r ?_
           refine then_r ?_
           first | (refine fpure ?_; refine ⟨?_, rfl⟩; rw [ferr_hit (u := i) (by omega) hf (e := 5) (umE_5 (by first | exact .inl (by assumption) | exact .inr ⟨fun h => absurd ((str_e _).2 h) (by assumption), by assumption⟩)) (by decide)]) | (refine fpure ?_; refine ⟨?_, rfl⟩; rw [ferr_hit (u := i) (by omega) hf (e := 8) (umE_8 h5f ⟨by omega, by assumption⟩) (by decide)]) | (refine fpure ?_; refine ⟨?_, rfl⟩; rw [ferr_hit (u := i) (by omega) hf (e := 9) (umE_9 h5f h8f (by omega)) (by decide)]) | (refine fpure ?_; refine ⟨?_, rfl⟩; rw [ferr_hit (u := i) (by omega) hf (e := 2) ((umE_d h5f h8f h9f).trans (ferr_hit (u := k) (by omega) hk (dyE_2 (by assumption)) (by decide))) (by decide)]) | (refine fpure ?_; refine ⟨?_, rfl⟩; rw [ferr_hit (u := i) (by omega) hf (e := 8) ((umE_d h5f h8f h9f).trans (ferr_hit (u := k) (by omega) hk (dyE_8 (by assumption) ⟨by omega, by omega⟩) (by decide))) (by decide)]) | (refine fpure ?_; refine ⟨?_, rfl⟩; rw [← show i = us.length by omega, hf])
          ·
           try simp only [decide_eq_true_eq, decide_eq_false_iff_not, Bool.not_eq_true', Bool.not_eq_false', beq_iff_eq, beq_eq_false_iff_ne, ne_eq] at h16
           refine at_skip rfl ?_
           refine blk_n ?_
           refine blk_n ?_
           refine then_n ?_
           refine rg rfl ?_
           refine Rq ?_
           refine Rq ?_
           have tr : ∀ a b c d e f g h i j k m n o p q r s t u v : AV, let l := lc_umpires_ok a b c d e f g h i j k m n o p q r s t; trim ((52,v)::(74,u)::l) l = [(0,a),(2,b),(3,c),(4,d),(5,e),(6,f),(7,g),(8,h),(9,i),(10,j),(14,k),(30,m),(44,n),(50,o),(51,p),(52,v),(53,r),(57,s),(61,t)] := by intros; rfl
           refine R_nil (tr ..) ?_; clear tr
           refine then_n ?_
           exact ⟨_, _, ⟨k + 1, _, _, _, _, _, _, rfl, rfl, rfl, by omega, by (exact ferr_ok hk (dyE_0 (by assumption) (by omega)))⟩, by rfl, by omega⟩
         ·
          try simp only [decide_eq_true_eq, decide_eq_false_iff_not, Bool.not_eq_true', Bool.not_eq_false', beq_iff_eq, beq_eq_false_iff_ne, ne_eq] at h15
          refine Rn ?_
          refine Rn ?_
          refine Rn ?_
          refine Rn ?_
          refine Rn ?_
          refine Rn ?_
          refine Rn ?_
          refine Rn ?_
          refine Rq ?_
          refine Rq ?_
          have tr : ∀ a b c d e f g h i j k m n o p q r s t u v w x y z A B C D E F G : AV, let l := lc_umpires_ok a b c d e f g h i j k m n o p q r s t; trim ((61,G)::(73,F)::(72,E)::(71,D)::(70,C)::(69,B)::(68,A)::(67,z)::(66,y)::(65,x)::(64,w)::(63,v)::(62,u)::l) l = [(0,a),(2,b),(3,c),(4,d),(5,e),(6,f),(7,g),(8,h),(9,i),(10,j),(14,k),(30,m),(44,n),(50,o),(51,p),(52,q),(53,r),(57,s),(61,G)] := by intros; rfl
          refine R_nil (tr ..) ?_; clear tr
          refine then_n ?_
          refine cdf ?_
          refine at_skip rfl ?_
          refine blk_n ?_
          refine blk_n ?_
          refine then_n ?_
          refine rg rfl ?_
          refine Rq ?_
          refine Rq ?_
          have tr : ∀ a b c d e f g h i j k m n o p q r s t u v : AV, let l := lc_umpires_ok a b c d e f g h i j k m n o p q r s t; trim ((52,v)::(74,u)::l) l = [(0,a),(2,b),(3,c),(4,d),(5,e),(6,f),(7,g),(8,h),(9,i),(10,j),(14,k),(30,m),(44,n),(50,o),(51,p),(52,v),(53,r),(57,s),(61,t)] := by intros; rfl
          refine R_nil (tr ..) ?_; clear tr
          refine then_n ?_
          exact ⟨_, _, ⟨k + 1, _, _, _, _, _, _, rfl, rfl, rfl, by omega, by (exact ferr_ok hk (dyE_0 (by assumption) (by omega)))⟩, by rfl, by omega⟩
       ·
        try simp only [decide_eq_true_eq, decide_eq_false_iff_not, Bool.not_eq_true', Bool.not_eq_false', beq_iff_eq, beq_eq_false_iff_ne, ne_eq] at h13
        refine at_exit rfl ?_
        refine then_x ?_
        refine then_x ?_
        refine blk_x ?_
        refine blk_n ?_
        refine then_n ?_
        refine rg rfl ?_
        refine Rq ?_
        refine Rq ?_
        have tr : ∀ a b c d e f g h i j k m n o p q r s t u v : AV, let l := lc_umpires_ok a b c d e f g h i j k m n o p q r s t; trim ((9,v)::(75,u)::l) l = [(0,a),(2,b),(3,c),(4,d),(5,e),(6,f),(7,g),(8,h),(9,v),(10,j),(14,k),(30,m),(44,n),(50,o),(51,p),(52,q),(53,r),(57,s),(61,t)] := by intros; rfl
        refine R_nil (tr ..) ?_; clear tr
        refine then_n ?_
        exact ⟨_, _, ⟨i + 1, X ++ [some (umC (gt us i))], _, _, _, _, _, _, _, _, _, _, _, _, _, _, _, rfl, rfl, by (first | (simp; done) | (simp; rfl)), by omega, by (exact ferr_ok hf ((umE_d h5f h8f h9f).trans (by rw [← show k = (gt us i).ds.length by omega]; exact hk)))⟩, by rfl, by omega⟩
   ·
    try simp only [decide_eq_true_eq, decide_eq_false_iff_not, Bool.not_eq_true', Bool.not_eq_false', beq_iff_eq, beq_eq_false_iff_ne, ne_eq] at h3
    refine Rn ?_
    refine Rn ?_
    refine Rn ?_
    refine Rn ?_
    refine Ry ?_
    refine Rq ?_
    refine Rq ?_
    refine Rq ?_
    have tr : ∀ a b c d e f g h i j k m n o p q r s t u v w x y z A B C D E F G H I J : AV, let l := lc_umpires_ok a b c d e f g h i j k m n o p q r s t; trim ((14,J)::(29,I)::(28,H)::(27,G)::(26,F)::(25,E)::(24,D)::(23,C)::(22,B)::(21,A)::(20,z)::(19,y)::(18,x)::(17,w)::(16,v)::(15,u)::l) l = [(0,a),(2,b),(3,c),(4,d),(5,e),(6,f),(7,g),(8,h),(9,i),(10,j),(14,J),(30,m),(44,n),(50,o),(51,p),(52,q),(53,r),(57,s),(61,t)] := by intros; rfl
    refine R_nil (tr ..) ?_; clear tr
    refine then_n ?_
    refine cdf ?_
    refine at_seq rfl ?_
    refine rd rfl rfl ?_
    have h5f : ¬ (nameS (gt us i).nm = false ∨ ((gt us i).tm.size ≠ 0 ∧ nameS (gt us i).tm = false)) := by rintro (hh | ⟨hh, hh2⟩) <;> first | exact absurd ((str_e _).1 (by assumption)) hh | (simp_all; done)
    refine Qq ?_
    refine Qq ?_
    refine Qq ?_
    refine Qp_split (fun h17 => ?_) (fun h17 => ?_)
    ·
     try simp only [decide_eq_true_eq, decide_eq_false_iff_not, Bool.not_eq_true', Bool.not_eq_false', beq_iff_eq, beq_eq_false_iff_ne, ne_eq] at h17
     refine Qy ?_
     refine Qq ?_
     refine Qy ?_
     refine Qq ?_
     refine Qy ?_
     refine Qq ?_
     refine Qy ?_
     refine Qq ?_
     refine Qy ?_
     refine Qq ?_
     refine Qy ?_
     refine Qq ?_
     refine Qy ?_
     refine Qq ?_
     refine Qy ?_
     refine Q_q (r := .v (.string (gt us (i - 1)).nm)) rfl (by simp (disch := first | omega | (simp only [List.length_map, List.length_append, List.length_set, List.length_cons, List.length_nil]; omega)) only [go_sem, ↓reduceIte, Nat.reduceEqDiff, reduceCtorEq] <;> (rw [show ((i : Int) - 1).toNat = i - 1 by omega]; exact flatU0 us (i - 1) (by omega))) ?_
     refine Qy ?_
     refine Qq ?_
     refine Qq ?_
     refine Qq ?_
     refine Q_nil ?_
     have tr : ∀ a b c d e f g h i j k m n o p q r s t u v w x y z A B C D E F G H : AV, let l := lc_umpires_ok a b c d e f g h i j k m n o p q r s t; trim ((30,H)::(43,G)::(42,F)::(41,E)::(40,D)::(39,C)::(38,B)::(37,A)::(36,z)::(35,y)::(34,x)::(33,w)::(32,v)::(31,u)::l) l = [(0,a),(2,b),(3,c),(4,d),(5,e),(6,f),(7,g),(8,h),(9,i),(10,j),(14,k),(30,H),(44,n),(50,o),(51,p),(52,q),(53,r),(57,s),(61,t)] := by intros; rfl
     refine R_nil (tr ..) ?_; clear tr
     refine then_n ?_
     refine cdd (fun h18 => ?_) (fun h18 => ?_)
     ·
      try simp only [decide_eq_true_eq, decide_eq_false_iff_not, Bool.not_eq_true', Bool.not_eq_false', beq_iff_eq, beq_eq_false_iff_ne, ne_eq] at h18
      refine at_seq rfl ?_
      refine rg rfl ?_
      refine Rq ?_
      have tr : ∀ a b c d e f g h i j k m n o p q r s t u : AV, let l := lc_umpires_ok a b c d e f g h i j k m n o p q r s t; trim ((2,u)::l) l = [(0,a),(2,u),(3,c),(4,d),(5,e),(6,f),(7,g),(8,h),(9,i),(10,j),(14,k),(30,m),(44,n),(50,o),(51,p),(52,q),(53,r),(57,s),(61,t)] := by intros; rfl
      refine R_nil (tr ..) ?_; clear tr
      refine then_n ?_
      refine at_ret rfl ?_
      refine blk_r ?_
      refine then_r ?_
      refine blk_r ?_
      refine then_r ?_
      refine then_r ?_
      refine blk_r ?_
      refine then_r ?_
      first | (refine fpure ?_; refine ⟨?_, rfl⟩; rw [ferr_hit (u := i) (by omega) hf (e := 5) (umE_5 (by first | exact .inl (by assumption) | exact .inr ⟨fun h => absurd ((str_e _).2 h) (by assumption), by assumption⟩)) (by decide)]) | (refine fpure ?_; refine ⟨?_, rfl⟩; rw [ferr_hit (u := i) (by omega) hf (e := 8) (umE_8 h5f ⟨by omega, by assumption⟩) (by decide)]) | (refine fpure ?_; refine ⟨?_, rfl⟩; rw [ferr_hit (u := i) (by omega) hf (e := 9) (umE_9 h5f h8f (by omega)) (by decide)]) | (refine fpure ?_; refine ⟨?_, rfl⟩; rw [ferr_hit (u := i) (by omega) hf (e := 2) ((umE_d h5f h8f h9f).trans (ferr_hit (u := k) (by omega) hk (dyE_2 (by assumption)) (by decide))) (by decide)]) | (refine fpure ?_; refine ⟨?_, rfl⟩; rw [ferr_hit (u := i) (by omega) hf (e := 8) ((umE_d h5f h8f h9f).trans (ferr_hit (u := k) (by omega) hk (dyE_8 (by assumption) ⟨by omega, by omega⟩) (by decide))) (by decide)]) | (refine fpure ?_; refine ⟨?_, rfl⟩; rw [← show i = us.length by omega, hf])
     ·
      try simp only [decide_eq_true_eq, decide_eq_false_iff_not, Bool.not_eq_true', Bool.not_eq_false', beq_iff_eq, beq_eq_false_iff_ne, ne_eq] at h18
      refine at_seq rfl ?_
      refine rg rfl ?_
      have h8f : ¬ (0 < i ∧ leB (gt us i).nm (gt us (i - 1)).nm = true) := by first | (rintro ⟨hh, _⟩; omega) | (rintro ⟨_, hh⟩; exact absurd (hh.symm.trans (show leB (gt us i).nm (gt us (i - 1)).nm = false by assumption)) (by decide))
      refine Rq ?_
      refine Rq ?_
      refine Rq ?_
      refine Rq ?_
      refine Rq ?_
      have tr : ∀ a b c d e f g h i j k m n o p q r s t u v w x y : AV, let l := lc_umpires_ok a b c d e f g h i j k m n o p q r s t; trim ((44,y)::(48,x)::(47,w)::(46,v)::(45,u)::l) l = [(0,a),(2,b),(3,c),(4,d),(5,e),(6,f),(7,g),(8,h),(9,i),(10,j),(14,k),(30,m),(44,y),(50,o),(51,p),(52,q),(53,r),(57,s),(61,t)] := by intros; rfl
      refine R_nil (tr ..) ?_; clear tr
      refine then_n ?_
      refine cdd (fun h19 => ?_) (fun h19 => ?_)
      ·
       try simp only [decide_eq_true_eq, decide_eq_false_iff_not, Bool.not_eq_true', Bool.not_eq_false', beq_iff_eq, beq_eq_false_iff_ne, ne_eq] at h19
       refine at_seq rfl ?_
       refine rg rfl ?_
       refine Rq ?_
       have tr : ∀ a b c d e f g h i j k m n o p q r s t u : AV, let l := lc_umpires_ok a b c d e f g h i j k m n o p q r s t; trim ((2,u)::l) l = [(0,a),(2,u),(3,c),(4,d),(5,e),(6,f),(7,g),(8,h),(9,i),(10,j),(14,k),(30,m),(44,n),(50,o),(51,p),(52,q),(53,r),(57,s),(61,t)] := by intros; rfl
       refine R_nil (tr ..) ?_; clear tr
       refine then_n ?_
       refine at_ret rfl ?_
       refine blk_r ?_
       refine then_r ?_
       refine blk_r ?_
       refine then_r ?_
       refine then_r ?_
       refine blk_r ?_
       refine then_r ?_
       first | (refine fpure ?_; refine ⟨?_, rfl⟩; rw [ferr_hit (u := i) (by omega) hf (e := 5) (umE_5 (by first | exact .inl (by assumption) | exact .inr ⟨fun h => absurd ((str_e _).2 h) (by assumption), by assumption⟩)) (by decide)]) | (refine fpure ?_; refine ⟨?_, rfl⟩; rw [ferr_hit (u := i) (by omega) hf (e := 8) (umE_8 h5f ⟨by omega, by assumption⟩) (by decide)]) | (refine fpure ?_; refine ⟨?_, rfl⟩; rw [ferr_hit (u := i) (by omega) hf (e := 9) (umE_9 h5f h8f (by omega)) (by decide)]) | (refine fpure ?_; refine ⟨?_, rfl⟩; rw [ferr_hit (u := i) (by omega) hf (e := 2) ((umE_d h5f h8f h9f).trans (ferr_hit (u := k) (by omega) hk (dyE_2 (by assumption)) (by decide))) (by decide)]) | (refine fpure ?_; refine ⟨?_, rfl⟩; rw [ferr_hit (u := i) (by omega) hf (e := 8) ((umE_d h5f h8f h9f).trans (ferr_hit (u := k) (by omega) hk (dyE_8 (by assumption) ⟨by omega, by omega⟩) (by decide))) (by decide)]) | (refine fpure ?_; refine ⟨?_, rfl⟩; rw [← show i = us.length by omega, hf])
      ·
       try simp only [decide_eq_true_eq, decide_eq_false_iff_not, Bool.not_eq_true', Bool.not_eq_false', beq_iff_eq, beq_eq_false_iff_ne, ne_eq] at h19
       refine at_skip rfl ?_
       refine blk_n ?_
       refine then_n ?_
       refine at_seq rfl ?_
       refine rg rfl ?_
       have h9f : ¬ 400 < (gt us i).ds.length := by omega
       refine Rq ?_
       refine Rq ?_
       refine Rq ?_
       refine Rq ?_
       have tr : ∀ a b c d e f g h i j k m n o p q r s t u v w x : AV, let l := lc_umpires_ok a b c d e f g h i j k m n o p q r s t; trim ((52,x)::(51,w)::(50,v)::(49,u)::l) l = [(0,a),(2,b),(3,c),(4,d),(5,e),(6,f),(7,g),(8,h),(9,i),(10,j),(14,k),(30,m),(44,n),(50,v),(51,w),(52,x),(53,r),(57,s),(61,t)] := by intros; rfl
       refine R_nil (tr ..) ?_; clear tr
       refine then_n ?_
       refine at_block rfl ?_
       refine loop_n rfl (fun mm kv H' => ∃ k : Nat, ∃ x2 x5 x6 x53 x57 x61 : AV, (kv = [(2, x2), (5, x5), (6, x6), (52, AV.i (k : Int)), (53, x53), (57, x57), (61, x61)]) ∧ (mm = (gt us i).ds.length - k) ∧ (H' = H ++ X ++ [some (umC (gt us i))]) ∧ (k ≤ (gt us i).ds.length) ∧ (ferr (dyE (gt us i).ds) k = 0)) ⟨0, _, _, _, _, _, _, rfl, rfl, rfl, by omega, by rfl⟩ (by rfl) ?_
       rintro mm kv H' ⟨k, x2, x5, x6, x53, x57, x61, rfl, rfl, rfl, hkl, hk⟩
       have tr : ∀ a b c d e f g h i j k m n o p q r s t u v w x y z A : AV, upd [(0,a),(2,b),(3,c),(4,d),(5,e),(6,f),(7,g),(8,h),(9,i),(10,j),(14,k),(30,m),(44,n),(50,o),(51,p),(52,q),(53,r),(57,s),(61,t)] [(2,u),(5,v),(6,w),(52,x),(53,y),(57,z),(61,A)] = [(0,a),(2,u),(3,c),(4,d),(5,v),(6,w),(7,g),(8,h),(9,i),(10,j),(14,k),(30,m),(44,n),(50,o),(51,p),(52,x),(53,y),(57,z),(61,A)] := by intros; rfl
       refine W_to (tr ..) ?_; clear tr
       refine at_seq rfl ?_
       refine rg rfl ?_
       refine Rq ?_
       have tr : ∀ a b c d e f g h i j k m n o p q r s t u : AV, let l := lc_umpires_ok a b c d e f g h i j k m n o p q r s t; trim ((53,u)::l) l = [(0,a),(2,b),(3,c),(4,d),(5,e),(6,f),(7,g),(8,h),(9,i),(10,j),(14,k),(30,m),(44,n),(50,o),(51,p),(52,q),(53,u),(57,s),(61,t)] := by intros; rfl
       refine R_nil (tr ..) ?_; clear tr
       refine then_n ?_
       refine at_seq rfl ?_
       refine cdd (fun h20 => ?_) (fun h20 => ?_)
       ·
        try simp only [decide_eq_true_eq, decide_eq_false_iff_not, Bool.not_eq_true', Bool.not_eq_false', beq_iff_eq, beq_eq_false_iff_ne, ne_eq] at h20
        refine at_skip rfl ?_
        refine then_n ?_
        refine at_seq rfl ?_
        refine at_block rfl ?_
        refine at_seq rfl ?_
        refine rg rfl ?_
        refine Rq ?_
        refine Rq ?_
        refine Rq ?_
        refine Rq ?_
        refine Rq ?_
        have tr : ∀ a b c d e f g h i j k m n o p q r s t u v w x y : AV, let l := lc_umpires_ok a b c d e f g h i j k m n o p q r s t; trim ((6,y)::(5,x)::(56,w)::(55,v)::(54,u)::l) l = [(0,a),(2,b),(3,c),(4,d),(5,x),(6,y),(7,g),(8,h),(9,i),(10,j),(14,k),(30,m),(44,n),(50,o),(51,p),(52,q),(53,r),(57,s),(61,t)] := by intros; rfl
        refine R_nil (tr ..) ?_; clear tr
        refine then_n ?_
        refine at_block rfl ?_
        refine at_seq rfl ?_
        refine rg rfl ?_
        refine Rq ?_
        refine Rcall ?_
        refine ACall_eq (day_ok _ _ _) ?_
        refine Rq ?_
        refine Rq ?_
        have tr : ∀ a b c d e f g h i j k m n o p q r s t u v w x : AV, let l := lc_umpires_ok a b c d e f g h i j k m n o p q r s t; trim ((57,x)::(60,w)::(59,v)::(58,u)::l) l = [(0,a),(2,b),(3,c),(4,d),(5,e),(6,f),(7,g),(8,h),(9,i),(10,j),(14,k),(30,m),(44,n),(50,o),(51,p),(52,q),(53,r),(57,x),(61,t)] := by intros; rfl
        refine R_nil (tr ..) ?_; clear tr
        refine then_n ?_
        refine cdd (fun h21 => ?_) (fun h21 => ?_)
        ·
         try simp only [decide_eq_true_eq, decide_eq_false_iff_not, Bool.not_eq_true', Bool.not_eq_false', beq_iff_eq, beq_eq_false_iff_ne, ne_eq] at h21
         refine at_seq rfl ?_
         refine rg rfl ?_
         refine Rq ?_
         have tr : ∀ a b c d e f g h i j k m n o p q r s t u : AV, let l := lc_umpires_ok a b c d e f g h i j k m n o p q r s t; trim ((2,u)::l) l = [(0,a),(2,u),(3,c),(4,d),(5,e),(6,f),(7,g),(8,h),(9,i),(10,j),(14,k),(30,m),(44,n),(50,o),(51,p),(52,q),(53,r),(57,s),(61,t)] := by intros; rfl
         refine R_nil (tr ..) ?_; clear tr
         refine then_n ?_
         refine at_ret rfl ?_
         refine blk_r ?_
         refine blk_r ?_
         refine then_r ?_
         refine then_r ?_
         refine blk_r ?_
         refine blk_r ?_
         refine then_r ?_
         refine then_r ?_
         refine blk_r ?_
         refine then_r ?_
         first | (refine fpure ?_; refine ⟨?_, rfl⟩; rw [ferr_hit (u := i) (by omega) hf (e := 5) (umE_5 (by first | exact .inl (by assumption) | exact .inr ⟨fun h => absurd ((str_e _).2 h) (by assumption), by assumption⟩)) (by decide)]) | (refine fpure ?_; refine ⟨?_, rfl⟩; rw [ferr_hit (u := i) (by omega) hf (e := 8) (umE_8 h5f ⟨by omega, by assumption⟩) (by decide)]) | (refine fpure ?_; refine ⟨?_, rfl⟩; rw [ferr_hit (u := i) (by omega) hf (e := 9) (umE_9 h5f h8f (by omega)) (by decide)]) | (refine fpure ?_; refine ⟨?_, rfl⟩; rw [ferr_hit (u := i) (by omega) hf (e := 2) ((umE_d h5f h8f h9f).trans (ferr_hit (u := k) (by omega) hk (dyE_2 (by assumption)) (by decide))) (by decide)]) | (refine fpure ?_; refine ⟨?_, rfl⟩; rw [ferr_hit (u := i) (by omega) hf (e := 8) ((umE_d h5f h8f h9f).trans (ferr_hit (u := k) (by omega) hk (dyE_8 (by assumption) ⟨by omega, by omega⟩) (by decide))) (by decide)]) | (refine fpure ?_; refine ⟨?_, rfl⟩; rw [← show i = us.length by omega, hf])
        ·
         try simp only [decide_eq_true_eq, decide_eq_false_iff_not, Bool.not_eq_true', Bool.not_eq_false', beq_iff_eq, beq_eq_false_iff_ne, ne_eq] at h21
         refine at_seq rfl ?_
         refine rg rfl ?_
         refine Rq ?_
         refine Rq ?_
         refine Rq ?_
         refine Rp_split (fun h22 => ?_) (fun h22 => ?_)
         ·
          try simp only [decide_eq_true_eq, decide_eq_false_iff_not, Bool.not_eq_true', Bool.not_eq_false', beq_iff_eq, beq_eq_false_iff_ne, ne_eq] at h22
          refine Ry ?_
          refine Rq ?_
          refine Ry ?_
          refine Rq ?_
          refine Ry ?_
          refine Rq ?_
          refine Ry ?_
          refine Rq ?_
          refine Ry ?_
          refine Rq ?_
          refine Ry ?_
          refine Rq ?_
          refine Ry ?_
          refine R_q (r := AV.i (gt (gt us i).ds (k - 1))) rfl (by simp (disch := first | omega | (simp only [List.length_map, List.length_append, List.length_set, List.length_cons, List.length_nil]; omega)) only [go_sem, ↓reduceIte, Nat.reduceEqDiff, reduceCtorEq] <;> (rw [show ((k : Int) - 1).toNat = k - 1 by omega])) ?_
          refine Ry ?_
          refine Rq ?_
          refine Rq ?_
          refine Rq ?_
          have tr : ∀ a b c d e f g h i j k m n o p q r s t u v w x y z A B C D E F G : AV, let l := lc_umpires_ok a b c d e f g h i j k m n o p q r s t; trim ((61,G)::(73,F)::(72,E)::(71,D)::(70,C)::(69,B)::(68,A)::(67,z)::(66,y)::(65,x)::(64,w)::(63,v)::(62,u)::l) l = [(0,a),(2,b),(3,c),(4,d),(5,e),(6,f),(7,g),(8,h),(9,i),(10,j),(14,k),(30,m),(44,n),(50,o),(51,p),(52,q),(53,r),(57,s),(61,G)] := by intros; rfl
          refine R_nil (tr ..) ?_; clear tr
          refine then_n ?_
          refine cdd (fun h23 => ?_) (fun h23 => ?_)
          ·
           try simp only [decide_eq_true_eq, decide_eq_false_iff_not, Bool.not_eq_true', Bool.not_eq_false', beq_iff_eq, beq_eq_false_iff_ne, ne_eq] at h23
           refine at_seq rfl ?_
           refine rg rfl ?_
           refine Rq ?_
           have tr : ∀ a b c d e f g h i j k m n o p q r s t u : AV, let l := lc_umpires_ok a b c d e f g h i j k m n o p q r s t; trim ((2,u)::l) l = [(0,a),(2,u),(3,c),(4,d),(5,e),(6,f),(7,g),(8,h),(9,i),(10,j),(14,k),(30,m),(44,n),(50,o),(51,p),(52,q),(53,r),(57,s),(61,t)] := by intros; rfl
           refine R_nil (tr ..) ?_; clear tr
           refine then_n ?_
           refine at_ret rfl ?_
           refine blk_r ?_
           refine blk_r ?_
           refine then_r ?_
           refine then_r ?_
           refine blk_r ?_
           refine blk_r ?_
           refine then_r ?_
           refine then_r ?_
           refine blk_r ?_
           refine then_r ?_
           first | (refine fpure ?_; refine ⟨?_, rfl⟩; rw [ferr_hit (u := i) (by omega) hf (e := 5) (umE_5 (by first | exact .inl (by assumption) | exact .inr ⟨fun h => absurd ((str_e _).2 h) (by assumption), by assumption⟩)) (by decide)]) | (refine fpure ?_; refine ⟨?_, rfl⟩; rw [ferr_hit (u := i) (by omega) hf (e := 8) (umE_8 h5f ⟨by omega, by assumption⟩) (by decide)]) | (refine fpure ?_; refine ⟨?_, rfl⟩; rw [ferr_hit (u := i) (by omega) hf (e := 9) (umE_9 h5f h8f (by omega)) (by decide)]) | (refine fpure ?_; refine ⟨?_, rfl⟩; rw [ferr_hit (u := i) (by omega) hf (e := 2) ((umE_d h5f h8f h9f).trans (ferr_hit (u := k) (by omega) hk (dyE_2 (by assumption)) (by decide))) (by decide)]) | (refine fpure ?_; refine ⟨?_, rfl⟩; rw [ferr_hit (u := i) (by omega) hf (e := 8) ((umE_d h5f h8f h9f).trans (ferr_hit (u := k) (by omega) hk (dyE_8 (by assumption) ⟨by omega, by omega⟩) (by decide))) (by decide)]) | (refine fpure ?_; refine ⟨?_, rfl⟩; rw [← show i = us.length by omega, hf])
          ·
           try simp only [decide_eq_true_eq, decide_eq_false_iff_not, Bool.not_eq_true', Bool.not_eq_false', beq_iff_eq, beq_eq_false_iff_ne, ne_eq] at h23
           refine at_skip rfl ?_
           refine blk_n ?_
           refine blk_n ?_
           refine then_n ?_
           refine rg rfl ?_
           refine Rq ?_
           refine Rq ?_
           have tr : ∀ a b c d e f g h i j k m n o p q r s t u v : AV, let l := lc_umpires_ok a b c d e f g h i j k m n o p q r s t; trim ((52,v)::(74,u)::l) l = [(0,a),(2,b),(3,c),(4,d),(5,e),(6,f),(7,g),(8,h),(9,i),(10,j),(14,k),(30,m),(44,n),(50,o),(51,p),(52,v),(53,r),(57,s),(61,t)] := by intros; rfl
           refine R_nil (tr ..) ?_; clear tr
           refine then_n ?_
           exact ⟨_, _, ⟨k + 1, _, _, _, _, _, _, rfl, rfl, rfl, by omega, by (exact ferr_ok hk (dyE_0 (by assumption) (by omega)))⟩, by rfl, by omega⟩
         ·
          try simp only [decide_eq_true_eq, decide_eq_false_iff_not, Bool.not_eq_true', Bool.not_eq_false', beq_iff_eq, beq_eq_false_iff_ne, ne_eq] at h22
          refine Rn ?_
          refine Rn ?_
          refine Rn ?_
          refine Rn ?_
          refine Rn ?_
          refine Rn ?_
          refine Rn ?_
          refine Rn ?_
          refine Rq ?_
          refine Rq ?_
          have tr : ∀ a b c d e f g h i j k m n o p q r s t u v w x y z A B C D E F G : AV, let l := lc_umpires_ok a b c d e f g h i j k m n o p q r s t; trim ((61,G)::(73,F)::(72,E)::(71,D)::(70,C)::(69,B)::(68,A)::(67,z)::(66,y)::(65,x)::(64,w)::(63,v)::(62,u)::l) l = [(0,a),(2,b),(3,c),(4,d),(5,e),(6,f),(7,g),(8,h),(9,i),(10,j),(14,k),(30,m),(44,n),(50,o),(51,p),(52,q),(53,r),(57,s),(61,G)] := by intros; rfl
          refine R_nil (tr ..) ?_; clear tr
          refine then_n ?_
          refine cdf ?_
          refine at_skip rfl ?_
          refine blk_n ?_
          refine blk_n ?_
          refine then_n ?_
          refine rg rfl ?_
          refine Rq ?_
          refine Rq ?_
          have tr : ∀ a b c d e f g h i j k m n o p q r s t u v : AV, let l := lc_umpires_ok a b c d e f g h i j k m n o p q r s t; trim ((52,v)::(74,u)::l) l = [(0,a),(2,b),(3,c),(4,d),(5,e),(6,f),(7,g),(8,h),(9,i),(10,j),(14,k),(30,m),(44,n),(50,o),(51,p),(52,v),(53,r),(57,s),(61,t)] := by intros; rfl
          refine R_nil (tr ..) ?_; clear tr
          refine then_n ?_
          exact ⟨_, _, ⟨k + 1, _, _, _, _, _, _, rfl, rfl, rfl, by omega, by (exact ferr_ok hk (dyE_0 (by assumption) (by omega)))⟩, by rfl, by omega⟩
       ·
        try simp only [decide_eq_true_eq, decide_eq_false_iff_not, Bool.not_eq_true', Bool.not_eq_false', beq_iff_eq, beq_eq_false_iff_ne, ne_eq] at h20
        refine at_exit rfl ?_
        refine then_x ?_
        refine then_x ?_
        refine blk_x ?_
        refine blk_n ?_
        refine then_n ?_
        refine rg rfl ?_
        refine Rq ?_
        refine Rq ?_
        have tr : ∀ a b c d e f g h i j k m n o p q r s t u v : AV, let l := lc_umpires_ok a b c d e f g h i j k m n o p q r s t; trim ((9,v)::(75,u)::l) l = [(0,a),(2,b),(3,c),(4,d),(5,e),(6,f),(7,g),(8,h),(9,v),(10,j),(14,k),(30,m),(44,n),(50,o),(51,p),(52,q),(53,r),(57,s),(61,t)] := by intros; rfl
        refine R_nil (tr ..) ?_; clear tr
        refine then_n ?_
        exact ⟨_, _, ⟨i + 1, X ++ [some (umC (gt us i))], _, _, _, _, _, _, _, _, _, _, _, _, _, _, _, rfl, rfl, by (first | (simp; done) | (simp; rfl)), by omega, by (exact ferr_ok hf ((umE_d h5f h8f h9f).trans (by rw [← show k = (gt us i).ds.length by omega]; exact hk)))⟩, by rfl, by omega⟩
    ·
     try simp only [decide_eq_true_eq, decide_eq_false_iff_not, Bool.not_eq_true', Bool.not_eq_false', beq_iff_eq, beq_eq_false_iff_ne, ne_eq] at h17
     refine Qn ?_
     refine Qn ?_
     refine Qn ?_
     refine Qn ?_
     refine Qn ?_
     refine Qn ?_
     refine Qn ?_
     refine Qn ?_
     refine Qn ?_
     refine Qq ?_
     refine Qq ?_
     refine Q_nil ?_
     have tr : ∀ a b c d e f g h i j k m n o p q r s t u v w x y z A B C D E F G H : AV, let l := lc_umpires_ok a b c d e f g h i j k m n o p q r s t; trim ((30,H)::(43,G)::(42,F)::(41,E)::(40,D)::(39,C)::(38,B)::(37,A)::(36,z)::(35,y)::(34,x)::(33,w)::(32,v)::(31,u)::l) l = [(0,a),(2,b),(3,c),(4,d),(5,e),(6,f),(7,g),(8,h),(9,i),(10,j),(14,k),(30,H),(44,n),(50,o),(51,p),(52,q),(53,r),(57,s),(61,t)] := by intros; rfl
     refine R_nil (tr ..) ?_; clear tr
     refine then_n ?_
     refine cdf ?_
     refine at_seq rfl ?_
     refine rg rfl ?_
     have h8f : ¬ (0 < i ∧ leB (gt us i).nm (gt us (i - 1)).nm = true) := by first | (rintro ⟨hh, _⟩; omega) | (rintro ⟨_, hh⟩; exact absurd (hh.symm.trans (show leB (gt us i).nm (gt us (i - 1)).nm = false by assumption)) (by decide))
     refine Rq ?_
     refine Rq ?_
     refine Rq ?_
     refine Rq ?_
     refine Rq ?_
     have tr : ∀ a b c d e f g h i j k m n o p q r s t u v w x y : AV, let l := lc_umpires_ok a b c d e f g h i j k m n o p q r s t; trim ((44,y)::(48,x)::(47,w)::(46,v)::(45,u)::l) l = [(0,a),(2,b),(3,c),(4,d),(5,e),(6,f),(7,g),(8,h),(9,i),(10,j),(14,k),(30,m),(44,y),(50,o),(51,p),(52,q),(53,r),(57,s),(61,t)] := by intros; rfl
     refine R_nil (tr ..) ?_; clear tr
     refine then_n ?_
     refine cdd (fun h24 => ?_) (fun h24 => ?_)
     ·
      try simp only [decide_eq_true_eq, decide_eq_false_iff_not, Bool.not_eq_true', Bool.not_eq_false', beq_iff_eq, beq_eq_false_iff_ne, ne_eq] at h24
      refine at_seq rfl ?_
      refine rg rfl ?_
      refine Rq ?_
      have tr : ∀ a b c d e f g h i j k m n o p q r s t u : AV, let l := lc_umpires_ok a b c d e f g h i j k m n o p q r s t; trim ((2,u)::l) l = [(0,a),(2,u),(3,c),(4,d),(5,e),(6,f),(7,g),(8,h),(9,i),(10,j),(14,k),(30,m),(44,n),(50,o),(51,p),(52,q),(53,r),(57,s),(61,t)] := by intros; rfl
      refine R_nil (tr ..) ?_; clear tr
      refine then_n ?_
      refine at_ret rfl ?_
      refine blk_r ?_
      refine then_r ?_
      refine blk_r ?_
      refine then_r ?_
      refine then_r ?_
      refine blk_r ?_
      refine then_r ?_
      first | (refine fpure ?_; refine ⟨?_, rfl⟩; rw [ferr_hit (u := i) (by omega) hf (e := 5) (umE_5 (by first | exact .inl (by assumption) | exact .inr ⟨fun h => absurd ((str_e _).2 h) (by assumption), by assumption⟩)) (by decide)]) | (refine fpure ?_; refine ⟨?_, rfl⟩; rw [ferr_hit (u := i) (by omega) hf (e := 8) (umE_8 h5f ⟨by omega, by assumption⟩) (by decide)]) | (refine fpure ?_; refine ⟨?_, rfl⟩; rw [ferr_hit (u := i) (by omega) hf (e := 9) (umE_9 h5f h8f (by omega)) (by decide)]) | (refine fpure ?_; refine ⟨?_, rfl⟩; rw [ferr_hit (u := i) (by omega) hf (e := 2) ((umE_d h5f h8f h9f).trans (ferr_hit (u := k) (by omega) hk (dyE_2 (by assumption)) (by decide))) (by decide)]) | (refine fpure ?_; refine ⟨?_, rfl⟩; rw [ferr_hit (u := i) (by omega) hf (e := 8) ((umE_d h5f h8f h9f).trans (ferr_hit (u := k) (by omega) hk (dyE_8 (by assumption) ⟨by omega, by omega⟩) (by decide))) (by decide)]) | (refine fpure ?_; refine ⟨?_, rfl⟩; rw [← show i = us.length by omega, hf])
     ·
      try simp only [decide_eq_true_eq, decide_eq_false_iff_not, Bool.not_eq_true', Bool.not_eq_false', beq_iff_eq, beq_eq_false_iff_ne, ne_eq] at h24
      refine at_skip rfl ?_
      refine blk_n ?_
      refine then_n ?_
      refine at_seq rfl ?_
      refine rg rfl ?_
      have h9f : ¬ 400 < (gt us i).ds.length := by omega
      refine Rq ?_
      refine Rq ?_
      refine Rq ?_
      refine Rq ?_
      have tr : ∀ a b c d e f g h i j k m n o p q r s t u v w x : AV, let l := lc_umpires_ok a b c d e f g h i j k m n o p q r s t; trim ((52,x)::(51,w)::(50,v)::(49,u)::l) l = [(0,a),(2,b),(3,c),(4,d),(5,e),(6,f),(7,g),(8,h),(9,i),(10,j),(14,k),(30,m),(44,n),(50,v),(51,w),(52,x),(53,r),(57,s),(61,t)] := by intros; rfl
      refine R_nil (tr ..) ?_; clear tr
      refine then_n ?_
      refine at_block rfl ?_
      refine loop_n rfl (fun mm kv H' => ∃ k : Nat, ∃ x2 x5 x6 x53 x57 x61 : AV, (kv = [(2, x2), (5, x5), (6, x6), (52, AV.i (k : Int)), (53, x53), (57, x57), (61, x61)]) ∧ (mm = (gt us i).ds.length - k) ∧ (H' = H ++ X ++ [some (umC (gt us i))]) ∧ (k ≤ (gt us i).ds.length) ∧ (ferr (dyE (gt us i).ds) k = 0)) ⟨0, _, _, _, _, _, _, rfl, rfl, rfl, by omega, by rfl⟩ (by rfl) ?_
      rintro mm kv H' ⟨k, x2, x5, x6, x53, x57, x61, rfl, rfl, rfl, hkl, hk⟩
      have tr : ∀ a b c d e f g h i j k m n o p q r s t u v w x y z A : AV, upd [(0,a),(2,b),(3,c),(4,d),(5,e),(6,f),(7,g),(8,h),(9,i),(10,j),(14,k),(30,m),(44,n),(50,o),(51,p),(52,q),(53,r),(57,s),(61,t)] [(2,u),(5,v),(6,w),(52,x),(53,y),(57,z),(61,A)] = [(0,a),(2,u),(3,c),(4,d),(5,v),(6,w),(7,g),(8,h),(9,i),(10,j),(14,k),(30,m),(44,n),(50,o),(51,p),(52,x),(53,y),(57,z),(61,A)] := by intros; rfl
      refine W_to (tr ..) ?_; clear tr
      refine at_seq rfl ?_
      refine rg rfl ?_
      refine Rq ?_
      have tr : ∀ a b c d e f g h i j k m n o p q r s t u : AV, let l := lc_umpires_ok a b c d e f g h i j k m n o p q r s t; trim ((53,u)::l) l = [(0,a),(2,b),(3,c),(4,d),(5,e),(6,f),(7,g),(8,h),(9,i),(10,j),(14,k),(30,m),(44,n),(50,o),(51,p),(52,q),(53,u),(57,s),(61,t)] := by intros; rfl
      refine R_nil (tr ..) ?_; clear tr
      refine then_n ?_
      refine at_seq rfl ?_
      refine cdd (fun h25 => ?_) (fun h25 => ?_)
      ·
       try simp only [decide_eq_true_eq, decide_eq_false_iff_not, Bool.not_eq_true', Bool.not_eq_false', beq_iff_eq, beq_eq_false_iff_ne, ne_eq] at h25
       refine at_skip rfl ?_
       refine then_n ?_
       refine at_seq rfl ?_
       refine at_block rfl ?_
       refine at_seq rfl ?_
       refine rg rfl ?_
       refine Rq ?_
       refine Rq ?_
       refine Rq ?_
       refine Rq ?_
       refine Rq ?_
       have tr : ∀ a b c d e f g h i j k m n o p q r s t u v w x y : AV, let l := lc_umpires_ok a b c d e f g h i j k m n o p q r s t; trim ((6,y)::(5,x)::(56,w)::(55,v)::(54,u)::l) l = [(0,a),(2,b),(3,c),(4,d),(5,x),(6,y),(7,g),(8,h),(9,i),(10,j),(14,k),(30,m),(44,n),(50,o),(51,p),(52,q),(53,r),(57,s),(61,t)] := by intros; rfl
       refine R_nil (tr ..) ?_; clear tr
       refine then_n ?_
       refine at_block rfl ?_
       refine at_seq rfl ?_
       refine rg rfl ?_
       refine Rq ?_
       refine Rcall ?_
       refine ACall_eq (day_ok _ _ _) ?_
       refine Rq ?_
       refine Rq ?_
       have tr : ∀ a b c d e f g h i j k m n o p q r s t u v w x : AV, let l := lc_umpires_ok a b c d e f g h i j k m n o p q r s t; trim ((57,x)::(60,w)::(59,v)::(58,u)::l) l = [(0,a),(2,b),(3,c),(4,d),(5,e),(6,f),(7,g),(8,h),(9,i),(10,j),(14,k),(30,m),(44,n),(50,o),(51,p),(52,q),(53,r),(57,x),(61,t)] := by intros; rfl
       refine R_nil (tr ..) ?_; clear tr
       refine then_n ?_
       refine cdd (fun h26 => ?_) (fun h26 => ?_)
       ·
        try simp only [decide_eq_true_eq, decide_eq_false_iff_not, Bool.not_eq_true', Bool.not_eq_false', beq_iff_eq, beq_eq_false_iff_ne, ne_eq] at h26
        refine at_seq rfl ?_
        refine rg rfl ?_
        refine Rq ?_
        have tr : ∀ a b c d e f g h i j k m n o p q r s t u : AV, let l := lc_umpires_ok a b c d e f g h i j k m n o p q r s t; trim ((2,u)::l) l = [(0,a),(2,u),(3,c),(4,d),(5,e),(6,f),(7,g),(8,h),(9,i),(10,j),(14,k),(30,m),(44,n),(50,o),(51,p),(52,q),(53,r),(57,s),(61,t)] := by intros; rfl
        refine R_nil (tr ..) ?_; clear tr
        refine then_n ?_
        refine at_ret rfl ?_
        refine blk_r ?_
        refine blk_r ?_
        refine then_r ?_
        refine then_r ?_
        refine blk_r ?_
        refine blk_r ?_
        refine then_r ?_
        refine then_r ?_
        refine blk_r ?_
        refine then_r ?_
        first | (refine fpure ?_; refine ⟨?_, rfl⟩; rw [ferr_hit (u := i) (by omega) hf (e := 5) (umE_5 (by first | exact .inl (by assumption) | exact .inr ⟨fun h => absurd ((str_e _).2 h) (by assumption), by assumption⟩)) (by decide)]) | (refine fpure ?_; refine ⟨?_, rfl⟩; rw [ferr_hit (u := i) (by omega) hf (e := 8) (umE_8 h5f ⟨by omega, by assumption⟩) (by decide)]) | (refine fpure ?_; refine ⟨?_, rfl⟩; rw [ferr_hit (u := i) (by omega) hf (e := 9) (umE_9 h5f h8f (by omega)) (by decide)]) | (refine fpure ?_; refine ⟨?_, rfl⟩; rw [ferr_hit (u := i) (by omega) hf (e := 2) ((umE_d h5f h8f h9f).trans (ferr_hit (u := k) (by omega) hk (dyE_2 (by assumption)) (by decide))) (by decide)]) | (refine fpure ?_; refine ⟨?_, rfl⟩; rw [ferr_hit (u := i) (by omega) hf (e := 8) ((umE_d h5f h8f h9f).trans (ferr_hit (u := k) (by omega) hk (dyE_8 (by assumption) ⟨by omega, by omega⟩) (by decide))) (by decide)]) | (refine fpure ?_; refine ⟨?_, rfl⟩; rw [← show i = us.length by omega, hf])
       ·
        try simp only [decide_eq_true_eq, decide_eq_false_iff_not, Bool.not_eq_true', Bool.not_eq_false', beq_iff_eq, beq_eq_false_iff_ne, ne_eq] at h26
        refine at_seq rfl ?_
        refine rg rfl ?_
        refine Rq ?_
        refine Rq ?_
        refine Rq ?_
        refine Rp_split (fun h27 => ?_) (fun h27 => ?_)
        ·
         try simp only [decide_eq_true_eq, decide_eq_false_iff_not, Bool.not_eq_true', Bool.not_eq_false', beq_iff_eq, beq_eq_false_iff_ne, ne_eq] at h27
         refine Ry ?_
         refine Rq ?_
         refine Ry ?_
         refine Rq ?_
         refine Ry ?_
         refine Rq ?_
         refine Ry ?_
         refine Rq ?_
         refine Ry ?_
         refine Rq ?_
         refine Ry ?_
         refine Rq ?_
         refine Ry ?_
         refine R_q (r := AV.i (gt (gt us i).ds (k - 1))) rfl (by simp (disch := first | omega | (simp only [List.length_map, List.length_append, List.length_set, List.length_cons, List.length_nil]; omega)) only [go_sem, ↓reduceIte, Nat.reduceEqDiff, reduceCtorEq] <;> (rw [show ((k : Int) - 1).toNat = k - 1 by omega])) ?_
         refine Ry ?_
         refine Rq ?_
         refine Rq ?_
         refine Rq ?_
         have tr : ∀ a b c d e f g h i j k m n o p q r s t u v w x y z A B C D E F G : AV, let l := lc_umpires_ok a b c d e f g h i j k m n o p q r s t; trim ((61,G)::(73,F)::(72,E)::(71,D)::(70,C)::(69,B)::(68,A)::(67,z)::(66,y)::(65,x)::(64,w)::(63,v)::(62,u)::l) l = [(0,a),(2,b),(3,c),(4,d),(5,e),(6,f),(7,g),(8,h),(9,i),(10,j),(14,k),(30,m),(44,n),(50,o),(51,p),(52,q),(53,r),(57,s),(61,G)] := by intros; rfl
         refine R_nil (tr ..) ?_; clear tr
         refine then_n ?_
         refine cdd (fun h28 => ?_) (fun h28 => ?_)
         ·
          try simp only [decide_eq_true_eq, decide_eq_false_iff_not, Bool.not_eq_true', Bool.not_eq_false', beq_iff_eq, beq_eq_false_iff_ne, ne_eq] at h28
          refine at_seq rfl ?_
          refine rg rfl ?_
          refine Rq ?_
          have tr : ∀ a b c d e f g h i j k m n o p q r s t u : AV, let l := lc_umpires_ok a b c d e f g h i j k m n o p q r s t; trim ((2,u)::l) l = [(0,a),(2,u),(3,c),(4,d),(5,e),(6,f),(7,g),(8,h),(9,i),(10,j),(14,k),(30,m),(44,n),(50,o),(51,p),(52,q),(53,r),(57,s),(61,t)] := by intros; rfl
          refine R_nil (tr ..) ?_; clear tr
          refine then_n ?_
          refine at_ret rfl ?_
          refine blk_r ?_
          refine blk_r ?_
          refine then_r ?_
          refine then_r ?_
          refine blk_r ?_
          refine blk_r ?_
          refine then_r ?_
          refine then_r ?_
          refine blk_r ?_
          refine then_r ?_
          first | (refine fpure ?_; refine ⟨?_, rfl⟩; rw [ferr_hit (u := i) (by omega) hf (e := 5) (umE_5 (by first | exact .inl (by assumption) | exact .inr ⟨fun h => absurd ((str_e _).2 h) (by assumption), by assumption⟩)) (by decide)]) | (refine fpure ?_; refine ⟨?_, rfl⟩; rw [ferr_hit (u := i) (by omega) hf (e := 8) (umE_8 h5f ⟨by omega, by assumption⟩) (by decide)]) | (refine fpure ?_; refine ⟨?_, rfl⟩; rw [ferr_hit (u := i) (by omega) hf (e := 9) (umE_9 h5f h8f (by omega)) (by decide)]) | (refine fpure ?_; refine ⟨?_, rfl⟩; rw [ferr_hit (u := i) (by omega) hf (e := 2) ((umE_d h5f h8f h9f).trans (ferr_hit (u := k) (by omega) hk (dyE_2 (by assumption)) (by decide))) (by decide)]) | (refine fpure ?_; refine ⟨?_, rfl⟩; rw [ferr_hit (u := i) (by omega) hf (e := 8) ((umE_d h5f h8f h9f).trans (ferr_hit (u := k) (by omega) hk (dyE_8 (by assumption) ⟨by omega, by omega⟩) (by decide))) (by decide)]) | (refine fpure ?_; refine ⟨?_, rfl⟩; rw [← show i = us.length by omega, hf])
         ·
          try simp only [decide_eq_true_eq, decide_eq_false_iff_not, Bool.not_eq_true', Bool.not_eq_false', beq_iff_eq, beq_eq_false_iff_ne, ne_eq] at h28
          refine at_skip rfl ?_
          refine blk_n ?_
          refine blk_n ?_
          refine then_n ?_
          refine rg rfl ?_
          refine Rq ?_
          refine Rq ?_
          have tr : ∀ a b c d e f g h i j k m n o p q r s t u v : AV, let l := lc_umpires_ok a b c d e f g h i j k m n o p q r s t; trim ((52,v)::(74,u)::l) l = [(0,a),(2,b),(3,c),(4,d),(5,e),(6,f),(7,g),(8,h),(9,i),(10,j),(14,k),(30,m),(44,n),(50,o),(51,p),(52,v),(53,r),(57,s),(61,t)] := by intros; rfl
          refine R_nil (tr ..) ?_; clear tr
          refine then_n ?_
          exact ⟨_, _, ⟨k + 1, _, _, _, _, _, _, rfl, rfl, rfl, by omega, by (exact ferr_ok hk (dyE_0 (by assumption) (by omega)))⟩, by rfl, by omega⟩
        ·
         try simp only [decide_eq_true_eq, decide_eq_false_iff_not, Bool.not_eq_true', Bool.not_eq_false', beq_iff_eq, beq_eq_false_iff_ne, ne_eq] at h27
         refine Rn ?_
         refine Rn ?_
         refine Rn ?_
         refine Rn ?_
         refine Rn ?_
         refine Rn ?_
         refine Rn ?_
         refine Rn ?_
         refine Rq ?_
         refine Rq ?_
         have tr : ∀ a b c d e f g h i j k m n o p q r s t u v w x y z A B C D E F G : AV, let l := lc_umpires_ok a b c d e f g h i j k m n o p q r s t; trim ((61,G)::(73,F)::(72,E)::(71,D)::(70,C)::(69,B)::(68,A)::(67,z)::(66,y)::(65,x)::(64,w)::(63,v)::(62,u)::l) l = [(0,a),(2,b),(3,c),(4,d),(5,e),(6,f),(7,g),(8,h),(9,i),(10,j),(14,k),(30,m),(44,n),(50,o),(51,p),(52,q),(53,r),(57,s),(61,G)] := by intros; rfl
         refine R_nil (tr ..) ?_; clear tr
         refine then_n ?_
         refine cdf ?_
         refine at_skip rfl ?_
         refine blk_n ?_
         refine blk_n ?_
         refine then_n ?_
         refine rg rfl ?_
         refine Rq ?_
         refine Rq ?_
         have tr : ∀ a b c d e f g h i j k m n o p q r s t u v : AV, let l := lc_umpires_ok a b c d e f g h i j k m n o p q r s t; trim ((52,v)::(74,u)::l) l = [(0,a),(2,b),(3,c),(4,d),(5,e),(6,f),(7,g),(8,h),(9,i),(10,j),(14,k),(30,m),(44,n),(50,o),(51,p),(52,v),(53,r),(57,s),(61,t)] := by intros; rfl
         refine R_nil (tr ..) ?_; clear tr
         refine then_n ?_
         exact ⟨_, _, ⟨k + 1, _, _, _, _, _, _, rfl, rfl, rfl, by omega, by (exact ferr_ok hk (dyE_0 (by assumption) (by omega)))⟩, by rfl, by omega⟩
      ·
       try simp only [decide_eq_true_eq, decide_eq_false_iff_not, Bool.not_eq_true', Bool.not_eq_false', beq_iff_eq, beq_eq_false_iff_ne, ne_eq] at h25
       refine at_exit rfl ?_
       refine then_x ?_
       refine then_x ?_
       refine blk_x ?_
       refine blk_n ?_
       refine then_n ?_
       refine rg rfl ?_
       refine Rq ?_
       refine Rq ?_
       have tr : ∀ a b c d e f g h i j k m n o p q r s t u v : AV, let l := lc_umpires_ok a b c d e f g h i j k m n o p q r s t; trim ((9,v)::(75,u)::l) l = [(0,a),(2,b),(3,c),(4,d),(5,e),(6,f),(7,g),(8,h),(9,v),(10,j),(14,k),(30,m),(44,n),(50,o),(51,p),(52,q),(53,r),(57,s),(61,t)] := by intros; rfl
       refine R_nil (tr ..) ?_; clear tr
       refine then_n ?_
       exact ⟨_, _, ⟨i + 1, X ++ [some (umC (gt us i))], _, _, _, _, _, _, _, _, _, _, _, _, _, _, _, rfl, rfl, by (first | (simp; done) | (simp; rfl)), by omega, by (exact ferr_ok hf ((umE_d h5f h8f h9f).trans (by rw [← show k = (gt us i).ds.length by omega]; exact hk)))⟩, by rfl, by omega⟩
 ·
  try simp only [decide_eq_true_eq, decide_eq_false_iff_not, Bool.not_eq_true', Bool.not_eq_false', beq_iff_eq, beq_eq_false_iff_ne, ne_eq] at h1
  refine at_exit rfl ?_
  refine then_x ?_
  refine then_x ?_
  refine blk_x ?_
  refine then_n ?_
  refine at_seq rfl ?_
  refine rg rfl ?_
  refine Rq ?_
  have tr : ∀ a b c d e f g h i j k m n o p q r s t u : AV, let l := lc_umpires_ok a b c d e f g h i j k m n o p q r s t; trim ((2,u)::l) l = [(0,a),(2,u),(3,c),(4,d),(5,e),(6,f),(7,g),(8,h),(9,i),(10,j),(14,k),(30,m),(44,n),(50,o),(51,p),(52,q),(53,r),(57,s),(61,t)] := by intros; rfl
  refine R_nil (tr ..) ?_; clear tr
  refine then_n ?_
  refine at_ret rfl ?_
  first | (refine fpure ?_; refine ⟨?_, rfl⟩; rw [ferr_hit (u := i) (by omega) hf (e := 5) (umE_5 (by first | exact .inl (by assumption) | exact .inr ⟨fun h => absurd ((str_e _).2 h) (by assumption), by assumption⟩)) (by decide)]) | (refine fpure ?_; refine ⟨?_, rfl⟩; rw [ferr_hit (u := i) (by omega) hf (e := 8) (umE_8 h5f ⟨by omega, by assumption⟩) (by decide)]) | (refine fpure ?_; refine ⟨?_, rfl⟩; rw [ferr_hit (u := i) (by omega) hf (e := 9) (umE_9 h5f h8f (by omega)) (by decide)]) | (refine fpure ?_; refine ⟨?_, rfl⟩; rw [ferr_hit (u := i) (by omega) hf (e := 2) ((umE_d h5f h8f h9f).trans (ferr_hit (u := k) (by omega) hk (dyE_2 (by assumption)) (by decide))) (by decide)]) | (refine fpure ?_; refine ⟨?_, rfl⟩; rw [ferr_hit (u := i) (by omega) hf (e := 8) ((umE_d h5f h8f h9f).trans (ferr_hit (u := k) (by omega) hk (dyE_8 (by assumption) ⟨by omega, by omega⟩) (by decide))) (by decide)]) | (refine fpure ?_; refine ⟨?_, rfl⟩; rw [← show i = us.length by omega, hf])

abbrev lc_check_ok (a b c d e f : AV) : Env := [(0,a),(1,b),(4,c),(5,d),(13,e),(17,f)]
theorem check_ok (lim : Nat) (H : Heap) (l : List Du) (us : List Um) (hl : l.length ≤ 1000000) (hu : us.length ≤ 1000000) (hs : ∀ u, (gt l u).ho.size ≤ 9223372036854775807 ∧ (gt l u).aw.size ≤ 9223372036854775807) (hs2 : ∀ u, (gt us u).nm.size ≤ 9223372036854775807 ∧ (gt us u).tm.size ≤ 9223372036854775807) : ACall sig lim 9 [dusAV l, umsAV us] H fun r H' => r = AV.i (ckS l us) ∧ H' = H := by
 refine ACall_pure (fa := fa9) rfl rfl rfl rfl ?_
 have tr : ∀ a0 a1 : AV, env0 fa9.keep [a0, a1] = [(0,a0),(1,a1),(4,.any),(5,.any),(13,.any),(17,.any)] := fun a0 a1 => rfl
 refine W_to (tr _ _) ?_; clear tr
 refine at_seq rfl ?_
 refine rg rfl ?_
 refine Rq ?_
 have tr : ∀ a b c d e f g : AV, let l := lc_check_ok a b c d e f; trim ((4,g)::l) l = [(0,a),(1,b),(4,g),(5,d),(13,e),(17,f)] := by intros; rfl
 refine R_nil (tr ..) ?_; clear tr
 refine then_n ?_
 refine at_seq rfl ?_
 refine at_seq rfl ?_
 refine rg rfl ?_
 refine Rq ?_
 refine Rq ?_
 refine Rq ?_
 refine Rq ?_
 refine Rp_split (fun h1 => ?_) (fun h1 => ?_)
 ·
  try simp only [decide_eq_true_eq, decide_eq_false_iff_not, Bool.not_eq_true', Bool.not_eq_false', beq_iff_eq, beq_eq_false_iff_ne, ne_eq] at h1
  refine Rn ?_
  refine Rn ?_
  refine Rn ?_
  refine Rq ?_
  have tr : ∀ a b c d e f g h i j k m n o : AV, let l := lc_check_ok a b c d e f; trim ((13,o)::(12,n)::(11,m)::(10,k)::(9,j)::(8,i)::(7,h)::(6,g)::l) l = [(0,a),(1,b),(4,c),(5,d),(13,o),(17,f)] := by intros; rfl
  refine R_nil (tr ..) ?_; clear tr
  refine then_n ?_
  refine cdt ?_
  refine at_seq rfl ?_
  refine rg rfl ?_
  refine Rq ?_
  have tr : ∀ a b c d e f g : AV, let l := lc_check_ok a b c d e f; trim ((4,g)::l) l = [(0,a),(1,b),(4,g),(5,d),(13,e),(17,f)] := by intros; rfl
  refine R_nil (tr ..) ?_; clear tr
  refine then_n ?_
  refine at_ret rfl ?_
  refine then_r ?_
  first | (refine fpure ?_; refine ⟨?_, rfl⟩; rw [ckS, if_pos (by omega)]) | (refine fpure ?_; refine ⟨?_, rfl⟩; rw [ckS, if_neg (by omega), if_pos (by assumption)]) | (refine fpure ?_; refine ⟨?_, rfl⟩; rw [ckS, if_neg (by omega), if_neg (by omega)])
 ·
  try simp only [decide_eq_true_eq, decide_eq_false_iff_not, Bool.not_eq_true', Bool.not_eq_false', beq_iff_eq, beq_eq_false_iff_ne, ne_eq] at h1
  refine Ry ?_
  refine Rq ?_
  refine Ry ?_
  refine Rq ?_
  refine Ry ?_
  refine Rq ?_
  refine Rq ?_
  have tr : ∀ a b c d e f g h i j k m n o : AV, let l := lc_check_ok a b c d e f; trim ((13,o)::(12,n)::(11,m)::(10,k)::(9,j)::(8,i)::(7,h)::(6,g)::l) l = [(0,a),(1,b),(4,c),(5,d),(13,o),(17,f)] := by intros; rfl
  refine R_nil (tr ..) ?_; clear tr
  refine then_n ?_
  refine cdd (fun h2 => ?_) (fun h2 => ?_)
  ·
   try simp only [decide_eq_true_eq, decide_eq_false_iff_not, Bool.not_eq_true', Bool.not_eq_false', beq_iff_eq, beq_eq_false_iff_ne, ne_eq] at h2
   refine at_seq rfl ?_
   refine rg rfl ?_
   refine Rq ?_
   have tr : ∀ a b c d e f g : AV, let l := lc_check_ok a b c d e f; trim ((4,g)::l) l = [(0,a),(1,b),(4,g),(5,d),(13,e),(17,f)] := by intros; rfl
   refine R_nil (tr ..) ?_; clear tr
   refine then_n ?_
   refine at_ret rfl ?_
   refine then_r ?_
   first | (refine fpure ?_; refine ⟨?_, rfl⟩; rw [ckS, if_pos (by omega)]) | (refine fpure ?_; refine ⟨?_, rfl⟩; rw [ckS, if_neg (by omega), if_pos (by assumption)]) | (refine fpure ?_; refine ⟨?_, rfl⟩; rw [ckS, if_neg (by omega), if_neg (by omega)])
  ·
   try simp only [decide_eq_true_eq, decide_eq_false_iff_not, Bool.not_eq_true', Bool.not_eq_false', beq_iff_eq, beq_eq_false_iff_ne, ne_eq] at h2
   refine at_skip rfl ?_
   refine then_n ?_
   refine at_seq rfl ?_
   refine at_seq rfl ?_
   refine rg rfl ?_
   refine Rq ?_
   refine Rcall ?_
   refine ACall_eq (duties_ok _ _ l hl hs) ?_
   refine Rq ?_
   have tr : ∀ a b c d e f g h i : AV, let l := lc_check_ok a b c d e f; trim ((5,i)::(15,h)::(14,g)::l) l = [(0,a),(1,b),(4,c),(5,i),(13,e),(17,f)] := by intros; rfl
   refine R_nil (tr ..) ?_; clear tr
   refine then_n ?_
   refine at_seq rfl ?_
   refine rg rfl ?_
   refine Rq ?_
   refine Rq ?_
   have tr : ∀ a b c d e f g h : AV, let l := lc_check_ok a b c d e f; trim ((17,h)::(16,g)::l) l = [(0,a),(1,b),(4,c),(5,d),(13,e),(17,h)] := by intros; rfl
   refine R_nil (tr ..) ?_; clear tr
   refine then_n ?_
   refine cdd (fun h3 => ?_) (fun h3 => ?_)
   ·
    try simp only [decide_eq_true_eq, decide_eq_false_iff_not, Bool.not_eq_true', Bool.not_eq_false', beq_iff_eq, beq_eq_false_iff_ne, ne_eq] at h3
    refine at_seq rfl ?_
    refine rg rfl ?_
    refine Rq ?_
    refine Rq ?_
    have tr : ∀ a b c d e f g h : AV, let l := lc_check_ok a b c d e f; trim ((4,h)::(18,g)::l) l = [(0,a),(1,b),(4,h),(5,d),(13,e),(17,f)] := by intros; rfl
    refine R_nil (tr ..) ?_; clear tr
    refine then_n ?_
    refine at_ret rfl ?_
    refine then_r ?_
    first | (refine fpure ?_; refine ⟨?_, rfl⟩; rw [ckS, if_pos (by omega)]) | (refine fpure ?_; refine ⟨?_, rfl⟩; rw [ckS, if_neg (by omega), if_pos (by assumption)]) | (refine fpure ?_; refine ⟨?_, rfl⟩; rw [ckS, if_neg (by omega), if_neg (by omega)])
   ·
    try simp only [decide_eq_true_eq, decide_eq_false_iff_not, Bool.not_eq_true', Bool.not_eq_false', beq_iff_eq, beq_eq_false_iff_ne, ne_eq] at h3
    refine at_skip rfl ?_
    refine then_n ?_
    refine at_seq rfl ?_
    refine rg rfl ?_
    refine Rq ?_
    refine Rcall ?_
    refine ACall_eq (umpires_ok _ _ us hu hs2) ?_
    refine Rq ?_
    have tr : ∀ a b c d e f g h i : AV, let l := lc_check_ok a b c d e f; trim ((4,i)::(20,h)::(19,g)::l) l = [(0,a),(1,b),(4,i),(5,d),(13,e),(17,f)] := by intros; rfl
    refine R_nil (tr ..) ?_; clear tr
    refine then_n ?_
    refine at_ret rfl ?_
    first | (refine fpure ?_; refine ⟨?_, rfl⟩; rw [ckS, if_pos (by omega)]) | (refine fpure ?_; refine ⟨?_, rfl⟩; rw [ckS, if_neg (by omega), if_pos (by assumption)]) | (refine fpure ?_; refine ⟨?_, rfl⟩; rw [ckS, if_neg (by omega), if_neg (by omega)])

end Go.Proofs.Ytcnleglfdnhagaa
