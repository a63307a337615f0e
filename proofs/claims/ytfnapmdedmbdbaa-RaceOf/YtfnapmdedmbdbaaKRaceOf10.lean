/-
  Texts of RaceOf, part 11 of 16. Walks of chapter 51. The steps are written by program (walk.py).
-/
import Derived.Test.YtfnapmdedmbdbaaKRaceOf7
import Derived.Test.YtfnapmdedmbdbaaKRaceOf9
section
set_option linter.unusedSimpArgs false
set_option linter.unusedVariables false
set_option maxHeartbeats 4000000
set_option maxRecDepth 20000
namespace Go.Proofs.Ytfnapmdedmbdbaa
open Go Go.Am
abbrev lc_check_ok (a b c d e f g h i j k m n o : AV) : Env := [(0,a),(1,b),(4,c),(6,d),(7,e),(14,f),(18,g),(19,h),(20,i),(21,j),(24,k),(46,m),(69,n),(74,o)]
theorem check_ok (lim : Nat) (H : Heap) (n : Int) (hn : -9223372036854775808 ≤ n ∧ n ≤ 9223372036854775807) (l : List Pl) : ACall sig lim 24 [AV.i n, plsAV l] H fun r H' => r = AV.i (chS n l) ∧ H' = H := by
 refine ACall_pure (fa := fa24) rfl rfl rfl rfl ?_
 have tr : ∀ a0 a1 : AV, env0 fa24.keep [a0, a1] = [(0,a0),(1,a1),(4,.any),(6,.any),(7,.any),(14,.any),(18,.any),(19,.any),(20,.any),(21,.any),(24,.any),(46,.any),(69,.any),(74,.any)] := fun a0 a1 => rfl
 refine W_to (tr _ _) ?_; clear tr
 refine at_seq rfl ?_
 refine rg rfl ?_
 refine Rq ?_
 have tr : ∀ a b c d e f g h i j k m n o p : AV, let l := lc_check_ok a b c d e f g h i j k m n o; trim ((4,p)::l) l = [(0,a),(1,b),(4,p),(6,d),(7,e),(14,f),(18,g),(19,h),(20,i),(21,j),(24,k),(46,m),(69,n),(74,o)] := by intros; rfl
 refine R_nil (tr ..) ?_; clear tr
 refine then_n ?_
 refine at_seq rfl ?_
 refine at_block rfl ?_
 refine at_seq rfl ?_
 refine rg rfl ?_
 refine Rq ?_
 refine Rq ?_
 refine Rq ?_
 refine Rp_split (fun h1 => ?_) (fun h1 => ?_)
 ·
  try simp only [decide_eq_true_eq, decide_eq_false_iff_not, decide_eq_decide, Bool.not_eq_true', Bool.not_eq_false', beq_iff_eq, beq_eq_false_iff_ne, ne_eq, Bool.and_eq_true, Bool.and_eq_false_iff, decide_not] at h1
  refine Rn ?_
  refine Rn ?_
  refine Rq ?_
  refine Rq ?_
  have tr : ∀ a b c d e f g h i j k m n o p q r s t u v : AV, let l := lc_check_ok a b c d e f g h i j k m n o; trim ((7,v)::(13,u)::(12,t)::(11,s)::(10,r)::(9,q)::(8,p)::l) l = [(0,a),(1,b),(4,c),(6,d),(7,v),(14,f),(18,g),(19,h),(20,i),(21,j),(24,k),(46,m),(69,n),(74,o)] := by intros; rfl
  refine R_nil (tr ..) ?_; clear tr
  refine then_n ?_
  refine cdt ?_
  refine at_seq rfl ?_
  refine rg rfl ?_
  refine Rq ?_
  have tr : ∀ a b c d e f g h i j k m n o p : AV, let l := lc_check_ok a b c d e f g h i j k m n o; trim ((4,p)::l) l = [(0,a),(1,b),(4,p),(6,d),(7,e),(14,f),(18,g),(19,h),(20,i),(21,j),(24,k),(46,m),(69,n),(74,o)] := by intros; rfl
  refine R_nil (tr ..) ?_; clear tr
  refine then_n ?_
  refine at_ret rfl ?_
  refine blk_r ?_
  refine then_r ?_
  first | (refine fpure ?_; refine ⟨?_, rfl⟩; rw [chS_a (by omega)]; done) | (refine fpure ?_; refine ⟨?_, rfl⟩; rw [chS_b (by omega) (by omega)]; done) | (refine fpure ?_; refine ⟨?_, rfl⟩; rw [chS_c (u := i) (by omega) (by omega) (by omega) hf (e := 1) (plE_1 (by omega)) (by decide)]; done) | (refine fpure ?_; refine ⟨?_, rfl⟩; rw [chS_c (u := i) (by omega) (by omega) (by omega) hf (e := 2) (plE_2 (by omega) (by omega)) (by decide)]; done) | (refine fpure ?_; refine ⟨?_, rfl⟩; rw [chS_c (u := i) (by omega) (by omega) (by omega) hf (e := 3) (plE_3 (by omega) (by omega) (by omega)) (by decide)]; done) | (refine fpure ?_; refine ⟨?_, rfl⟩; rw [chS_c (u := i) (by omega) (by omega) (by omega) hf (e := 11) (plE_4 (by omega) (by omega) (by omega) ⟨by assumption, by omega⟩) (by decide)]; done) | (refine fpure ?_; refine ⟨?_, rfl⟩; rw [chS_d (by omega) (by omega) (by rw [← show i = l.length by omega]; exact hf)]; done)
 ·
  try simp only [decide_eq_true_eq, decide_eq_false_iff_not, decide_eq_decide, Bool.not_eq_true', Bool.not_eq_false', beq_iff_eq, beq_eq_false_iff_ne, ne_eq, Bool.and_eq_true, Bool.and_eq_false_iff, decide_not] at h1
  refine Ry ?_
  refine Rq ?_
  refine Ry ?_
  refine Rq ?_
  refine Rq ?_
  refine Rq ?_
  have tr : ∀ a b c d e f g h i j k m n o p q r s t u v : AV, let l := lc_check_ok a b c d e f g h i j k m n o; trim ((7,v)::(13,u)::(12,t)::(11,s)::(10,r)::(9,q)::(8,p)::l) l = [(0,a),(1,b),(4,c),(6,d),(7,v),(14,f),(18,g),(19,h),(20,i),(21,j),(24,k),(46,m),(69,n),(74,o)] := by intros; rfl
  refine R_nil (tr ..) ?_; clear tr
  refine then_n ?_
  refine cdd (fun h2 => ?_) (fun h2 => ?_)
  ·
   try simp only [decide_eq_true_eq, decide_eq_false_iff_not, decide_eq_decide, Bool.not_eq_true', Bool.not_eq_false', beq_iff_eq, beq_eq_false_iff_ne, ne_eq, Bool.and_eq_true, Bool.and_eq_false_iff, decide_not] at h2
   refine at_seq rfl ?_
   refine rg rfl ?_
   refine Rq ?_
   have tr : ∀ a b c d e f g h i j k m n o p : AV, let l := lc_check_ok a b c d e f g h i j k m n o; trim ((4,p)::l) l = [(0,a),(1,b),(4,p),(6,d),(7,e),(14,f),(18,g),(19,h),(20,i),(21,j),(24,k),(46,m),(69,n),(74,o)] := by intros; rfl
   refine R_nil (tr ..) ?_; clear tr
   refine then_n ?_
   refine at_ret rfl ?_
   refine blk_r ?_
   refine then_r ?_
   first | (refine fpure ?_; refine ⟨?_, rfl⟩; rw [chS_a (by omega)]; done) | (refine fpure ?_; refine ⟨?_, rfl⟩; rw [chS_b (by omega) (by omega)]; done) | (refine fpure ?_; refine ⟨?_, rfl⟩; rw [chS_c (u := i) (by omega) (by omega) (by omega) hf (e := 1) (plE_1 (by omega)) (by decide)]; done) | (refine fpure ?_; refine ⟨?_, rfl⟩; rw [chS_c (u := i) (by omega) (by omega) (by omega) hf (e := 2) (plE_2 (by omega) (by omega)) (by decide)]; done) | (refine fpure ?_; refine ⟨?_, rfl⟩; rw [chS_c (u := i) (by omega) (by omega) (by omega) hf (e := 3) (plE_3 (by omega) (by omega) (by omega)) (by decide)]; done) | (refine fpure ?_; refine ⟨?_, rfl⟩; rw [chS_c (u := i) (by omega) (by omega) (by omega) hf (e := 11) (plE_4 (by omega) (by omega) (by omega) ⟨by assumption, by omega⟩) (by decide)]; done) | (refine fpure ?_; refine ⟨?_, rfl⟩; rw [chS_d (by omega) (by omega) (by rw [← show i = l.length by omega]; exact hf)]; done)
  ·
   try simp only [decide_eq_true_eq, decide_eq_false_iff_not, decide_eq_decide, Bool.not_eq_true', Bool.not_eq_false', beq_iff_eq, beq_eq_false_iff_ne, ne_eq, Bool.and_eq_true, Bool.and_eq_false_iff, decide_not] at h2
   refine at_seq rfl ?_
   refine rg rfl ?_
   refine Rq ?_
   refine Rq ?_
   refine Rq ?_
   refine Rq ?_
   have tr : ∀ a b c d e f g h i j k m n o p q r s : AV, let l := lc_check_ok a b c d e f g h i j k m n o; trim ((14,s)::(17,r)::(16,q)::(15,p)::l) l = [(0,a),(1,b),(4,c),(6,d),(7,e),(14,s),(18,g),(19,h),(20,i),(21,j),(24,k),(46,m),(69,n),(74,o)] := by intros; rfl
   refine R_nil (tr ..) ?_; clear tr
   refine then_n ?_
   refine cdd (fun h3 => ?_) (fun h3 => ?_)
   ·
    try simp only [decide_eq_true_eq, decide_eq_false_iff_not, decide_eq_decide, Bool.not_eq_true', Bool.not_eq_false', beq_iff_eq, beq_eq_false_iff_ne, ne_eq, Bool.and_eq_true, Bool.and_eq_false_iff, decide_not] at h3
    refine at_seq rfl ?_
    refine rg rfl ?_
    refine Rq ?_
    have tr : ∀ a b c d e f g h i j k m n o p : AV, let l := lc_check_ok a b c d e f g h i j k m n o; trim ((4,p)::l) l = [(0,a),(1,b),(4,p),(6,d),(7,e),(14,f),(18,g),(19,h),(20,i),(21,j),(24,k),(46,m),(69,n),(74,o)] := by intros; rfl
    refine R_nil (tr ..) ?_; clear tr
    refine then_n ?_
    refine at_ret rfl ?_
    refine blk_r ?_
    refine then_r ?_
    first | (refine fpure ?_; refine ⟨?_, rfl⟩; rw [chS_a (by omega)]; done) | (refine fpure ?_; refine ⟨?_, rfl⟩; rw [chS_b (by omega) (by omega)]; done) | (refine fpure ?_; refine ⟨?_, rfl⟩; rw [chS_c (u := i) (by omega) (by omega) (by omega) hf (e := 1) (plE_1 (by omega)) (by decide)]; done) | (refine fpure ?_; refine ⟨?_, rfl⟩; rw [chS_c (u := i) (by omega) (by omega) (by omega) hf (e := 2) (plE_2 (by omega) (by omega)) (by decide)]; done) | (refine fpure ?_; refine ⟨?_, rfl⟩; rw [chS_c (u := i) (by omega) (by omega) (by omega) hf (e := 3) (plE_3 (by omega) (by omega) (by omega)) (by decide)]; done) | (refine fpure ?_; refine ⟨?_, rfl⟩; rw [chS_c (u := i) (by omega) (by omega) (by omega) hf (e := 11) (plE_4 (by omega) (by omega) (by omega) ⟨by assumption, by omega⟩) (by decide)]; done) | (refine fpure ?_; refine ⟨?_, rfl⟩; rw [chS_d (by omega) (by omega) (by rw [← show i = l.length by omega]; exact hf)]; done)
   ·
    try simp only [decide_eq_true_eq, decide_eq_false_iff_not, decide_eq_decide, Bool.not_eq_true', Bool.not_eq_false', beq_iff_eq, beq_eq_false_iff_ne, ne_eq, Bool.and_eq_true, Bool.and_eq_false_iff, decide_not] at h3
    refine at_skip rfl ?_
    refine blk_n ?_
    refine then_n ?_
    refine at_seq rfl ?_
    refine at_seq rfl ?_
    refine rg rfl ?_
    refine Rq ?_
    refine Rq ?_
    refine Rq ?_
    have tr : ∀ a b c d e f g h i j k m n o p q r : AV, let l := lc_check_ok a b c d e f g h i j k m n o; trim ((20,r)::(19,q)::(18,p)::l) l = [(0,a),(1,b),(4,c),(6,d),(7,e),(14,f),(18,p),(19,q),(20,r),(21,j),(24,k),(46,m),(69,n),(74,o)] := by intros; rfl
    refine R_nil (tr ..) ?_; clear tr
    refine then_n ?_
    refine at_block rfl ?_
    refine loop_n rfl (fun mm kv H' => ∃ i : Nat, ∃ X : Heap, ∃ x4 x6 x21 x24 x46 x69 x74 : AV, (kv = [(4, x4), (6, x6), (20, AV.i (i : Int)), (21, x21), (24, x24), (46, x46), (69, x69), (74, x74)]) ∧ (mm = l.length - i) ∧ (H' = H ++ X) ∧ (i ≤ l.length) ∧ (ferr (fun i => plE n (gp l i)) i = 0)) ⟨0, [], _, _, _, _, _, _, _, rfl, rfl, by simp, by omega, by rfl⟩ (by rfl) ?_
    rintro mm kv HO ⟨i, X, x4, x6, x21, x24, x46, x69, x74, rfl, rfl, hX, hi, hf⟩
    have tr : ∀ a b c d e f g h i j k m n o p q r s t u v w : AV, upd [(0,a),(1,b),(4,c),(6,d),(7,e),(14,f),(18,g),(19,h),(20,i),(21,j),(24,k),(46,m),(69,n),(74,o)] [(4,p),(6,q),(20,r),(21,s),(24,t),(46,u),(69,v),(74,w)] = [(0,a),(1,b),(4,p),(6,q),(7,e),(14,f),(18,g),(19,h),(20,r),(21,s),(24,t),(46,u),(69,v),(74,w)] := by intros; rfl
    refine W_to (tr ..) ?_; clear tr
    subst hX
    refine at_seq rfl ?_
    refine rg rfl ?_
    refine Rq ?_
    have tr : ∀ a b c d e f g h i j k m n o p : AV, let l := lc_check_ok a b c d e f g h i j k m n o; trim ((21,p)::l) l = [(0,a),(1,b),(4,c),(6,d),(7,e),(14,f),(18,g),(19,h),(20,i),(21,p),(24,k),(46,m),(69,n),(74,o)] := by intros; rfl
    refine R_nil (tr ..) ?_; clear tr
    refine then_n ?_
    refine at_seq rfl ?_
    refine cdd (fun h4 => ?_) (fun h4 => ?_)
    ·
     try simp only [decide_eq_true_eq, decide_eq_false_iff_not, decide_eq_decide, Bool.not_eq_true', Bool.not_eq_false', beq_iff_eq, beq_eq_false_iff_ne, ne_eq, Bool.and_eq_true, Bool.and_eq_false_iff, decide_not] at h4
     refine at_skip rfl ?_
     refine then_n ?_
     refine at_seq rfl ?_
     refine at_block rfl ?_
     refine at_seq rfl ?_
     refine rg rfl ?_
     refine Rq ?_
     refine Rq ?_
     refine R_alloc (by simp (disch := first | omega | (simp only [List.length_map, List.length_append, List.length_set, List.length_cons, List.length_nil]; omega)) only [go_sem, ↓reduceIte, Nat.reduceEqDiff, reduceCtorEq] <;> rfl) rfl (by simp only [List.map_cons, List.map_nil]; rfl) ?_
     refine R_store ty67 (by simp (disch := first | omega | (simp only [List.length_map, List.length_append, List.length_set, List.length_cons, List.length_nil]; omega)) only [go_sem, ↓reduceIte, Nat.reduceEqDiff, reduceCtorEq] <;> rfl) (by simp (disch := first | omega | (simp only [List.length_map, List.length_append, List.length_set, List.length_cons, List.length_nil]; omega)) only [go_sem, ↓reduceIte, Nat.reduceEqDiff, reduceCtorEq] <;> rfl) (by simp (disch := first | omega | (simp only [List.length_map, List.length_append, List.length_set, List.length_cons, List.length_nil]; omega)) only [go_sem, ↓reduceIte, Nat.reduceEqDiff, reduceCtorEq] <;> rfl) (by simp) (by rfl) (by simp (disch := first | omega | (simp only [List.length_map, List.length_append, List.length_set, List.length_cons, List.length_nil]; omega)) only [go_sem, ↓reduceIte, Nat.reduceEqDiff, reduceCtorEq] <;> rfl) ?_
     have tr : ∀ a b c d e f g h i j k m n o p q r : AV, let l := lc_check_ok a b c d e f g h i j k m n o; trim ((6,r)::(23,q)::(22,p)::l) l = [(0,a),(1,b),(4,c),(6,r),(7,e),(14,f),(18,g),(19,h),(20,i),(21,j),(24,k),(46,m),(69,n),(74,o)] := by intros; rfl
     refine R_nil (tr ..) ?_; clear tr
     refine then_n ?_
     refine at_block rfl ?_
     refine at_seq rfl ?_
     refine rg rfl ?_
     refine Rq ?_
     refine Rq ?_
     refine Rq ?_
     refine Rq ?_
     refine Rcall ?_
     refine ACall_eq (within_ok _ _ _ _) ?_
     refine Rq ?_
     refine Rq ?_
     refine Rp_split (fun h5 => ?_) (fun h5 => ?_)
     ·
      try simp only [decide_eq_true_eq, decide_eq_false_iff_not, decide_eq_decide, Bool.not_eq_true', Bool.not_eq_false', beq_iff_eq, beq_eq_false_iff_ne, ne_eq, Bool.and_eq_true, Bool.and_eq_false_iff, decide_not] at h5
      refine Rn ?_
      refine Rn ?_
      refine Rn ?_
      refine Rn ?_
      refine Rn ?_
      refine Rn ?_
      refine Rq ?_
      refine Rq ?_
      refine Rn ?_
      refine Rn ?_
      refine Rn ?_
      refine Rn ?_
      refine Rn ?_
      refine Rq ?_
      refine Rq ?_
      have tr : ∀ a b c d e f g h i j k m n o p q r s t u v w x y z A B C D E F G H I J K : AV, let l := lc_check_ok a b c d e f g h i j k m n o; trim ((24,K)::(45,J)::(44,I)::(43,H)::(42,G)::(41,F)::(40,E)::(39,D)::(38,C)::(37,B)::(36,A)::(35,z)::(34,y)::(33,x)::(32,w)::(31,v)::(30,u)::(29,t)::(28,s)::(27,r)::(26,q)::(25,p)::l) l = [(0,a),(1,b),(4,c),(6,d),(7,e),(14,f),(18,g),(19,h),(20,i),(21,j),(24,K),(46,m),(69,n),(74,o)] := by intros; rfl
      refine R_nil (tr ..) ?_; clear tr
      refine then_n ?_
      refine cdt ?_
      refine at_seq rfl ?_
      refine rg rfl ?_
      refine Rq ?_
      have tr : ∀ a b c d e f g h i j k m n o p : AV, let l := lc_check_ok a b c d e f g h i j k m n o; trim ((4,p)::l) l = [(0,a),(1,b),(4,p),(6,d),(7,e),(14,f),(18,g),(19,h),(20,i),(21,j),(24,k),(46,m),(69,n),(74,o)] := by intros; rfl
      refine R_nil (tr ..) ?_; clear tr
      refine then_n ?_
      refine at_ret rfl ?_
      refine blk_r ?_
      refine blk_r ?_
      refine then_r ?_
      refine then_r ?_
      refine blk_r ?_
      refine then_r ?_
      first | (refine fpure ?_; refine ⟨?_, rfl⟩; rw [chS_a (by omega)]; done) | (refine fpure ?_; refine ⟨?_, rfl⟩; rw [chS_b (by omega) (by omega)]; done) | (refine fpure ?_; refine ⟨?_, rfl⟩; rw [chS_c (u := i) (by omega) (by omega) (by omega) hf (e := 1) (plE_1 (by omega)) (by decide)]; done) | (refine fpure ?_; refine ⟨?_, rfl⟩; rw [chS_c (u := i) (by omega) (by omega) (by omega) hf (e := 2) (plE_2 (by omega) (by omega)) (by decide)]; done) | (refine fpure ?_; refine ⟨?_, rfl⟩; rw [chS_c (u := i) (by omega) (by omega) (by omega) hf (e := 3) (plE_3 (by omega) (by omega) (by omega)) (by decide)]; done) | (refine fpure ?_; refine ⟨?_, rfl⟩; rw [chS_c (u := i) (by omega) (by omega) (by omega) hf (e := 11) (plE_4 (by omega) (by omega) (by omega) ⟨by assumption, by omega⟩) (by decide)]; done) | (refine fpure ?_; refine ⟨?_, rfl⟩; rw [chS_d (by omega) (by omega) (by rw [← show i = l.length by omega]; exact hf)]; done)
     ·
      try simp only [decide_eq_true_eq, decide_eq_false_iff_not, decide_eq_decide, Bool.not_eq_true', Bool.not_eq_false', beq_iff_eq, beq_eq_false_iff_ne, ne_eq, Bool.and_eq_true, Bool.and_eq_false_iff, decide_not] at h5
      refine Ry ?_
      refine Rq ?_
      refine Ry ?_
      refine Rq ?_
      refine Ry ?_
      refine Rq ?_
      refine Ry ?_
      refine Rq ?_
      refine Ry ?_
      refine Rcall ?_
      refine ACall_eq (within_ok _ _ _ _) ?_
      refine Ry ?_
      refine Rq ?_
      refine Rq ?_
      refine Rq ?_
      refine Rp_split (fun h6 => ?_) (fun h6 => ?_)
      ·
       try simp only [decide_eq_true_eq, decide_eq_false_iff_not, decide_eq_decide, Bool.not_eq_true', Bool.not_eq_false', beq_iff_eq, beq_eq_false_iff_ne, ne_eq, Bool.and_eq_true, Bool.and_eq_false_iff, decide_not] at h6
       refine Rn ?_
       refine Rn ?_
       refine Rn ?_
       refine Rn ?_
       refine Rn ?_
       refine Rq ?_
       refine Rq ?_
       have tr : ∀ a b c d e f g h i j k m n o p q r s t u v w x y z A B C D E F G H I J K : AV, let l := lc_check_ok a b c d e f g h i j k m n o; trim ((24,K)::(45,J)::(44,I)::(43,H)::(42,G)::(41,F)::(40,E)::(39,D)::(38,C)::(37,B)::(36,A)::(35,z)::(34,y)::(33,x)::(32,w)::(31,v)::(30,u)::(29,t)::(28,s)::(27,r)::(26,q)::(25,p)::l) l = [(0,a),(1,b),(4,c),(6,d),(7,e),(14,f),(18,g),(19,h),(20,i),(21,j),(24,K),(46,m),(69,n),(74,o)] := by intros; rfl
       refine R_nil (tr ..) ?_; clear tr
       refine then_n ?_
       refine cdt ?_
       refine at_seq rfl ?_
       refine rg rfl ?_
       refine Rq ?_
       have tr : ∀ a b c d e f g h i j k m n o p : AV, let l := lc_check_ok a b c d e f g h i j k m n o; trim ((4,p)::l) l = [(0,a),(1,b),(4,p),(6,d),(7,e),(14,f),(18,g),(19,h),(20,i),(21,j),(24,k),(46,m),(69,n),(74,o)] := by intros; rfl
       refine R_nil (tr ..) ?_; clear tr
       refine then_n ?_
       refine at_ret rfl ?_
       refine blk_r ?_
       refine blk_r ?_
       refine then_r ?_
       refine then_r ?_
       refine blk_r ?_
       refine then_r ?_
       first | (refine fpure ?_; refine ⟨?_, rfl⟩; rw [chS_a (by omega)]; done) | (refine fpure ?_; refine ⟨?_, rfl⟩; rw [chS_b (by omega) (by omega)]; done) | (refine fpure ?_; refine ⟨?_, rfl⟩; rw [chS_c (u := i) (by omega) (by omega) (by omega) hf (e := 1) (plE_1 (by omega)) (by decide)]; done) | (refine fpure ?_; refine ⟨?_, rfl⟩; rw [chS_c (u := i) (by omega) (by omega) (by omega) hf (e := 2) (plE_2 (by omega) (by omega)) (by decide)]; done) | (refine fpure ?_; refine ⟨?_, rfl⟩; rw [chS_c (u := i) (by omega) (by omega) (by omega) hf (e := 3) (plE_3 (by omega) (by omega) (by omega)) (by decide)]; done) | (refine fpure ?_; refine ⟨?_, rfl⟩; rw [chS_c (u := i) (by omega) (by omega) (by omega) hf (e := 11) (plE_4 (by omega) (by omega) (by omega) ⟨by assumption, by omega⟩) (by decide)]; done) | (refine fpure ?_; refine ⟨?_, rfl⟩; rw [chS_d (by omega) (by omega) (by rw [← show i = l.length by omega]; exact hf)]; done)
      ·
       try simp only [decide_eq_true_eq, decide_eq_false_iff_not, decide_eq_decide, Bool.not_eq_true', Bool.not_eq_false', beq_iff_eq, beq_eq_false_iff_ne, ne_eq, Bool.and_eq_true, Bool.and_eq_false_iff, decide_not] at h6
       refine Ry ?_
       refine Rq ?_
       refine Ry ?_
       refine Rq ?_
       refine Ry ?_
       refine Rq ?_
       refine Ry ?_
       refine Rq ?_
       refine Ry ?_
       refine Rq ?_
       refine Rq ?_
       refine Rq ?_
       have tr : ∀ a b c d e f g h i j k m n o p q r s t u v w x y z A B C D E F G H I J K : AV, let l := lc_check_ok a b c d e f g h i j k m n o; trim ((24,K)::(45,J)::(44,I)::(43,H)::(42,G)::(41,F)::(40,E)::(39,D)::(38,C)::(37,B)::(36,A)::(35,z)::(34,y)::(33,x)::(32,w)::(31,v)::(30,u)::(29,t)::(28,s)::(27,r)::(26,q)::(25,p)::l) l = [(0,a),(1,b),(4,c),(6,d),(7,e),(14,f),(18,g),(19,h),(20,i),(21,j),(24,K),(46,m),(69,n),(74,o)] := by intros; rfl
       refine R_nil (tr ..) ?_; clear tr
       refine then_n ?_
       refine cdd (fun h7 => ?_) (fun h7 => ?_)
       ·
        try simp only [decide_eq_true_eq, decide_eq_false_iff_not, decide_eq_decide, Bool.not_eq_true', Bool.not_eq_false', beq_iff_eq, beq_eq_false_iff_ne, ne_eq, Bool.and_eq_true, Bool.and_eq_false_iff, decide_not] at h7
        refine at_seq rfl ?_
        refine rg rfl ?_
        refine Rq ?_
        have tr : ∀ a b c d e f g h i j k m n o p : AV, let l := lc_check_ok a b c d e f g h i j k m n o; trim ((4,p)::l) l = [(0,a),(1,b),(4,p),(6,d),(7,e),(14,f),(18,g),(19,h),(20,i),(21,j),(24,k),(46,m),(69,n),(74,o)] := by intros; rfl
        refine R_nil (tr ..) ?_; clear tr
        refine then_n ?_
        refine at_ret rfl ?_
        refine blk_r ?_
        refine blk_r ?_
        refine then_r ?_
        refine then_r ?_
        refine blk_r ?_
        refine then_r ?_
        first | (refine fpure ?_; refine ⟨?_, rfl⟩; rw [chS_a (by omega)]; done) | (refine fpure ?_; refine ⟨?_, rfl⟩; rw [chS_b (by omega) (by omega)]; done) | (refine fpure ?_; refine ⟨?_, rfl⟩; rw [chS_c (u := i) (by omega) (by omega) (by omega) hf (e := 1) (plE_1 (by omega)) (by decide)]; done) | (refine fpure ?_; refine ⟨?_, rfl⟩; rw [chS_c (u := i) (by omega) (by omega) (by omega) hf (e := 2) (plE_2 (by omega) (by omega)) (by decide)]; done) | (refine fpure ?_; refine ⟨?_, rfl⟩; rw [chS_c (u := i) (by omega) (by omega) (by omega) hf (e := 3) (plE_3 (by omega) (by omega) (by omega)) (by decide)]; done) | (refine fpure ?_; refine ⟨?_, rfl⟩; rw [chS_c (u := i) (by omega) (by omega) (by omega) hf (e := 11) (plE_4 (by omega) (by omega) (by omega) ⟨by assumption, by omega⟩) (by decide)]; done) | (refine fpure ?_; refine ⟨?_, rfl⟩; rw [chS_d (by omega) (by omega) (by rw [← show i = l.length by omega]; exact hf)]; done)
       ·
        try simp only [decide_eq_true_eq, decide_eq_false_iff_not, decide_eq_decide, Bool.not_eq_true', Bool.not_eq_false', beq_iff_eq, beq_eq_false_iff_ne, ne_eq, Bool.and_eq_true, Bool.and_eq_false_iff, decide_not] at h7
        refine at_seq rfl ?_
        refine rg rfl ?_
        refine Rq ?_
        refine Rq ?_
        refine Rcall ?_
        refine ACall_eq (within_ok _ _ _ _) ?_
        refine Rq ?_
        refine Rq ?_
        refine Rp_split (fun h8 => ?_) (fun h8 => ?_)
        ·
         try simp only [decide_eq_true_eq, decide_eq_false_iff_not, decide_eq_decide, Bool.not_eq_true', Bool.not_eq_false', beq_iff_eq, beq_eq_false_iff_ne, ne_eq, Bool.and_eq_true, Bool.and_eq_false_iff, decide_not] at h8
         refine Rn ?_
         refine Rn ?_
         refine Rn ?_
         refine Rn ?_
         refine Rq ?_
         refine Rq ?_
         refine Rn ?_
         refine Rn ?_
         refine Rn ?_
         refine Rn ?_
         refine Rq ?_
         refine Rq ?_
         refine Rn ?_
         refine Rn ?_
         refine Rn ?_
         refine Rn ?_
         refine Rq ?_
         refine Rq ?_
         have tr : ∀ a b c d e f g h i j k m n o p q r s t u v w x y z A B C D E F G H I J K L : AV, let l := lc_check_ok a b c d e f g h i j k m n o; trim ((46,L)::(68,K)::(67,J)::(66,I)::(65,H)::(64,G)::(63,F)::(62,E)::(61,D)::(60,C)::(59,B)::(58,A)::(57,z)::(56,y)::(55,x)::(54,w)::(53,v)::(52,u)::(51,t)::(50,s)::(49,r)::(48,q)::(47,p)::l) l = [(0,a),(1,b),(4,c),(6,d),(7,e),(14,f),(18,g),(19,h),(20,i),(21,j),(24,k),(46,L),(69,n),(74,o)] := by intros; rfl
         refine R_nil (tr ..) ?_; clear tr
         refine then_n ?_
         refine cdt ?_
         refine at_seq rfl ?_
         refine rg rfl ?_
         refine Rq ?_
         have tr : ∀ a b c d e f g h i j k m n o p : AV, let l := lc_check_ok a b c d e f g h i j k m n o; trim ((4,p)::l) l = [(0,a),(1,b),(4,p),(6,d),(7,e),(14,f),(18,g),(19,h),(20,i),(21,j),(24,k),(46,m),(69,n),(74,o)] := by intros; rfl
         refine R_nil (tr ..) ?_; clear tr
         refine then_n ?_
         refine at_ret rfl ?_
         refine blk_r ?_
         refine blk_r ?_
         refine then_r ?_
         refine then_r ?_
         refine blk_r ?_
         refine then_r ?_
         first | (refine fpure ?_; refine ⟨?_, rfl⟩; rw [chS_a (by omega)]; done) | (refine fpure ?_; refine ⟨?_, rfl⟩; rw [chS_b (by omega) (by omega)]; done) | (refine fpure ?_; refine ⟨?_, rfl⟩; rw [chS_c (u := i) (by omega) (by omega) (by omega) hf (e := 1) (plE_1 (by omega)) (by decide)]; done) | (refine fpure ?_; refine ⟨?_, rfl⟩; rw [chS_c (u := i) (by omega) (by omega) (by omega) hf (e := 2) (plE_2 (by omega) (by omega)) (by decide)]; done) | (refine fpure ?_; refine ⟨?_, rfl⟩; rw [chS_c (u := i) (by omega) (by omega) (by omega) hf (e := 3) (plE_3 (by omega) (by omega) (by omega)) (by decide)]; done) | (refine fpure ?_; refine ⟨?_, rfl⟩; rw [chS_c (u := i) (by omega) (by omega) (by omega) hf (e := 11) (plE_4 (by omega) (by omega) (by omega) ⟨by assumption, by omega⟩) (by decide)]; done) | (refine fpure ?_; refine ⟨?_, rfl⟩; rw [chS_d (by omega) (by omega) (by rw [← show i = l.length by omega]; exact hf)]; done)
        ·
         try simp only [decide_eq_true_eq, decide_eq_false_iff_not, decide_eq_decide, Bool.not_eq_true', Bool.not_eq_false', beq_iff_eq, beq_eq_false_iff_ne, ne_eq, Bool.and_eq_true, Bool.and_eq_false_iff, decide_not] at h8
         refine Ry ?_
         refine Rq ?_
         refine Ry ?_
         refine Rq ?_
         refine Ry ?_
         refine Rcall ?_
         refine ACall_eq (within_ok _ _ _ _) ?_
         refine Ry ?_
         refine Rq ?_
         refine Rq ?_
         refine Rq ?_
         refine Rp_split (fun h9 => ?_) (fun h9 => ?_)
         ·
          try simp only [decide_eq_true_eq, decide_eq_false_iff_not, decide_eq_decide, Bool.not_eq_true', Bool.not_eq_false', beq_iff_eq, beq_eq_false_iff_ne, ne_eq, Bool.and_eq_true, Bool.and_eq_false_iff, decide_not] at h9
          refine Rn ?_
          refine Rn ?_
          refine Rn ?_
          refine Rn ?_
          refine Rq ?_
          refine Rq ?_
          refine Rn ?_
          refine Rn ?_
          refine Rn ?_
          refine Rn ?_
          refine Rq ?_
          refine Rq ?_
          have tr : ∀ a b c d e f g h i j k m n o p q r s t u v w x y z A B C D E F G H I J K L : AV, let l := lc_check_ok a b c d e f g h i j k m n o; trim ((46,L)::(68,K)::(67,J)::(66,I)::(65,H)::(64,G)::(63,F)::(62,E)::(61,D)::(60,C)::(59,B)::(58,A)::(57,z)::(56,y)::(55,x)::(54,w)::(53,v)::(52,u)::(51,t)::(50,s)::(49,r)::(48,q)::(47,p)::l) l = [(0,a),(1,b),(4,c),(6,d),(7,e),(14,f),(18,g),(19,h),(20,i),(21,j),(24,k),(46,L),(69,n),(74,o)] := by intros; rfl
          refine R_nil (tr ..) ?_; clear tr
          refine then_n ?_
          refine cdt ?_
          refine at_seq rfl ?_
          refine rg rfl ?_
          refine Rq ?_
          have tr : ∀ a b c d e f g h i j k m n o p : AV, let l := lc_check_ok a b c d e f g h i j k m n o; trim ((4,p)::l) l = [(0,a),(1,b),(4,p),(6,d),(7,e),(14,f),(18,g),(19,h),(20,i),(21,j),(24,k),(46,m),(69,n),(74,o)] := by intros; rfl
          refine R_nil (tr ..) ?_; clear tr
          refine then_n ?_
          refine at_ret rfl ?_
          refine blk_r ?_
          refine blk_r ?_
          refine then_r ?_
          refine then_r ?_
          refine blk_r ?_
          refine then_r ?_
          first | (refine fpure ?_; refine ⟨?_, rfl⟩; rw [chS_a (by omega)]; done) | (refine fpure ?_; refine ⟨?_, rfl⟩; rw [chS_b (by omega) (by omega)]; done) | (refine fpure ?_; refine ⟨?_, rfl⟩; rw [chS_c (u := i) (by omega) (by omega) (by omega) hf (e := 1) (plE_1 (by omega)) (by decide)]; done) | (refine fpure ?_; refine ⟨?_, rfl⟩; rw [chS_c (u := i) (by omega) (by omega) (by omega) hf (e := 2) (plE_2 (by omega) (by omega)) (by decide)]; done) | (refine fpure ?_; refine ⟨?_, rfl⟩; rw [chS_c (u := i) (by omega) (by omega) (by omega) hf (e := 3) (plE_3 (by omega) (by omega) (by omega)) (by decide)]; done) | (refine fpure ?_; refine ⟨?_, rfl⟩; rw [chS_c (u := i) (by omega) (by omega) (by omega) hf (e := 11) (plE_4 (by omega) (by omega) (by omega) ⟨by assumption, by omega⟩) (by decide)]; done) | (refine fpure ?_; refine ⟨?_, rfl⟩; rw [chS_d (by omega) (by omega) (by rw [← show i = l.length by omega]; exact hf)]; done)
         ·
          try simp only [decide_eq_true_eq, decide_eq_false_iff_not, decide_eq_decide, Bool.not_eq_true', Bool.not_eq_false', beq_iff_eq, beq_eq_false_iff_ne, ne_eq, Bool.and_eq_true, Bool.and_eq_false_iff, decide_not] at h9
          refine Ry ?_
          refine Rq ?_
          refine Ry ?_
          refine Rq ?_
          refine Ry ?_
          refine Rcall ?_
          refine ACall_eq (within_ok _ _ _ _) ?_
          refine Ry ?_
          refine Rq ?_
          refine Rq ?_
          refine Rq ?_
          refine Rp_split (fun h10 => ?_) (fun h10 => ?_)
          ·
           try simp only [decide_eq_true_eq, decide_eq_false_iff_not, decide_eq_decide, Bool.not_eq_true', Bool.not_eq_false', beq_iff_eq, beq_eq_false_iff_ne, ne_eq, Bool.and_eq_true, Bool.and_eq_false_iff, decide_not] at h10
           refine Rn ?_
           refine Rn ?_
           refine Rn ?_
           refine Rn ?_
           refine Rq ?_
           refine Rq ?_
           have tr : ∀ a b c d e f g h i j k m n o p q r s t u v w x y z A B C D E F G H I J K L : AV, let l := lc_check_ok a b c d e f g h i j k m n o; trim ((46,L)::(68,K)::(67,J)::(66,I)::(65,H)::(64,G)::(63,F)::(62,E)::(61,D)::(60,C)::(59,B)::(58,A)::(57,z)::(56,y)::(55,x)::(54,w)::(53,v)::(52,u)::(51,t)::(50,s)::(49,r)::(48,q)::(47,p)::l) l = [(0,a),(1,b),(4,c),(6,d),(7,e),(14,f),(18,g),(19,h),(20,i),(21,j),(24,k),(46,L),(69,n),(74,o)] := by intros; rfl
           refine R_nil (tr ..) ?_; clear tr
           refine then_n ?_
           refine cdt ?_
           refine at_seq rfl ?_
           refine rg rfl ?_
           refine Rq ?_
           have tr : ∀ a b c d e f g h i j k m n o p : AV, let l := lc_check_ok a b c d e f g h i j k m n o; trim ((4,p)::l) l = [(0,a),(1,b),(4,p),(6,d),(7,e),(14,f),(18,g),(19,h),(20,i),(21,j),(24,k),(46,m),(69,n),(74,o)] := by intros; rfl
           refine R_nil (tr ..) ?_; clear tr
           refine then_n ?_
           refine at_ret rfl ?_
           refine blk_r ?_
           refine blk_r ?_
           refine then_r ?_
           refine then_r ?_
           refine blk_r ?_
           refine then_r ?_
           first | (refine fpure ?_; refine ⟨?_, rfl⟩; rw [chS_a (by omega)]; done) | (refine fpure ?_; refine ⟨?_, rfl⟩; rw [chS_b (by omega) (by omega)]; done) | (refine fpure ?_; refine ⟨?_, rfl⟩; rw [chS_c (u := i) (by omega) (by omega) (by omega) hf (e := 1) (plE_1 (by omega)) (by decide)]; done) | (refine fpure ?_; refine ⟨?_, rfl⟩; rw [chS_c (u := i) (by omega) (by omega) (by omega) hf (e := 2) (plE_2 (by omega) (by omega)) (by decide)]; done) | (refine fpure ?_; refine ⟨?_, rfl⟩; rw [chS_c (u := i) (by omega) (by omega) (by omega) hf (e := 3) (plE_3 (by omega) (by omega) (by omega)) (by decide)]; done) | (refine fpure ?_; refine ⟨?_, rfl⟩; rw [chS_c (u := i) (by omega) (by omega) (by omega) hf (e := 11) (plE_4 (by omega) (by omega) (by omega) ⟨by assumption, by omega⟩) (by decide)]; done) | (refine fpure ?_; refine ⟨?_, rfl⟩; rw [chS_d (by omega) (by omega) (by rw [← show i = l.length by omega]; exact hf)]; done)
          ·
           try simp only [decide_eq_true_eq, decide_eq_false_iff_not, decide_eq_decide, Bool.not_eq_true', Bool.not_eq_false', beq_iff_eq, beq_eq_false_iff_ne, ne_eq, Bool.and_eq_true, Bool.and_eq_false_iff, decide_not] at h10
           refine Ry ?_
           refine Rq ?_
           refine Ry ?_
           refine Rq ?_
           refine Ry ?_
           refine Rcall ?_
           refine ACall_eq (within_ok _ _ _ _) ?_
           refine Ry ?_
           refine Rq ?_
           refine Rq ?_
           refine Rq ?_
           have tr : ∀ a b c d e f g h i j k m n o p q r s t u v w x y z A B C D E F G H I J K L : AV, let l := lc_check_ok a b c d e f g h i j k m n o; trim ((46,L)::(68,K)::(67,J)::(66,I)::(65,H)::(64,G)::(63,F)::(62,E)::(61,D)::(60,C)::(59,B)::(58,A)::(57,z)::(56,y)::(55,x)::(54,w)::(53,v)::(52,u)::(51,t)::(50,s)::(49,r)::(48,q)::(47,p)::l) l = [(0,a),(1,b),(4,c),(6,d),(7,e),(14,f),(18,g),(19,h),(20,i),(21,j),(24,k),(46,L),(69,n),(74,o)] := by intros; rfl
           refine R_nil (tr ..) ?_; clear tr
           refine then_n ?_
           refine cdd (fun h11 => ?_) (fun h11 => ?_)
           ·
            try simp only [decide_eq_true_eq, decide_eq_false_iff_not, decide_eq_decide, Bool.not_eq_true', Bool.not_eq_false', beq_iff_eq, beq_eq_false_iff_ne, ne_eq, Bool.and_eq_true, Bool.and_eq_false_iff, decide_not] at h11
            refine at_seq rfl ?_
            refine rg rfl ?_
            refine Rq ?_
            have tr : ∀ a b c d e f g h i j k m n o p : AV, let l := lc_check_ok a b c d e f g h i j k m n o; trim ((4,p)::l) l = [(0,a),(1,b),(4,p),(6,d),(7,e),(14,f),(18,g),(19,h),(20,i),(21,j),(24,k),(46,m),(69,n),(74,o)] := by intros; rfl
            refine R_nil (tr ..) ?_; clear tr
            refine then_n ?_
            refine at_ret rfl ?_
            refine blk_r ?_
            refine blk_r ?_
            refine then_r ?_
            refine then_r ?_
            refine blk_r ?_
            refine then_r ?_
            first | (refine fpure ?_; refine ⟨?_, rfl⟩; rw [chS_a (by omega)]; done) | (refine fpure ?_; refine ⟨?_, rfl⟩; rw [chS_b (by omega) (by omega)]; done) | (refine fpure ?_; refine ⟨?_, rfl⟩; rw [chS_c (u := i) (by omega) (by omega) (by omega) hf (e := 1) (plE_1 (by omega)) (by decide)]; done) | (refine fpure ?_; refine ⟨?_, rfl⟩; rw [chS_c (u := i) (by omega) (by omega) (by omega) hf (e := 2) (plE_2 (by omega) (by omega)) (by decide)]; done) | (refine fpure ?_; refine ⟨?_, rfl⟩; rw [chS_c (u := i) (by omega) (by omega) (by omega) hf (e := 3) (plE_3 (by omega) (by omega) (by omega)) (by decide)]; done) | (refine fpure ?_; refine ⟨?_, rfl⟩; rw [chS_c (u := i) (by omega) (by omega) (by omega) hf (e := 11) (plE_4 (by omega) (by omega) (by omega) ⟨by assumption, by omega⟩) (by decide)]; done) | (refine fpure ?_; refine ⟨?_, rfl⟩; rw [chS_d (by omega) (by omega) (by rw [← show i = l.length by omega]; exact hf)]; done)
           ·
            try simp only [decide_eq_true_eq, decide_eq_false_iff_not, decide_eq_decide, Bool.not_eq_true', Bool.not_eq_false', beq_iff_eq, beq_eq_false_iff_ne, ne_eq, Bool.and_eq_true, Bool.and_eq_false_iff, decide_not] at h11
            refine at_seq rfl ?_
            refine rg rfl ?_
            refine Rq ?_
            refine Rq ?_
            refine Rcall ?_
            refine ACall_eq (within_ok _ _ _ _) ?_
            refine Rq ?_
            refine Rq ?_
            have tr : ∀ a b c d e f g h i j k m n o p q r s t : AV, let l := lc_check_ok a b c d e f g h i j k m n o; trim ((69,t)::(73,s)::(72,r)::(71,q)::(70,p)::l) l = [(0,a),(1,b),(4,c),(6,d),(7,e),(14,f),(18,g),(19,h),(20,i),(21,j),(24,k),(46,m),(69,t),(74,o)] := by intros; rfl
            refine R_nil (tr ..) ?_; clear tr
            refine then_n ?_
            refine cdd (fun h12 => ?_) (fun h12 => ?_)
            ·
             try simp only [decide_eq_true_eq, decide_eq_false_iff_not, decide_eq_decide, Bool.not_eq_true', Bool.not_eq_false', beq_iff_eq, beq_eq_false_iff_ne, ne_eq, Bool.and_eq_true, Bool.and_eq_false_iff, decide_not] at h12
             refine at_seq rfl ?_
             refine rg rfl ?_
             refine Rq ?_
             have tr : ∀ a b c d e f g h i j k m n o p : AV, let l := lc_check_ok a b c d e f g h i j k m n o; trim ((4,p)::l) l = [(0,a),(1,b),(4,p),(6,d),(7,e),(14,f),(18,g),(19,h),(20,i),(21,j),(24,k),(46,m),(69,n),(74,o)] := by intros; rfl
             refine R_nil (tr ..) ?_; clear tr
             refine then_n ?_
             refine at_ret rfl ?_
             refine blk_r ?_
             refine blk_r ?_
             refine then_r ?_
             refine then_r ?_
             refine blk_r ?_
             refine then_r ?_
             first | (refine fpure ?_; refine ⟨?_, rfl⟩; rw [chS_a (by omega)]; done) | (refine fpure ?_; refine ⟨?_, rfl⟩; rw [chS_b (by omega) (by omega)]; done) | (refine fpure ?_; refine ⟨?_, rfl⟩; rw [chS_c (u := i) (by omega) (by omega) (by omega) hf (e := 1) (plE_1 (by omega)) (by decide)]; done) | (refine fpure ?_; refine ⟨?_, rfl⟩; rw [chS_c (u := i) (by omega) (by omega) (by omega) hf (e := 2) (plE_2 (by omega) (by omega)) (by decide)]; done) | (refine fpure ?_; refine ⟨?_, rfl⟩; rw [chS_c (u := i) (by omega) (by omega) (by omega) hf (e := 3) (plE_3 (by omega) (by omega) (by omega)) (by decide)]; done) | (refine fpure ?_; refine ⟨?_, rfl⟩; rw [chS_c (u := i) (by omega) (by omega) (by omega) hf (e := 11) (plE_4 (by omega) (by omega) (by omega) ⟨by assumption, by omega⟩) (by decide)]; done) | (refine fpure ?_; refine ⟨?_, rfl⟩; rw [chS_d (by omega) (by omega) (by rw [← show i = l.length by omega]; exact hf)]; done)
            ·
             try simp only [decide_eq_true_eq, decide_eq_false_iff_not, decide_eq_decide, Bool.not_eq_true', Bool.not_eq_false', beq_iff_eq, beq_eq_false_iff_ne, ne_eq, Bool.and_eq_true, Bool.and_eq_false_iff, decide_not] at h12
             refine at_seq rfl ?_
             refine rg rfl ?_
             refine Rq ?_
             refine Rq ?_
             refine Rq ?_
             refine Rp_split (fun h13 => ?_) (fun h13 => ?_)
             ·
              try simp only [decide_eq_true_eq, decide_eq_false_iff_not, decide_eq_decide, Bool.not_eq_true', Bool.not_eq_false', beq_iff_eq, beq_eq_false_iff_ne, ne_eq, Bool.and_eq_true, Bool.and_eq_false_iff, decide_not] at h13
              refine Ry ?_
              refine Rq ?_
              refine Ry ?_
              refine Rq ?_
              refine Ry ?_
              refine Rq ?_
              refine Ry ?_
              refine Rq ?_
              refine Rp_split (fun h14 => ?_) (fun h14 => ?_)
              ·
               try simp only [decide_eq_true_eq, decide_eq_false_iff_not, decide_eq_decide, Bool.not_eq_true', Bool.not_eq_false', beq_iff_eq, beq_eq_false_iff_ne, ne_eq, Bool.and_eq_true, Bool.and_eq_false_iff, decide_not] at h14
               refine Rn ?_
               refine Rn ?_
               refine Rn ?_
               refine Ry ?_
               refine Rq ?_
               refine Ry ?_
               refine Rq ?_
               refine Rn ?_
               refine Rn ?_
               refine Rn ?_
               refine Ry ?_
               refine Rq ?_
               refine Ry ?_
               refine Rq ?_
               refine Rn ?_
               refine Rn ?_
               refine Rn ?_
               refine Ry ?_
               refine Rq ?_
               refine Ry ?_
               refine Rq ?_
               refine Rn ?_
               refine Rn ?_
               refine Rn ?_
               refine Ry ?_
               refine Rq ?_
               refine Rq ?_
               refine Rq ?_
               have tr : ∀ a b c d e f g h i j k m n o p q r s t u v w x y z A B C D E F G H I J K L M N O P Q : AV, let l := lc_check_ok a b c d e f g h i j k m n o; trim ((74,Q)::(101,P)::(100,O)::(99,N)::(98,M)::(97,L)::(96,K)::(95,J)::(94,I)::(93,H)::(92,G)::(91,F)::(90,E)::(89,D)::(88,C)::(87,B)::(86,A)::(85,z)::(84,y)::(83,x)::(82,w)::(81,v)::(80,u)::(79,t)::(78,s)::(77,r)::(76,q)::(75,p)::l) l = [(0,a),(1,b),(4,c),(6,d),(7,e),(14,f),(18,g),(19,h),(20,i),(21,j),(24,k),(46,m),(69,n),(74,Q)] := by intros; rfl
               refine R_nil (tr ..) ?_; clear tr
               refine then_n ?_
               refine cdt ?_
               refine at_seq rfl ?_
               refine rg rfl ?_
               refine Rq ?_
               have tr : ∀ a b c d e f g h i j k m n o p : AV, let l := lc_check_ok a b c d e f g h i j k m n o; trim ((4,p)::l) l = [(0,a),(1,b),(4,p),(6,d),(7,e),(14,f),(18,g),(19,h),(20,i),(21,j),(24,k),(46,m),(69,n),(74,o)] := by intros; rfl
               refine R_nil (tr ..) ?_; clear tr
               refine then_n ?_
               refine at_ret rfl ?_
               refine blk_r ?_
               refine blk_r ?_
               refine then_r ?_
               refine then_r ?_
               refine blk_r ?_
               refine then_r ?_
               first | (refine fpure ?_; refine ⟨?_, rfl⟩; rw [chS_a (by omega)]; done) | (refine fpure ?_; refine ⟨?_, rfl⟩; rw [chS_b (by omega) (by omega)]; done) | (refine fpure ?_; refine ⟨?_, rfl⟩; rw [chS_c (u := i) (by omega) (by omega) (by omega) hf (e := 1) (plE_1 (by omega)) (by decide)]; done) | (refine fpure ?_; refine ⟨?_, rfl⟩; rw [chS_c (u := i) (by omega) (by omega) (by omega) hf (e := 2) (plE_2 (by omega) (by omega)) (by decide)]; done) | (refine fpure ?_; refine ⟨?_, rfl⟩; rw [chS_c (u := i) (by omega) (by omega) (by omega) hf (e := 3) (plE_3 (by omega) (by omega) (by omega)) (by decide)]; done) | (refine fpure ?_; refine ⟨?_, rfl⟩; rw [chS_c (u := i) (by omega) (by omega) (by omega) hf (e := 11) (plE_4 (by omega) (by omega) (by omega) ⟨by assumption, by omega⟩) (by decide)]; done) | (refine fpure ?_; refine ⟨?_, rfl⟩; rw [chS_d (by omega) (by omega) (by rw [← show i = l.length by omega]; exact hf)]; done)
              ·
               try simp only [decide_eq_true_eq, decide_eq_false_iff_not, decide_eq_decide, Bool.not_eq_true', Bool.not_eq_false', beq_iff_eq, beq_eq_false_iff_ne, ne_eq, Bool.and_eq_true, Bool.and_eq_false_iff, decide_not] at h14
               refine Ry ?_
               refine Rq ?_
               refine Ry ?_
               refine Rq ?_
               refine Ry ?_
               refine Rq ?_
               refine Ry ?_
               refine Rq ?_
               refine Ry ?_
               refine Rq ?_
               refine Rp_split (fun h15 => ?_) (fun h15 => ?_)
               ·
                try simp only [decide_eq_true_eq, decide_eq_false_iff_not, decide_eq_decide, Bool.not_eq_true', Bool.not_eq_false', beq_iff_eq, beq_eq_false_iff_ne, ne_eq, Bool.and_eq_true, Bool.and_eq_false_iff, decide_not] at h15
                refine Rn ?_
                refine Rn ?_
                refine Rn ?_
                refine Ry ?_
                refine Rq ?_
                refine Ry ?_
                refine Rq ?_
                refine Rn ?_
                refine Rn ?_
                refine Rn ?_
                refine Ry ?_
                refine Rq ?_
                refine Ry ?_
                refine Rq ?_
                refine Rn ?_
                refine Rn ?_
                refine Rn ?_
                refine Ry ?_
                refine Rq ?_
                refine Rq ?_
                refine Rq ?_
                have tr : ∀ a b c d e f g h i j k m n o p q r s t u v w x y z A B C D E F G H I J K L M N O P Q : AV, let l := lc_check_ok a b c d e f g h i j k m n o; trim ((74,Q)::(101,P)::(100,O)::(99,N)::(98,M)::(97,L)::(96,K)::(95,J)::(94,I)::(93,H)::(92,G)::(91,F)::(90,E)::(89,D)::(88,C)::(87,B)::(86,A)::(85,z)::(84,y)::(83,x)::(82,w)::(81,v)::(80,u)::(79,t)::(78,s)::(77,r)::(76,q)::(75,p)::l) l = [(0,a),(1,b),(4,c),(6,d),(7,e),(14,f),(18,g),(19,h),(20,i),(21,j),(24,k),(46,m),(69,n),(74,Q)] := by intros; rfl
                refine R_nil (tr ..) ?_; clear tr
                refine then_n ?_
                refine cdt ?_
                refine at_seq rfl ?_
                refine rg rfl ?_
                refine Rq ?_
                have tr : ∀ a b c d e f g h i j k m n o p : AV, let l := lc_check_ok a b c d e f g h i j k m n o; trim ((4,p)::l) l = [(0,a),(1,b),(4,p),(6,d),(7,e),(14,f),(18,g),(19,h),(20,i),(21,j),(24,k),(46,m),(69,n),(74,o)] := by intros; rfl
                refine R_nil (tr ..) ?_; clear tr
                refine then_n ?_
                refine at_ret rfl ?_
                refine blk_r ?_
                refine blk_r ?_
                refine then_r ?_
                refine then_r ?_
                refine blk_r ?_
                refine then_r ?_
                first | (refine fpure ?_; refine ⟨?_, rfl⟩; rw [chS_a (by omega)]; done) | (refine fpure ?_; refine ⟨?_, rfl⟩; rw [chS_b (by omega) (by omega)]; done) | (refine fpure ?_; refine ⟨?_, rfl⟩; rw [chS_c (u := i) (by omega) (by omega) (by omega) hf (e := 1) (plE_1 (by omega)) (by decide)]; done) | (refine fpure ?_; refine ⟨?_, rfl⟩; rw [chS_c (u := i) (by omega) (by omega) (by omega) hf (e := 2) (plE_2 (by omega) (by omega)) (by decide)]; done) | (refine fpure ?_; refine ⟨?_, rfl⟩; rw [chS_c (u := i) (by omega) (by omega) (by omega) hf (e := 3) (plE_3 (by omega) (by omega) (by omega)) (by decide)]; done) | (refine fpure ?_; refine ⟨?_, rfl⟩; rw [chS_c (u := i) (by omega) (by omega) (by omega) hf (e := 11) (plE_4 (by omega) (by omega) (by omega) ⟨by assumption, by omega⟩) (by decide)]; done) | (refine fpure ?_; refine ⟨?_, rfl⟩; rw [chS_d (by omega) (by omega) (by rw [← show i = l.length by omega]; exact hf)]; done)
               ·
                try simp only [decide_eq_true_eq, decide_eq_false_iff_not, decide_eq_decide, Bool.not_eq_true', Bool.not_eq_false', beq_iff_eq, beq_eq_false_iff_ne, ne_eq, Bool.and_eq_true, Bool.and_eq_false_iff, decide_not] at h15
                refine Ry ?_
                refine Rq ?_
                refine Ry ?_
                refine Rq ?_
                refine Ry ?_
                refine Rq ?_
                refine Ry ?_
                refine Rq ?_
                refine Ry ?_
                refine Rq ?_
                refine Rp_split (fun h16 => ?_) (fun h16 => ?_)
                ·
                 try simp only [decide_eq_true_eq, decide_eq_false_iff_not, decide_eq_decide, Bool.not_eq_true', Bool.not_eq_false', beq_iff_eq, beq_eq_false_iff_ne, ne_eq, Bool.and_eq_true, Bool.and_eq_false_iff, decide_not] at h16
                 refine Rn ?_
                 refine Rn ?_
                 refine Rn ?_
                 refine Ry ?_
                 refine Rq ?_
                 refine Ry ?_
                 refine Rq ?_
                 refine Rn ?_
                 refine Rn ?_
                 refine Rn ?_
                 refine Ry ?_
                 refine Rq ?_
                 refine Rq ?_
                 refine Rq ?_
                 have tr : ∀ a b c d e f g h i j k m n o p q r s t u v w x y z A B C D E F G H I J K L M N O P Q : AV, let l := lc_check_ok a b c d e f g h i j k m n o; trim ((74,Q)::(101,P)::(100,O)::(99,N)::(98,M)::(97,L)::(96,K)::(95,J)::(94,I)::(93,H)::(92,G)::(91,F)::(90,E)::(89,D)::(88,C)::(87,B)::(86,A)::(85,z)::(84,y)::(83,x)::(82,w)::(81,v)::(80,u)::(79,t)::(78,s)::(77,r)::(76,q)::(75,p)::l) l = [(0,a),(1,b),(4,c),(6,d),(7,e),(14,f),(18,g),(19,h),(20,i),(21,j),(24,k),(46,m),(69,n),(74,Q)] := by intros; rfl
                 refine R_nil (tr ..) ?_; clear tr
                 refine then_n ?_
                 refine cdt ?_
                 refine at_seq rfl ?_
                 refine rg rfl ?_
                 refine Rq ?_
                 have tr : ∀ a b c d e f g h i j k m n o p : AV, let l := lc_check_ok a b c d e f g h i j k m n o; trim ((4,p)::l) l = [(0,a),(1,b),(4,p),(6,d),(7,e),(14,f),(18,g),(19,h),(20,i),(21,j),(24,k),(46,m),(69,n),(74,o)] := by intros; rfl
                 refine R_nil (tr ..) ?_; clear tr
                 refine then_n ?_
                 refine at_ret rfl ?_
                 refine blk_r ?_
                 refine blk_r ?_
                 refine then_r ?_
                 refine then_r ?_
                 refine blk_r ?_
                 refine then_r ?_
                 first | (refine fpure ?_; refine ⟨?_, rfl⟩; rw [chS_a (by omega)]; done) | (refine fpure ?_; refine ⟨?_, rfl⟩; rw [chS_b (by omega) (by omega)]; done) | (refine fpure ?_; refine ⟨?_, rfl⟩; rw [chS_c (u := i) (by omega) (by omega) (by omega) hf (e := 1) (plE_1 (by omega)) (by decide)]; done) | (refine fpure ?_; refine ⟨?_, rfl⟩; rw [chS_c (u := i) (by omega) (by omega) (by omega) hf (e := 2) (plE_2 (by omega) (by omega)) (by decide)]; done) | (refine fpure ?_; refine ⟨?_, rfl⟩; rw [chS_c (u := i) (by omega) (by omega) (by omega) hf (e := 3) (plE_3 (by omega) (by omega) (by omega)) (by decide)]; done) | (refine fpure ?_; refine ⟨?_, rfl⟩; rw [chS_c (u := i) (by omega) (by omega) (by omega) hf (e := 11) (plE_4 (by omega) (by omega) (by omega) ⟨by assumption, by omega⟩) (by decide)]; done) | (refine fpure ?_; refine ⟨?_, rfl⟩; rw [chS_d (by omega) (by omega) (by rw [← show i = l.length by omega]; exact hf)]; done)
                ·
                 try simp only [decide_eq_true_eq, decide_eq_false_iff_not, decide_eq_decide, Bool.not_eq_true', Bool.not_eq_false', beq_iff_eq, beq_eq_false_iff_ne, ne_eq, Bool.and_eq_true, Bool.and_eq_false_iff, decide_not] at h16
                 refine Ry ?_
                 refine Rq ?_
                 refine Ry ?_
                 refine Rq ?_
                 refine Ry ?_
                 refine Rq ?_
                 refine Ry ?_
                 refine Rq ?_
                 refine Ry ?_
                 refine Rq ?_
                 refine Rp_split (fun h17 => ?_) (fun h17 => ?_)
                 ·
                  try simp only [decide_eq_true_eq, decide_eq_false_iff_not, decide_eq_decide, Bool.not_eq_true', Bool.not_eq_false', beq_iff_eq, beq_eq_false_iff_ne, ne_eq, Bool.and_eq_true, Bool.and_eq_false_iff, decide_not] at h17
                  refine Rn ?_
                  refine Rn ?_
                  refine Rn ?_
                  refine Ry ?_
                  refine Rq ?_
                  refine Rq ?_
                  refine Rq ?_
                  have tr : ∀ a b c d e f g h i j k m n o p q r s t u v w x y z A B C D E F G H I J K L M N O P Q : AV, let l := lc_check_ok a b c d e f g h i j k m n o; trim ((74,Q)::(101,P)::(100,O)::(99,N)::(98,M)::(97,L)::(96,K)::(95,J)::(94,I)::(93,H)::(92,G)::(91,F)::(90,E)::(89,D)::(88,C)::(87,B)::(86,A)::(85,z)::(84,y)::(83,x)::(82,w)::(81,v)::(80,u)::(79,t)::(78,s)::(77,r)::(76,q)::(75,p)::l) l = [(0,a),(1,b),(4,c),(6,d),(7,e),(14,f),(18,g),(19,h),(20,i),(21,j),(24,k),(46,m),(69,n),(74,Q)] := by intros; rfl
                  refine R_nil (tr ..) ?_; clear tr
                  refine then_n ?_
                  refine cdt ?_
                  refine at_seq rfl ?_
                  refine rg rfl ?_
                  refine Rq ?_
                  have tr : ∀ a b c d e f g h i j k m n o p : AV, let l := lc_check_ok a b c d e f g h i j k m n o; trim ((4,p)::l) l = [(0,a),(1,b),(4,p),(6,d),(7,e),(14,f),(18,g),(19,h),(20,i),(21,j),(24,k),(46,m),(69,n),(74,o)] := by intros; rfl
                  refine R_nil (tr ..) ?_; clear tr
                  refine then_n ?_
                  refine at_ret rfl ?_
                  refine blk_r ?_
                  refine blk_r ?_
                  refine then_r ?_
                  refine then_r ?_
                  refine blk_r ?_
                  refine then_r ?_
                  first | (refine fpure ?_; refine ⟨?_, rfl⟩; rw [chS_a (by omega)]; done) | (refine fpure ?_; refine ⟨?_, rfl⟩; rw [chS_b (by omega) (by omega)]; done) | (refine fpure ?_; refine ⟨?_, rfl⟩; rw [chS_c (u := i) (by omega) (by omega) (by omega) hf (e := 1) (plE_1 (by omega)) (by decide)]; done) | (refine fpure ?_; refine ⟨?_, rfl⟩; rw [chS_c (u := i) (by omega) (by omega) (by omega) hf (e := 2) (plE_2 (by omega) (by omega)) (by decide)]; done) | (refine fpure ?_; refine ⟨?_, rfl⟩; rw [chS_c (u := i) (by omega) (by omega) (by omega) hf (e := 3) (plE_3 (by omega) (by omega) (by omega)) (by decide)]; done) | (refine fpure ?_; refine ⟨?_, rfl⟩; rw [chS_c (u := i) (by omega) (by omega) (by omega) hf (e := 11) (plE_4 (by omega) (by omega) (by omega) ⟨by assumption, by omega⟩) (by decide)]; done) | (refine fpure ?_; refine ⟨?_, rfl⟩; rw [chS_d (by omega) (by omega) (by rw [← show i = l.length by omega]; exact hf)]; done)
                 ·
                  try simp only [decide_eq_true_eq, decide_eq_false_iff_not, decide_eq_decide, Bool.not_eq_true', Bool.not_eq_false', beq_iff_eq, beq_eq_false_iff_ne, ne_eq, Bool.and_eq_true, Bool.and_eq_false_iff, decide_not] at h17
                  refine Ry ?_
                  refine Rq ?_
                  refine Ry ?_
                  refine Rq ?_
                  refine Ry ?_
                  refine Rq ?_
                  refine Ry ?_
                  refine Rq ?_
                  refine Rq ?_
                  refine Rq ?_
                  have tr : ∀ a b c d e f g h i j k m n o p q r s t u v w x y z A B C D E F G H I J K L M N O P Q : AV, let l := lc_check_ok a b c d e f g h i j k m n o; trim ((74,Q)::(101,P)::(100,O)::(99,N)::(98,M)::(97,L)::(96,K)::(95,J)::(94,I)::(93,H)::(92,G)::(91,F)::(90,E)::(89,D)::(88,C)::(87,B)::(86,A)::(85,z)::(84,y)::(83,x)::(82,w)::(81,v)::(80,u)::(79,t)::(78,s)::(77,r)::(76,q)::(75,p)::l) l = [(0,a),(1,b),(4,c),(6,d),(7,e),(14,f),(18,g),(19,h),(20,i),(21,j),(24,k),(46,m),(69,n),(74,Q)] := by intros; rfl
                  refine R_nil (tr ..) ?_; clear tr
                  refine then_n ?_
                  refine cdd (fun h18 => ?_) (fun h18 => ?_)
                  ·
                   try simp only [decide_eq_true_eq, decide_eq_false_iff_not, decide_eq_decide, Bool.not_eq_true', Bool.not_eq_false', beq_iff_eq, beq_eq_false_iff_ne, ne_eq, Bool.and_eq_true, Bool.and_eq_false_iff, decide_not] at h18
                   refine at_seq rfl ?_
                   refine rg rfl ?_
                   refine Rq ?_
                   have tr : ∀ a b c d e f g h i j k m n o p : AV, let l := lc_check_ok a b c d e f g h i j k m n o; trim ((4,p)::l) l = [(0,a),(1,b),(4,p),(6,d),(7,e),(14,f),(18,g),(19,h),(20,i),(21,j),(24,k),(46,m),(69,n),(74,o)] := by intros; rfl
                   refine R_nil (tr ..) ?_; clear tr
                   refine then_n ?_
                   refine at_ret rfl ?_
                   refine blk_r ?_
                   refine blk_r ?_
                   refine then_r ?_
                   refine then_r ?_
                   refine blk_r ?_
                   refine then_r ?_
                   first | (refine fpure ?_; refine ⟨?_, rfl⟩; rw [chS_a (by omega)]; done) | (refine fpure ?_; refine ⟨?_, rfl⟩; rw [chS_b (by omega) (by omega)]; done) | (refine fpure ?_; refine ⟨?_, rfl⟩; rw [chS_c (u := i) (by omega) (by omega) (by omega) hf (e := 1) (plE_1 (by omega)) (by decide)]; done) | (refine fpure ?_; refine ⟨?_, rfl⟩; rw [chS_c (u := i) (by omega) (by omega) (by omega) hf (e := 2) (plE_2 (by omega) (by omega)) (by decide)]; done) | (refine fpure ?_; refine ⟨?_, rfl⟩; rw [chS_c (u := i) (by omega) (by omega) (by omega) hf (e := 3) (plE_3 (by omega) (by omega) (by omega)) (by decide)]; done) | (refine fpure ?_; refine ⟨?_, rfl⟩; rw [chS_c (u := i) (by omega) (by omega) (by omega) hf (e := 11) (plE_4 (by omega) (by omega) (by omega) ⟨by assumption, by omega⟩) (by decide)]; done) | (refine fpure ?_; refine ⟨?_, rfl⟩; rw [chS_d (by omega) (by omega) (by rw [← show i = l.length by omega]; exact hf)]; done)
                  ·
                   try simp only [decide_eq_true_eq, decide_eq_false_iff_not, decide_eq_decide, Bool.not_eq_true', Bool.not_eq_false', beq_iff_eq, beq_eq_false_iff_ne, ne_eq, Bool.and_eq_true, Bool.and_eq_false_iff, decide_not] at h18
                   refine at_skip rfl ?_
                   refine blk_n ?_
                   refine blk_n ?_
                   refine then_n ?_
                   refine rg rfl ?_
                   refine Rq ?_
                   refine Rq ?_
                   have tr : ∀ a b c d e f g h i j k m n o p q : AV, let l := lc_check_ok a b c d e f g h i j k m n o; trim ((20,q)::(102,p)::l) l = [(0,a),(1,b),(4,c),(6,d),(7,e),(14,f),(18,g),(19,h),(20,q),(21,j),(24,k),(46,m),(69,n),(74,o)] := by intros; rfl
                   refine R_nil (tr ..) ?_; clear tr
                   refine then_n ?_
                   exact ⟨_, _, ⟨i + 1, X ++ [some (plC (gp l i))], _, _, _, _, _, _, _, rfl, rfl, by (simp; rfl), by omega, by (exact ferr_ok hf (plE_0 (by omega) (by omega) (by omega) (fun hh => by have hh1 := hh.1; have hh2 := hh.2; first | omega | (simp_all; done) | (simp_all; omega))))⟩, by rfl, by omega⟩
             ·
              try simp only [decide_eq_true_eq, decide_eq_false_iff_not, decide_eq_decide, Bool.not_eq_true', Bool.not_eq_false', beq_iff_eq, beq_eq_false_iff_ne, ne_eq, Bool.and_eq_true, Bool.and_eq_false_iff, decide_not] at h13
              refine Rn ?_
              refine Rn ?_
              refine Rn ?_
              refine Rn ?_
              refine Ru ?_
              refine Ru ?_
              refine Ru ?_
              refine Rn ?_
              refine Rn ?_
              refine Ru ?_
              refine Ru ?_
              refine Ru ?_
              refine Rn ?_
              refine Rn ?_
              refine Ru ?_
              refine Ru ?_
              refine Ru ?_
              refine Rn ?_
              refine Rn ?_
              refine Ru ?_
              refine Ru ?_
              refine Ru ?_
              refine Rn ?_
              refine Rq ?_
              refine Rq ?_
              have tr : ∀ a b c d e f g h i j k m n o p q r s t u v w x y z A B C D E F G H I J K L M N O P Q : AV, let l := lc_check_ok a b c d e f g h i j k m n o; trim ((74,Q)::(101,P)::(100,O)::(99,N)::(98,M)::(97,L)::(96,K)::(95,J)::(94,I)::(93,H)::(92,G)::(91,F)::(90,E)::(89,D)::(88,C)::(87,B)::(86,A)::(85,z)::(84,y)::(83,x)::(82,w)::(81,v)::(80,u)::(79,t)::(78,s)::(77,r)::(76,q)::(75,p)::l) l = [(0,a),(1,b),(4,c),(6,d),(7,e),(14,f),(18,g),(19,h),(20,i),(21,j),(24,k),(46,m),(69,n),(74,Q)] := by intros; rfl
              refine R_nil (tr ..) ?_; clear tr
              refine then_n ?_
              refine cdf ?_
              refine at_skip rfl ?_
              refine blk_n ?_
              refine blk_n ?_
              refine then_n ?_
              refine rg rfl ?_
              refine Rq ?_
              refine Rq ?_
              have tr : ∀ a b c d e f g h i j k m n o p q : AV, let l := lc_check_ok a b c d e f g h i j k m n o; trim ((20,q)::(102,p)::l) l = [(0,a),(1,b),(4,c),(6,d),(7,e),(14,f),(18,g),(19,h),(20,q),(21,j),(24,k),(46,m),(69,n),(74,o)] := by intros; rfl
              refine R_nil (tr ..) ?_; clear tr
              refine then_n ?_
              exact ⟨_, _, ⟨i + 1, X ++ [some (plC (gp l i))], _, _, _, _, _, _, _, rfl, rfl, by (simp; rfl), by omega, by (exact ferr_ok hf (plE_0 (by omega) (by omega) (by omega) (fun hh => by have hh1 := hh.1; have hh2 := hh.2; first | omega | (simp_all; done) | (simp_all; omega))))⟩, by rfl, by omega⟩
    ·
     try simp only [decide_eq_true_eq, decide_eq_false_iff_not, decide_eq_decide, Bool.not_eq_true', Bool.not_eq_false', beq_iff_eq, beq_eq_false_iff_ne, ne_eq, Bool.and_eq_true, Bool.and_eq_false_iff, decide_not] at h4
     refine at_exit rfl ?_
     refine then_x ?_
     refine then_x ?_
     refine blk_x ?_
     refine then_n ?_
     refine at_seq rfl ?_
     refine rg rfl ?_
     refine Rq ?_
     have tr : ∀ a b c d e f g h i j k m n o p : AV, let l := lc_check_ok a b c d e f g h i j k m n o; trim ((4,p)::l) l = [(0,a),(1,b),(4,p),(6,d),(7,e),(14,f),(18,g),(19,h),(20,i),(21,j),(24,k),(46,m),(69,n),(74,o)] := by intros; rfl
     refine R_nil (tr ..) ?_; clear tr
     refine then_n ?_
     refine at_ret rfl ?_
     first | (refine fpure ?_; refine ⟨?_, rfl⟩; rw [chS_a (by omega)]; done) | (refine fpure ?_; refine ⟨?_, rfl⟩; rw [chS_b (by omega) (by omega)]; done) | (refine fpure ?_; refine ⟨?_, rfl⟩; rw [chS_c (u := i) (by omega) (by omega) (by omega) hf (e := 1) (plE_1 (by omega)) (by decide)]; done) | (refine fpure ?_; refine ⟨?_, rfl⟩; rw [chS_c (u := i) (by omega) (by omega) (by omega) hf (e := 2) (plE_2 (by omega) (by omega)) (by decide)]; done) | (refine fpure ?_; refine ⟨?_, rfl⟩; rw [chS_c (u := i) (by omega) (by omega) (by omega) hf (e := 3) (plE_3 (by omega) (by omega) (by omega)) (by decide)]; done) | (refine fpure ?_; refine ⟨?_, rfl⟩; rw [chS_c (u := i) (by omega) (by omega) (by omega) hf (e := 11) (plE_4 (by omega) (by omega) (by omega) ⟨by assumption, by omega⟩) (by decide)]; done) | (refine fpure ?_; refine ⟨?_, rfl⟩; rw [chS_d (by omega) (by omega) (by rw [← show i = l.length by omega]; exact hf)]; done)

abbrev lc_rcheck_ok (a b c d e f g h i j k m n o : AV) : Env := [(0,a),(1,b),(4,c),(6,d),(12,e),(15,f),(16,g),(17,h),(18,i),(19,j),(22,k),(50,m),(89,n),(98,o)]
theorem rcheck_ok (lim : Nat) (H : Heap) (n : Int) (hn : -9223372036854775808 ≤ n ∧ n ≤ 9223372036854775807) (l : List Pl) : ACall sig lim 29 [AV.i n, plsAV l] H fun r H' => r = AV.i (chS n l) ∧ H' = H := by
 refine ACall_pure (fa := fa29) rfl rfl rfl rfl ?_
 have tr : ∀ a0 a1 : AV, env0 fa29.keep [a0, a1] = [(0,a0),(1,a1),(4,.any),(6,.any),(12,.any),(15,.any),(16,.any),(17,.any),(18,.any),(19,.any),(22,.any),(50,.any),(89,.any),(98,.any)] := fun a0 a1 => rfl
 refine W_to (tr _ _) ?_; clear tr
 refine at_seq rfl ?_
 refine rg rfl ?_
 refine Rq ?_
 have tr : ∀ a b c d e f g h i j k m n o p : AV, let l := lc_rcheck_ok a b c d e f g h i j k m n o; trim ((4,p)::l) l = [(0,a),(1,b),(4,p),(6,d),(12,e),(15,f),(16,g),(17,h),(18,i),(19,j),(22,k),(50,m),(89,n),(98,o)] := by intros; rfl
 refine R_nil (tr ..) ?_; clear tr
 refine then_n ?_
 refine at_seq rfl ?_
 refine at_seq rfl ?_
 refine rg rfl ?_
 refine Rq ?_
 refine Rq ?_
 refine Rq ?_
 refine Rp_split (fun h1 => ?_) (fun h1 => ?_)
 ·
  try simp only [decide_eq_true_eq, decide_eq_false_iff_not, decide_eq_decide, Bool.not_eq_true', Bool.not_eq_false', beq_iff_eq, beq_eq_false_iff_ne, ne_eq, Bool.and_eq_true, Bool.and_eq_false_iff, decide_not] at h1
  refine Rn ?_
  refine Rn ?_
  refine Rq ?_
  have tr : ∀ a b c d e f g h i j k m n o p q r s t u : AV, let l := lc_rcheck_ok a b c d e f g h i j k m n o; trim ((12,u)::(11,t)::(10,s)::(9,r)::(8,q)::(7,p)::l) l = [(0,a),(1,b),(4,c),(6,d),(12,u),(15,f),(16,g),(17,h),(18,i),(19,j),(22,k),(50,m),(89,n),(98,o)] := by intros; rfl
  refine R_nil (tr ..) ?_; clear tr
  refine then_n ?_
  refine cdt ?_
  refine at_seq rfl ?_
  refine rg rfl ?_
  refine Rq ?_
  have tr : ∀ a b c d e f g h i j k m n o p : AV, let l := lc_rcheck_ok a b c d e f g h i j k m n o; trim ((4,p)::l) l = [(0,a),(1,b),(4,p),(6,d),(12,e),(15,f),(16,g),(17,h),(18,i),(19,j),(22,k),(50,m),(89,n),(98,o)] := by intros; rfl
  refine R_nil (tr ..) ?_; clear tr
  refine then_n ?_
  refine at_ret rfl ?_
  refine then_r ?_
  first | (refine fpure ?_; refine ⟨?_, rfl⟩; rw [chS_a (by omega)]; done) | (refine fpure ?_; refine ⟨?_, rfl⟩; rw [chS_b (by omega) (by omega)]; done) | (refine fpure ?_; refine ⟨?_, rfl⟩; rw [chS_c (u := i) (by omega) (by omega) (by omega) hf (e := 1) (plE_1 (by omega)) (by decide)]; done) | (refine fpure ?_; refine ⟨?_, rfl⟩; rw [chS_c (u := i) (by omega) (by omega) (by omega) hf (e := 2) (plE_2 (by omega) (by omega)) (by decide)]; done) | (refine fpure ?_; refine ⟨?_, rfl⟩; rw [chS_c (u := i) (by omega) (by omega) (by omega) hf (e := 3) (plE_3 (by omega) (by omega) (by omega)) (by decide)]; done) | (refine fpure ?_; refine ⟨?_, rfl⟩; rw [chS_c (u := i) (by omega) (by omega) (by omega) hf (e := 11) (plE_4 (by omega) (by omega) (by omega) ⟨by assumption, by omega⟩) (by decide)]; done) | (refine fpure ?_; refine ⟨?_, rfl⟩; rw [chS_d (by omega) (by omega) (by rw [← show i = l.length by omega]; exact hf)]; done)
 ·
  try simp only [decide_eq_true_eq, decide_eq_false_iff_not, decide_eq_decide, Bool.not_eq_true', Bool.not_eq_false', beq_iff_eq, beq_eq_false_iff_ne, ne_eq, Bool.and_eq_true, Bool.and_eq_false_iff, decide_not] at h1
  refine Ry ?_
  refine Rq ?_
  refine Ry ?_
  refine Rq ?_
  refine Rq ?_
  have tr : ∀ a b c d e f g h i j k m n o p q r s t u : AV, let l := lc_rcheck_ok a b c d e f g h i j k m n o; trim ((12,u)::(11,t)::(10,s)::(9,r)::(8,q)::(7,p)::l) l = [(0,a),(1,b),(4,c),(6,d),(12,u),(15,f),(16,g),(17,h),(18,i),(19,j),(22,k),(50,m),(89,n),(98,o)] := by intros; rfl
  refine R_nil (tr ..) ?_; clear tr
  refine then_n ?_
  refine cdd (fun h2 => ?_) (fun h2 => ?_)
  ·
   try simp only [decide_eq_true_eq, decide_eq_false_iff_not, decide_eq_decide, Bool.not_eq_true', Bool.not_eq_false', beq_iff_eq, beq_eq_false_iff_ne, ne_eq, Bool.and_eq_true, Bool.and_eq_false_iff, decide_not] at h2
   refine at_seq rfl ?_
   refine rg rfl ?_
   refine Rq ?_
   have tr : ∀ a b c d e f g h i j k m n o p : AV, let l := lc_rcheck_ok a b c d e f g h i j k m n o; trim ((4,p)::l) l = [(0,a),(1,b),(4,p),(6,d),(12,e),(15,f),(16,g),(17,h),(18,i),(19,j),(22,k),(50,m),(89,n),(98,o)] := by intros; rfl
   refine R_nil (tr ..) ?_; clear tr
   refine then_n ?_
   refine at_ret rfl ?_
   refine then_r ?_
   first | (refine fpure ?_; refine ⟨?_, rfl⟩; rw [chS_a (by omega)]; done) | (refine fpure ?_; refine ⟨?_, rfl⟩; rw [chS_b (by omega) (by omega)]; done) | (refine fpure ?_; refine ⟨?_, rfl⟩; rw [chS_c (u := i) (by omega) (by omega) (by omega) hf (e := 1) (plE_1 (by omega)) (by decide)]; done) | (refine fpure ?_; refine ⟨?_, rfl⟩; rw [chS_c (u := i) (by omega) (by omega) (by omega) hf (e := 2) (plE_2 (by omega) (by omega)) (by decide)]; done) | (refine fpure ?_; refine ⟨?_, rfl⟩; rw [chS_c (u := i) (by omega) (by omega) (by omega) hf (e := 3) (plE_3 (by omega) (by omega) (by omega)) (by decide)]; done) | (refine fpure ?_; refine ⟨?_, rfl⟩; rw [chS_c (u := i) (by omega) (by omega) (by omega) hf (e := 11) (plE_4 (by omega) (by omega) (by omega) ⟨by assumption, by omega⟩) (by decide)]; done) | (refine fpure ?_; refine ⟨?_, rfl⟩; rw [chS_d (by omega) (by omega) (by rw [← show i = l.length by omega]; exact hf)]; done)
  ·
   try simp only [decide_eq_true_eq, decide_eq_false_iff_not, decide_eq_decide, Bool.not_eq_true', Bool.not_eq_false', beq_iff_eq, beq_eq_false_iff_ne, ne_eq, Bool.and_eq_true, Bool.and_eq_false_iff, decide_not] at h2
   refine at_skip rfl ?_
   refine then_n ?_
   refine at_seq rfl ?_
   refine at_seq rfl ?_
   refine rg rfl ?_
   refine Rq ?_
   refine Rq ?_
   refine Rq ?_
   have tr : ∀ a b c d e f g h i j k m n o p q r : AV, let l := lc_rcheck_ok a b c d e f g h i j k m n o; trim ((15,r)::(14,q)::(13,p)::l) l = [(0,a),(1,b),(4,c),(6,d),(12,e),(15,r),(16,g),(17,h),(18,i),(19,j),(22,k),(50,m),(89,n),(98,o)] := by intros; rfl
   refine R_nil (tr ..) ?_; clear tr
   refine then_n ?_
   refine cdd (fun h3 => ?_) (fun h3 => ?_)
   ·
    try simp only [decide_eq_true_eq, decide_eq_false_iff_not, decide_eq_decide, Bool.not_eq_true', Bool.not_eq_false', beq_iff_eq, beq_eq_false_iff_ne, ne_eq, Bool.and_eq_true, Bool.and_eq_false_iff, decide_not] at h3
    refine at_seq rfl ?_
    refine rg rfl ?_
    refine Rq ?_
    have tr : ∀ a b c d e f g h i j k m n o p : AV, let l := lc_rcheck_ok a b c d e f g h i j k m n o; trim ((4,p)::l) l = [(0,a),(1,b),(4,p),(6,d),(12,e),(15,f),(16,g),(17,h),(18,i),(19,j),(22,k),(50,m),(89,n),(98,o)] := by intros; rfl
    refine R_nil (tr ..) ?_; clear tr
    refine then_n ?_
    refine at_ret rfl ?_
    refine then_r ?_
    first | (refine fpure ?_; refine ⟨?_, rfl⟩; rw [chS_a (by omega)]; done) | (refine fpure ?_; refine ⟨?_, rfl⟩; rw [chS_b (by omega) (by omega)]; done) | (refine fpure ?_; refine ⟨?_, rfl⟩; rw [chS_c (u := i) (by omega) (by omega) (by omega) hf (e := 1) (plE_1 (by omega)) (by decide)]; done) | (refine fpure ?_; refine ⟨?_, rfl⟩; rw [chS_c (u := i) (by omega) (by omega) (by omega) hf (e := 2) (plE_2 (by omega) (by omega)) (by decide)]; done) | (refine fpure ?_; refine ⟨?_, rfl⟩; rw [chS_c (u := i) (by omega) (by omega) (by omega) hf (e := 3) (plE_3 (by omega) (by omega) (by omega)) (by decide)]; done) | (refine fpure ?_; refine ⟨?_, rfl⟩; rw [chS_c (u := i) (by omega) (by omega) (by omega) hf (e := 11) (plE_4 (by omega) (by omega) (by omega) ⟨by assumption, by omega⟩) (by decide)]; done) | (refine fpure ?_; refine ⟨?_, rfl⟩; rw [chS_d (by omega) (by omega) (by rw [← show i = l.length by omega]; exact hf)]; done)
   ·
    try simp only [decide_eq_true_eq, decide_eq_false_iff_not, decide_eq_decide, Bool.not_eq_true', Bool.not_eq_false', beq_iff_eq, beq_eq_false_iff_ne, ne_eq, Bool.and_eq_true, Bool.and_eq_false_iff, decide_not] at h3
    refine at_skip rfl ?_
    refine then_n ?_
    refine at_seq rfl ?_
    refine at_seq rfl ?_
    refine rg rfl ?_
    refine Rq ?_
    refine Rq ?_
    refine Rq ?_
    have tr : ∀ a b c d e f g h i j k m n o p q r : AV, let l := lc_rcheck_ok a b c d e f g h i j k m n o; trim ((18,r)::(17,q)::(16,p)::l) l = [(0,a),(1,b),(4,c),(6,d),(12,e),(15,f),(16,p),(17,q),(18,r),(19,j),(22,k),(50,m),(89,n),(98,o)] := by intros; rfl
    refine R_nil (tr ..) ?_; clear tr
    refine then_n ?_
    refine at_block rfl ?_
    refine loop_n rfl (fun mm kv H' => ∃ i : Nat, ∃ X : Heap, ∃ x4 x6 x19 x22 x50 x89 x98 : AV, (kv = [(4, x4), (6, x6), (18, AV.i (i : Int)), (19, x19), (22, x22), (50, x50), (89, x89), (98, x98)]) ∧ (mm = l.length - i) ∧ (H' = H ++ X) ∧ (i ≤ l.length) ∧ (ferr (fun i => plE n (gp l i)) i = 0)) ⟨0, [], _, _, _, _, _, _, _, rfl, rfl, by simp, by omega, by rfl⟩ (by rfl) ?_
    rintro mm kv HO ⟨i, X, x4, x6, x19, x22, x50, x89, x98, rfl, rfl, hX, hi, hf⟩
    have tr : ∀ a b c d e f g h i j k m n o p q r s t u v w : AV, upd [(0,a),(1,b),(4,c),(6,d),(12,e),(15,f),(16,g),(17,h),(18,i),(19,j),(22,k),(50,m),(89,n),(98,o)] [(4,p),(6,q),(18,r),(19,s),(22,t),(50,u),(89,v),(98,w)] = [(0,a),(1,b),(4,p),(6,q),(12,e),(15,f),(16,g),(17,h),(18,r),(19,s),(22,t),(50,u),(89,v),(98,w)] := by intros; rfl
    refine W_to (tr ..) ?_; clear tr
    subst hX
    refine at_seq rfl ?_
    refine rg rfl ?_
    refine Rq ?_
    have tr : ∀ a b c d e f g h i j k m n o p : AV, let l := lc_rcheck_ok a b c d e f g h i j k m n o; trim ((19,p)::l) l = [(0,a),(1,b),(4,c),(6,d),(12,e),(15,f),(16,g),(17,h),(18,i),(19,p),(22,k),(50,m),(89,n),(98,o)] := by intros; rfl
    refine R_nil (tr ..) ?_; clear tr
    refine then_n ?_
    refine at_seq rfl ?_
    refine cdd (fun h4 => ?_) (fun h4 => ?_)
    ·
     try simp only [decide_eq_true_eq, decide_eq_false_iff_not, decide_eq_decide, Bool.not_eq_true', Bool.not_eq_false', beq_iff_eq, beq_eq_false_iff_ne, ne_eq, Bool.and_eq_true, Bool.and_eq_false_iff, decide_not] at h4
     refine at_skip rfl ?_
     refine then_n ?_
     refine at_seq rfl ?_
     refine at_block rfl ?_
     refine at_seq rfl ?_
     refine rg rfl ?_
     refine Rq ?_
     refine Rq ?_
     refine R_alloc (by simp (disch := first | omega | (simp only [List.length_map, List.length_append, List.length_set, List.length_cons, List.length_nil]; omega)) only [go_sem, ↓reduceIte, Nat.reduceEqDiff, reduceCtorEq] <;> rfl) rfl (by simp only [List.map_cons, List.map_nil]; rfl) ?_
     refine R_store ty67 (by simp (disch := first | omega | (simp only [List.length_map, List.length_append, List.length_set, List.length_cons, List.length_nil]; omega)) only [go_sem, ↓reduceIte, Nat.reduceEqDiff, reduceCtorEq] <;> rfl) (by simp (disch := first | omega | (simp only [List.length_map, List.length_append, List.length_set, List.length_cons, List.length_nil]; omega)) only [go_sem, ↓reduceIte, Nat.reduceEqDiff, reduceCtorEq] <;> rfl) (by simp (disch := first | omega | (simp only [List.length_map, List.length_append, List.length_set, List.length_cons, List.length_nil]; omega)) only [go_sem, ↓reduceIte, Nat.reduceEqDiff, reduceCtorEq] <;> rfl) (by simp) (by rfl) (by simp (disch := first | omega | (simp only [List.length_map, List.length_append, List.length_set, List.length_cons, List.length_nil]; omega)) only [go_sem, ↓reduceIte, Nat.reduceEqDiff, reduceCtorEq] <;> rfl) ?_
     have tr : ∀ a b c d e f g h i j k m n o p q r : AV, let l := lc_rcheck_ok a b c d e f g h i j k m n o; trim ((6,r)::(21,q)::(20,p)::l) l = [(0,a),(1,b),(4,c),(6,r),(12,e),(15,f),(16,g),(17,h),(18,i),(19,j),(22,k),(50,m),(89,n),(98,o)] := by intros; rfl
     refine R_nil (tr ..) ?_; clear tr
     refine then_n ?_
     refine at_block rfl ?_
     refine at_seq rfl ?_
     refine rg rfl ?_
     refine Rq ?_
     refine Rq ?_
     refine Rq ?_
     refine Rq ?_
     refine Rp_split (fun h5 => ?_) (fun h5 => ?_)
     ·
      try simp only [decide_eq_true_eq, decide_eq_false_iff_not, decide_eq_decide, Bool.not_eq_true', Bool.not_eq_false', beq_iff_eq, beq_eq_false_iff_ne, ne_eq, Bool.and_eq_true, Bool.and_eq_false_iff, decide_not] at h5
      refine Rn ?_
      refine Rn ?_
      refine Rn ?_
      refine Rn ?_
      refine Rq ?_
      refine Rq ?_
      refine Rn ?_
      refine Rn ?_
      refine Rn ?_
      refine Rq ?_
      refine Rq ?_
      refine Rn ?_
      refine Rn ?_
      refine Rn ?_
      refine Rn ?_
      refine Rq ?_
      refine Rq ?_
      refine Rn ?_
      refine Rn ?_
      refine Rn ?_
      refine Rn ?_
      refine Rn ?_
      refine Rq ?_
      refine Rq ?_
      have tr : ∀ a b c d e f g h i j k m n o p q r s t u v w x y z A B C D E F G H I J K L M N O P Q : AV, let l := lc_rcheck_ok a b c d e f g h i j k m n o; trim ((22,Q)::(49,P)::(48,O)::(47,N)::(46,M)::(45,L)::(44,K)::(43,J)::(42,I)::(41,H)::(40,G)::(39,F)::(38,E)::(37,D)::(36,C)::(35,B)::(34,A)::(33,z)::(32,y)::(31,x)::(30,w)::(29,v)::(28,u)::(27,t)::(26,s)::(25,r)::(24,q)::(23,p)::l) l = [(0,a),(1,b),(4,c),(6,d),(12,e),(15,f),(16,g),(17,h),(18,i),(19,j),(22,Q),(50,m),(89,n),(98,o)] := by intros; rfl
      refine R_nil (tr ..) ?_; clear tr
      refine then_n ?_
      refine cdt ?_
      refine at_seq rfl ?_
      refine rg rfl ?_
      refine Rq ?_
      have tr : ∀ a b c d e f g h i j k m n o p : AV, let l := lc_rcheck_ok a b c d e f g h i j k m n o; trim ((4,p)::l) l = [(0,a),(1,b),(4,p),(6,d),(12,e),(15,f),(16,g),(17,h),(18,i),(19,j),(22,k),(50,m),(89,n),(98,o)] := by intros; rfl
      refine R_nil (tr ..) ?_; clear tr
      refine then_n ?_
      refine at_ret rfl ?_
      refine blk_r ?_
      refine blk_r ?_
      refine then_r ?_
      refine then_r ?_
      refine blk_r ?_
      refine then_r ?_
      first | (refine fpure ?_; refine ⟨?_, rfl⟩; rw [chS_a (by omega)]; done) | (refine fpure ?_; refine ⟨?_, rfl⟩; rw [chS_b (by omega) (by omega)]; done) | (refine fpure ?_; refine ⟨?_, rfl⟩; rw [chS_c (u := i) (by omega) (by omega) (by omega) hf (e := 1) (plE_1 (by omega)) (by decide)]; done) | (refine fpure ?_; refine ⟨?_, rfl⟩; rw [chS_c (u := i) (by omega) (by omega) (by omega) hf (e := 2) (plE_2 (by omega) (by omega)) (by decide)]; done) | (refine fpure ?_; refine ⟨?_, rfl⟩; rw [chS_c (u := i) (by omega) (by omega) (by omega) hf (e := 3) (plE_3 (by omega) (by omega) (by omega)) (by decide)]; done) | (refine fpure ?_; refine ⟨?_, rfl⟩; rw [chS_c (u := i) (by omega) (by omega) (by omega) hf (e := 11) (plE_4 (by omega) (by omega) (by omega) ⟨by assumption, by omega⟩) (by decide)]; done) | (refine fpure ?_; refine ⟨?_, rfl⟩; rw [chS_d (by omega) (by omega) (by rw [← show i = l.length by omega]; exact hf)]; done)
     ·
      try simp only [decide_eq_true_eq, decide_eq_false_iff_not, decide_eq_decide, Bool.not_eq_true', Bool.not_eq_false', beq_iff_eq, beq_eq_false_iff_ne, ne_eq, Bool.and_eq_true, Bool.and_eq_false_iff, decide_not] at h5
      refine Ry ?_
      refine Rq ?_
      refine Ry ?_
      refine Rq ?_
      refine Ry ?_
      refine Rq ?_
      refine Ry ?_
      refine Rq ?_
      refine Rq ?_
      refine Rq ?_
      refine Rp_split (fun h6 => ?_) (fun h6 => ?_)
      ·
       try simp only [decide_eq_true_eq, decide_eq_false_iff_not, decide_eq_decide, Bool.not_eq_true', Bool.not_eq_false', beq_iff_eq, beq_eq_false_iff_ne, ne_eq, Bool.and_eq_true, Bool.and_eq_false_iff, decide_not] at h6
       refine Rn ?_
       refine Rn ?_
       refine Rn ?_
       refine Rq ?_
       refine Rq ?_
       refine Rn ?_
       refine Rn ?_
       refine Rn ?_
       refine Rn ?_
       refine Rq ?_
       refine Rq ?_
       refine Rn ?_
       refine Rn ?_
       refine Rn ?_
       refine Rn ?_
       refine Rn ?_
       refine Rq ?_
       refine Rq ?_
       have tr : ∀ a b c d e f g h i j k m n o p q r s t u v w x y z A B C D E F G H I J K L M N O P Q : AV, let l := lc_rcheck_ok a b c d e f g h i j k m n o; trim ((22,Q)::(49,P)::(48,O)::(47,N)::(46,M)::(45,L)::(44,K)::(43,J)::(42,I)::(41,H)::(40,G)::(39,F)::(38,E)::(37,D)::(36,C)::(35,B)::(34,A)::(33,z)::(32,y)::(31,x)::(30,w)::(29,v)::(28,u)::(27,t)::(26,s)::(25,r)::(24,q)::(23,p)::l) l = [(0,a),(1,b),(4,c),(6,d),(12,e),(15,f),(16,g),(17,h),(18,i),(19,j),(22,Q),(50,m),(89,n),(98,o)] := by intros; rfl
       refine R_nil (tr ..) ?_; clear tr
       refine then_n ?_
       refine cdt ?_
       refine at_seq rfl ?_
       refine rg rfl ?_
       refine Rq ?_
       have tr : ∀ a b c d e f g h i j k m n o p : AV, let l := lc_rcheck_ok a b c d e f g h i j k m n o; trim ((4,p)::l) l = [(0,a),(1,b),(4,p),(6,d),(12,e),(15,f),(16,g),(17,h),(18,i),(19,j),(22,k),(50,m),(89,n),(98,o)] := by intros; rfl
       refine R_nil (tr ..) ?_; clear tr
       refine then_n ?_
       refine at_ret rfl ?_
       refine blk_r ?_
       refine blk_r ?_
       refine then_r ?_
       refine then_r ?_
       refine blk_r ?_
       refine then_r ?_
       first | (refine fpure ?_; refine ⟨?_, rfl⟩; rw [chS_a (by omega)]; done) | (refine fpure ?_; refine ⟨?_, rfl⟩; rw [chS_b (by omega) (by omega)]; done) | (refine fpure ?_; refine ⟨?_, rfl⟩; rw [chS_c (u := i) (by omega) (by omega) (by omega) hf (e := 1) (plE_1 (by omega)) (by decide)]; done) | (refine fpure ?_; refine ⟨?_, rfl⟩; rw [chS_c (u := i) (by omega) (by omega) (by omega) hf (e := 2) (plE_2 (by omega) (by omega)) (by decide)]; done) | (refine fpure ?_; refine ⟨?_, rfl⟩; rw [chS_c (u := i) (by omega) (by omega) (by omega) hf (e := 3) (plE_3 (by omega) (by omega) (by omega)) (by decide)]; done) | (refine fpure ?_; refine ⟨?_, rfl⟩; rw [chS_c (u := i) (by omega) (by omega) (by omega) hf (e := 11) (plE_4 (by omega) (by omega) (by omega) ⟨by assumption, by omega⟩) (by decide)]; done) | (refine fpure ?_; refine ⟨?_, rfl⟩; rw [chS_d (by omega) (by omega) (by rw [← show i = l.length by omega]; exact hf)]; done)
      ·
       try simp only [decide_eq_true_eq, decide_eq_false_iff_not, decide_eq_decide, Bool.not_eq_true', Bool.not_eq_false', beq_iff_eq, beq_eq_false_iff_ne, ne_eq, Bool.and_eq_true, Bool.and_eq_false_iff, decide_not] at h6
       refine Ry ?_
       refine Rq ?_
       refine Ry ?_
       refine Rq ?_
       refine Ry ?_
       refine Rq ?_
       refine Rq ?_
       refine Rq ?_
       refine Rp_split (fun h7 => ?_) (fun h7 => ?_)
       ·
        try simp only [decide_eq_true_eq, decide_eq_false_iff_not, decide_eq_decide, Bool.not_eq_true', Bool.not_eq_false', beq_iff_eq, beq_eq_false_iff_ne, ne_eq, Bool.and_eq_true, Bool.and_eq_false_iff, decide_not] at h7
        refine Rn ?_
        refine Rn ?_
        refine Rn ?_
        refine Rn ?_
        refine Rq ?_
        refine Rq ?_
        refine Rn ?_
        refine Rn ?_
        refine Rn ?_
        refine Rn ?_
        refine Rn ?_
        refine Rq ?_
        refine Rq ?_
        have tr : ∀ a b c d e f g h i j k m n o p q r s t u v w x y z A B C D E F G H I J K L M N O P Q : AV, let l := lc_rcheck_ok a b c d e f g h i j k m n o; trim ((22,Q)::(49,P)::(48,O)::(47,N)::(46,M)::(45,L)::(44,K)::(43,J)::(42,I)::(41,H)::(40,G)::(39,F)::(38,E)::(37,D)::(36,C)::(35,B)::(34,A)::(33,z)::(32,y)::(31,x)::(30,w)::(29,v)::(28,u)::(27,t)::(26,s)::(25,r)::(24,q)::(23,p)::l) l = [(0,a),(1,b),(4,c),(6,d),(12,e),(15,f),(16,g),(17,h),(18,i),(19,j),(22,Q),(50,m),(89,n),(98,o)] := by intros; rfl
        refine R_nil (tr ..) ?_; clear tr
        refine then_n ?_
        refine cdt ?_
        refine at_seq rfl ?_
        refine rg rfl ?_
        refine Rq ?_
        have tr : ∀ a b c d e f g h i j k m n o p : AV, let l := lc_rcheck_ok a b c d e f g h i j k m n o; trim ((4,p)::l) l = [(0,a),(1,b),(4,p),(6,d),(12,e),(15,f),(16,g),(17,h),(18,i),(19,j),(22,k),(50,m),(89,n),(98,o)] := by intros; rfl
        refine R_nil (tr ..) ?_; clear tr
        refine then_n ?_
        refine at_ret rfl ?_
        refine blk_r ?_
        refine blk_r ?_
        refine then_r ?_
        refine then_r ?_
        refine blk_r ?_
        refine then_r ?_
        first | (refine fpure ?_; refine ⟨?_, rfl⟩; rw [chS_a (by omega)]; done) | (refine fpure ?_; refine ⟨?_, rfl⟩; rw [chS_b (by omega) (by omega)]; done) | (refine fpure ?_; refine ⟨?_, rfl⟩; rw [chS_c (u := i) (by omega) (by omega) (by omega) hf (e := 1) (plE_1 (by omega)) (by decide)]; done) | (refine fpure ?_; refine ⟨?_, rfl⟩; rw [chS_c (u := i) (by omega) (by omega) (by omega) hf (e := 2) (plE_2 (by omega) (by omega)) (by decide)]; done) | (refine fpure ?_; refine ⟨?_, rfl⟩; rw [chS_c (u := i) (by omega) (by omega) (by omega) hf (e := 3) (plE_3 (by omega) (by omega) (by omega)) (by decide)]; done) | (refine fpure ?_; refine ⟨?_, rfl⟩; rw [chS_c (u := i) (by omega) (by omega) (by omega) hf (e := 11) (plE_4 (by omega) (by omega) (by omega) ⟨by assumption, by omega⟩) (by decide)]; done) | (refine fpure ?_; refine ⟨?_, rfl⟩; rw [chS_d (by omega) (by omega) (by rw [← show i = l.length by omega]; exact hf)]; done)
       ·
        try simp only [decide_eq_true_eq, decide_eq_false_iff_not, decide_eq_decide, Bool.not_eq_true', Bool.not_eq_false', beq_iff_eq, beq_eq_false_iff_ne, ne_eq, Bool.and_eq_true, Bool.and_eq_false_iff, decide_not] at h7
        refine Ry ?_
        refine Rq ?_
        refine Ry ?_
        refine Rq ?_
        refine Ry ?_
        refine Rq ?_
        refine Ry ?_
        refine Rq ?_
        refine Rq ?_
        refine Rq ?_
        refine Rp_split (fun h8 => ?_) (fun h8 => ?_)
        ·
         try simp only [decide_eq_true_eq, decide_eq_false_iff_not, decide_eq_decide, Bool.not_eq_true', Bool.not_eq_false', beq_iff_eq, beq_eq_false_iff_ne, ne_eq, Bool.and_eq_true, Bool.and_eq_false_iff, decide_not] at h8
         refine Rn ?_
         refine Rn ?_
         refine Rn ?_
         refine Rn ?_
         refine Rn ?_
         refine Rq ?_
         refine Rq ?_
         have tr : ∀ a b c d e f g h i j k m n o p q r s t u v w x y z A B C D E F G H I J K L M N O P Q : AV, let l := lc_rcheck_ok a b c d e f g h i j k m n o; trim ((22,Q)::(49,P)::(48,O)::(47,N)::(46,M)::(45,L)::(44,K)::(43,J)::(42,I)::(41,H)::(40,G)::(39,F)::(38,E)::(37,D)::(36,C)::(35,B)::(34,A)::(33,z)::(32,y)::(31,x)::(30,w)::(29,v)::(28,u)::(27,t)::(26,s)::(25,r)::(24,q)::(23,p)::l) l = [(0,a),(1,b),(4,c),(6,d),(12,e),(15,f),(16,g),(17,h),(18,i),(19,j),(22,Q),(50,m),(89,n),(98,o)] := by intros; rfl
         refine R_nil (tr ..) ?_; clear tr
         refine then_n ?_
         refine cdt ?_
         refine at_seq rfl ?_
         refine rg rfl ?_
         refine Rq ?_
         have tr : ∀ a b c d e f g h i j k m n o p : AV, let l := lc_rcheck_ok a b c d e f g h i j k m n o; trim ((4,p)::l) l = [(0,a),(1,b),(4,p),(6,d),(12,e),(15,f),(16,g),(17,h),(18,i),(19,j),(22,k),(50,m),(89,n),(98,o)] := by intros; rfl
         refine R_nil (tr ..) ?_; clear tr
         refine then_n ?_
         refine at_ret rfl ?_
         refine blk_r ?_
         refine blk_r ?_
         refine then_r ?_
         refine then_r ?_
         refine blk_r ?_
         refine then_r ?_
         first | (refine fpure ?_; refine ⟨?_, rfl⟩; rw [chS_a (by omega)]; done) | (refine fpure ?_; refine ⟨?_, rfl⟩; rw [chS_b (by omega) (by omega)]; done) | (refine fpure ?_; refine ⟨?_, rfl⟩; rw [chS_c (u := i) (by omega) (by omega) (by omega) hf (e := 1) (plE_1 (by omega)) (by decide)]; done) | (refine fpure ?_; refine ⟨?_, rfl⟩; rw [chS_c (u := i) (by omega) (by omega) (by omega) hf (e := 2) (plE_2 (by omega) (by omega)) (by decide)]; done) | (refine fpure ?_; refine ⟨?_, rfl⟩; rw [chS_c (u := i) (by omega) (by omega) (by omega) hf (e := 3) (plE_3 (by omega) (by omega) (by omega)) (by decide)]; done) | (refine fpure ?_; refine ⟨?_, rfl⟩; rw [chS_c (u := i) (by omega) (by omega) (by omega) hf (e := 11) (plE_4 (by omega) (by omega) (by omega) ⟨by assumption, by omega⟩) (by decide)]; done) | (refine fpure ?_; refine ⟨?_, rfl⟩; rw [chS_d (by omega) (by omega) (by rw [← show i = l.length by omega]; exact hf)]; done)
        ·
         try simp only [decide_eq_true_eq, decide_eq_false_iff_not, decide_eq_decide, Bool.not_eq_true', Bool.not_eq_false', beq_iff_eq, beq_eq_false_iff_ne, ne_eq, Bool.and_eq_true, Bool.and_eq_false_iff, decide_not] at h8
         refine Ry ?_
         refine Rq ?_
         refine Ry ?_
         refine Rq ?_
         refine Ry ?_
         refine Rq ?_
         refine Ry ?_
         refine Rq ?_
         refine Ry ?_
         refine Rq ?_
         refine Rq ?_
         refine Rq ?_
         have tr : ∀ a b c d e f g h i j k m n o p q r s t u v w x y z A B C D E F G H I J K L M N O P Q : AV, let l := lc_rcheck_ok a b c d e f g h i j k m n o; trim ((22,Q)::(49,P)::(48,O)::(47,N)::(46,M)::(45,L)::(44,K)::(43,J)::(42,I)::(41,H)::(40,G)::(39,F)::(38,E)::(37,D)::(36,C)::(35,B)::(34,A)::(33,z)::(32,y)::(31,x)::(30,w)::(29,v)::(28,u)::(27,t)::(26,s)::(25,r)::(24,q)::(23,p)::l) l = [(0,a),(1,b),(4,c),(6,d),(12,e),(15,f),(16,g),(17,h),(18,i),(19,j),(22,Q),(50,m),(89,n),(98,o)] := by intros; rfl
         refine R_nil (tr ..) ?_; clear tr
         refine then_n ?_
         refine cdd (fun h9 => ?_) (fun h9 => ?_)
         ·
          try simp only [decide_eq_true_eq, decide_eq_false_iff_not, decide_eq_decide, Bool.not_eq_true', Bool.not_eq_false', beq_iff_eq, beq_eq_false_iff_ne, ne_eq, Bool.and_eq_true, Bool.and_eq_false_iff, decide_not] at h9
          refine at_seq rfl ?_
          refine rg rfl ?_
          refine Rq ?_
          have tr : ∀ a b c d e f g h i j k m n o p : AV, let l := lc_rcheck_ok a b c d e f g h i j k m n o; trim ((4,p)::l) l = [(0,a),(1,b),(4,p),(6,d),(12,e),(15,f),(16,g),(17,h),(18,i),(19,j),(22,k),(50,m),(89,n),(98,o)] := by intros; rfl
          refine R_nil (tr ..) ?_; clear tr
          refine then_n ?_
          refine at_ret rfl ?_
          refine blk_r ?_
          refine blk_r ?_
          refine then_r ?_
          refine then_r ?_
          refine blk_r ?_
          refine then_r ?_
          first | (refine fpure ?_; refine ⟨?_, rfl⟩; rw [chS_a (by omega)]; done) | (refine fpure ?_; refine ⟨?_, rfl⟩; rw [chS_b (by omega) (by omega)]; done) | (refine fpure ?_; refine ⟨?_, rfl⟩; rw [chS_c (u := i) (by omega) (by omega) (by omega) hf (e := 1) (plE_1 (by omega)) (by decide)]; done) | (refine fpure ?_; refine ⟨?_, rfl⟩; rw [chS_c (u := i) (by omega) (by omega) (by omega) hf (e := 2) (plE_2 (by omega) (by omega)) (by decide)]; done) | (refine fpure ?_; refine ⟨?_, rfl⟩; rw [chS_c (u := i) (by omega) (by omega) (by omega) hf (e := 3) (plE_3 (by omega) (by omega) (by omega)) (by decide)]; done) | (refine fpure ?_; refine ⟨?_, rfl⟩; rw [chS_c (u := i) (by omega) (by omega) (by omega) hf (e := 11) (plE_4 (by omega) (by omega) (by omega) ⟨by assumption, by omega⟩) (by decide)]; done) | (refine fpure ?_; refine ⟨?_, rfl⟩; rw [chS_d (by omega) (by omega) (by rw [← show i = l.length by omega]; exact hf)]; done)
         ·
          try simp only [decide_eq_true_eq, decide_eq_false_iff_not, decide_eq_decide, Bool.not_eq_true', Bool.not_eq_false', beq_iff_eq, beq_eq_false_iff_ne, ne_eq, Bool.and_eq_true, Bool.and_eq_false_iff, decide_not] at h9
          refine at_seq rfl ?_
          refine rg rfl ?_
          refine Rq ?_
          refine Rq ?_
          refine Rq ?_
          refine Rq ?_
          refine Rp_split (fun h10 => ?_) (fun h10 => ?_)
          ·
           try simp only [decide_eq_true_eq, decide_eq_false_iff_not, decide_eq_decide, Bool.not_eq_true', Bool.not_eq_false', beq_iff_eq, beq_eq_false_iff_ne, ne_eq, Bool.and_eq_true, Bool.and_eq_false_iff, decide_not] at h10
           refine Rn ?_
           refine Rn ?_
           refine Rn ?_
           refine Rq ?_
           refine Rq ?_
           refine Rn ?_
           refine Rn ?_
           refine Rn ?_
           refine Rq ?_
           refine Rq ?_
           refine Rn ?_
           refine Rn ?_
           refine Rn ?_
           refine Rq ?_
           refine Rq ?_
           refine Rn ?_
           refine Rn ?_
           refine Rn ?_
           refine Rq ?_
           refine Rq ?_
           refine Rn ?_
           refine Rn ?_
           refine Rn ?_
           refine Rq ?_
           refine Rq ?_
           refine Rn ?_
           refine Rn ?_
           refine Rn ?_
           refine Rq ?_
           refine Rq ?_
           refine Rn ?_
           refine Rn ?_
           refine Rn ?_
           refine Rq ?_
           refine Rq ?_
           have tr : ∀ a b c d e f g h i j k m n o p q r s t u v w x y z A B C D E F G H I J K L M N O P Q R S T U V W X Y Z a1 b1 : AV, let l := lc_rcheck_ok a b c d e f g h i j k m n o; trim ((50,b1)::(88,a1)::(87,Z)::(86,Y)::(85,X)::(84,W)::(83,V)::(82,U)::(81,T)::(80,S)::(79,R)::(78,Q)::(77,P)::(76,O)::(75,N)::(74,M)::(73,L)::(72,K)::(71,J)::(70,I)::(69,H)::(68,G)::(67,F)::(66,E)::(65,D)::(64,C)::(63,B)::(62,A)::(61,z)::(60,y)::(59,x)::(58,w)::(57,v)::(56,u)::(55,t)::(54,s)::(53,r)::(52,q)::(51,p)::l) l = [(0,a),(1,b),(4,c),(6,d),(12,e),(15,f),(16,g),(17,h),(18,i),(19,j),(22,k),(50,b1),(89,n),(98,o)] := by intros; rfl
           refine R_nil (tr ..) ?_; clear tr
           refine then_n ?_
           refine cdt ?_
           refine at_seq rfl ?_
           refine rg rfl ?_
           refine Rq ?_
           have tr : ∀ a b c d e f g h i j k m n o p : AV, let l := lc_rcheck_ok a b c d e f g h i j k m n o; trim ((4,p)::l) l = [(0,a),(1,b),(4,p),(6,d),(12,e),(15,f),(16,g),(17,h),(18,i),(19,j),(22,k),(50,m),(89,n),(98,o)] := by intros; rfl
           refine R_nil (tr ..) ?_; clear tr
           refine then_n ?_
           refine at_ret rfl ?_
           refine blk_r ?_
           refine blk_r ?_
           refine then_r ?_
           refine then_r ?_
           refine blk_r ?_
           refine then_r ?_
           first | (refine fpure ?_; refine ⟨?_, rfl⟩; rw [chS_a (by omega)]; done) | (refine fpure ?_; refine ⟨?_, rfl⟩; rw [chS_b (by omega) (by omega)]; done) | (refine fpure ?_; refine ⟨?_, rfl⟩; rw [chS_c (u := i) (by omega) (by omega) (by omega) hf (e := 1) (plE_1 (by omega)) (by decide)]; done) | (refine fpure ?_; refine ⟨?_, rfl⟩; rw [chS_c (u := i) (by omega) (by omega) (by omega) hf (e := 2) (plE_2 (by omega) (by omega)) (by decide)]; done) | (refine fpure ?_; refine ⟨?_, rfl⟩; rw [chS_c (u := i) (by omega) (by omega) (by omega) hf (e := 3) (plE_3 (by omega) (by omega) (by omega)) (by decide)]; done) | (refine fpure ?_; refine ⟨?_, rfl⟩; rw [chS_c (u := i) (by omega) (by omega) (by omega) hf (e := 11) (plE_4 (by omega) (by omega) (by omega) ⟨by assumption, by omega⟩) (by decide)]; done) | (refine fpure ?_; refine ⟨?_, rfl⟩; rw [chS_d (by omega) (by omega) (by rw [← show i = l.length by omega]; exact hf)]; done)
          ·
           try simp only [decide_eq_true_eq, decide_eq_false_iff_not, decide_eq_decide, Bool.not_eq_true', Bool.not_eq_false', beq_iff_eq, beq_eq_false_iff_ne, ne_eq, Bool.and_eq_true, Bool.and_eq_false_iff, decide_not] at h10
           refine Ry ?_
           refine Rq ?_
           refine Ry ?_
           refine Rq ?_
           refine Ry ?_
           refine Rq ?_
           refine Rq ?_
           refine Rq ?_
           refine Rp_split (fun h11 => ?_) (fun h11 => ?_)
           ·
            try simp only [decide_eq_true_eq, decide_eq_false_iff_not, decide_eq_decide, Bool.not_eq_true', Bool.not_eq_false', beq_iff_eq, beq_eq_false_iff_ne, ne_eq, Bool.and_eq_true, Bool.and_eq_false_iff, decide_not] at h11
            refine Rn ?_
            refine Rn ?_
            refine Rn ?_
            refine Rq ?_
            refine Rq ?_
            refine Rn ?_
            refine Rn ?_
            refine Rn ?_
            refine Rq ?_
            refine Rq ?_
            refine Rn ?_
            refine Rn ?_
            refine Rn ?_
            refine Rq ?_
            refine Rq ?_
            refine Rn ?_
            refine Rn ?_
            refine Rn ?_
            refine Rq ?_
            refine Rq ?_
            refine Rn ?_
            refine Rn ?_
            refine Rn ?_
            refine Rq ?_
            refine Rq ?_
            refine Rn ?_
            refine Rn ?_
            refine Rn ?_
            refine Rq ?_
            refine Rq ?_
            have tr : ∀ a b c d e f g h i j k m n o p q r s t u v w x y z A B C D E F G H I J K L M N O P Q R S T U V W X Y Z a1 b1 : AV, let l := lc_rcheck_ok a b c d e f g h i j k m n o; trim ((50,b1)::(88,a1)::(87,Z)::(86,Y)::(85,X)::(84,W)::(83,V)::(82,U)::(81,T)::(80,S)::(79,R)::(78,Q)::(77,P)::(76,O)::(75,N)::(74,M)::(73,L)::(72,K)::(71,J)::(70,I)::(69,H)::(68,G)::(67,F)::(66,E)::(65,D)::(64,C)::(63,B)::(62,A)::(61,z)::(60,y)::(59,x)::(58,w)::(57,v)::(56,u)::(55,t)::(54,s)::(53,r)::(52,q)::(51,p)::l) l = [(0,a),(1,b),(4,c),(6,d),(12,e),(15,f),(16,g),(17,h),(18,i),(19,j),(22,k),(50,b1),(89,n),(98,o)] := by intros; rfl
            refine R_nil (tr ..) ?_; clear tr
            refine then_n ?_
            refine cdt ?_
            refine at_seq rfl ?_
            refine rg rfl ?_
            refine Rq ?_
            have tr : ∀ a b c d e f g h i j k m n o p : AV, let l := lc_rcheck_ok a b c d e f g h i j k m n o; trim ((4,p)::l) l = [(0,a),(1,b),(4,p),(6,d),(12,e),(15,f),(16,g),(17,h),(18,i),(19,j),(22,k),(50,m),(89,n),(98,o)] := by intros; rfl
            refine R_nil (tr ..) ?_; clear tr
            refine then_n ?_
            refine at_ret rfl ?_
            refine blk_r ?_
            refine blk_r ?_
            refine then_r ?_
            refine then_r ?_
            refine blk_r ?_
            refine then_r ?_
            first | (refine fpure ?_; refine ⟨?_, rfl⟩; rw [chS_a (by omega)]; done) | (refine fpure ?_; refine ⟨?_, rfl⟩; rw [chS_b (by omega) (by omega)]; done) | (refine fpure ?_; refine ⟨?_, rfl⟩; rw [chS_c (u := i) (by omega) (by omega) (by omega) hf (e := 1) (plE_1 (by omega)) (by decide)]; done) | (refine fpure ?_; refine ⟨?_, rfl⟩; rw [chS_c (u := i) (by omega) (by omega) (by omega) hf (e := 2) (plE_2 (by omega) (by omega)) (by decide)]; done) | (refine fpure ?_; refine ⟨?_, rfl⟩; rw [chS_c (u := i) (by omega) (by omega) (by omega) hf (e := 3) (plE_3 (by omega) (by omega) (by omega)) (by decide)]; done) | (refine fpure ?_; refine ⟨?_, rfl⟩; rw [chS_c (u := i) (by omega) (by omega) (by omega) hf (e := 11) (plE_4 (by omega) (by omega) (by omega) ⟨by assumption, by omega⟩) (by decide)]; done) | (refine fpure ?_; refine ⟨?_, rfl⟩; rw [chS_d (by omega) (by omega) (by rw [← show i = l.length by omega]; exact hf)]; done)
           ·
            try simp only [decide_eq_true_eq, decide_eq_false_iff_not, decide_eq_decide, Bool.not_eq_true', Bool.not_eq_false', beq_iff_eq, beq_eq_false_iff_ne, ne_eq, Bool.and_eq_true, Bool.and_eq_false_iff, decide_not] at h11
            refine Ry ?_
            refine Rq ?_
            refine Ry ?_
            refine Rq ?_
            refine Ry ?_
            refine Rq ?_
            refine Rq ?_
            refine Rq ?_
            refine Rp_split (fun h12 => ?_) (fun h12 => ?_)
            ·
             try simp only [decide_eq_true_eq, decide_eq_false_iff_not, decide_eq_decide, Bool.not_eq_true', Bool.not_eq_false', beq_iff_eq, beq_eq_false_iff_ne, ne_eq, Bool.and_eq_true, Bool.and_eq_false_iff, decide_not] at h12
             refine Rn ?_
             refine Rn ?_
             refine Rn ?_
             refine Rq ?_
             refine Rq ?_
             refine Rn ?_
             refine Rn ?_
             refine Rn ?_
             refine Rq ?_
             refine Rq ?_
             refine Rn ?_
             refine Rn ?_
             refine Rn ?_
             refine Rq ?_
             refine Rq ?_
             refine Rn ?_
             refine Rn ?_
             refine Rn ?_
             refine Rq ?_
             refine Rq ?_
             refine Rn ?_
             refine Rn ?_
             refine Rn ?_
             refine Rq ?_
             refine Rq ?_
             have tr : ∀ a b c d e f g h i j k m n o p q r s t u v w x y z A B C D E F G H I J K L M N O P Q R S T U V W X Y Z a1 b1 : AV, let l := lc_rcheck_ok a b c d e f g h i j k m n o; trim ((50,b1)::(88,a1)::(87,Z)::(86,Y)::(85,X)::(84,W)::(83,V)::(82,U)::(81,T)::(80,S)::(79,R)::(78,Q)::(77,P)::(76,O)::(75,N)::(74,M)::(73,L)::(72,K)::(71,J)::(70,I)::(69,H)::(68,G)::(67,F)::(66,E)::(65,D)::(64,C)::(63,B)::(62,A)::(61,z)::(60,y)::(59,x)::(58,w)::(57,v)::(56,u)::(55,t)::(54,s)::(53,r)::(52,q)::(51,p)::l) l = [(0,a),(1,b),(4,c),(6,d),(12,e),(15,f),(16,g),(17,h),(18,i),(19,j),(22,k),(50,b1),(89,n),(98,o)] := by intros; rfl
             refine R_nil (tr ..) ?_; clear tr
             refine then_n ?_
             refine cdt ?_
             refine at_seq rfl ?_
             refine rg rfl ?_
             refine Rq ?_
             have tr : ∀ a b c d e f g h i j k m n o p : AV, let l := lc_rcheck_ok a b c d e f g h i j k m n o; trim ((4,p)::l) l = [(0,a),(1,b),(4,p),(6,d),(12,e),(15,f),(16,g),(17,h),(18,i),(19,j),(22,k),(50,m),(89,n),(98,o)] := by intros; rfl
             refine R_nil (tr ..) ?_; clear tr
             refine then_n ?_
             refine at_ret rfl ?_
             refine blk_r ?_
             refine blk_r ?_
             refine then_r ?_
             refine then_r ?_
             refine blk_r ?_
             refine then_r ?_
             first | (refine fpure ?_; refine ⟨?_, rfl⟩; rw [chS_a (by omega)]; done) | (refine fpure ?_; refine ⟨?_, rfl⟩; rw [chS_b (by omega) (by omega)]; done) | (refine fpure ?_; refine ⟨?_, rfl⟩; rw [chS_c (u := i) (by omega) (by omega) (by omega) hf (e := 1) (plE_1 (by omega)) (by decide)]; done) | (refine fpure ?_; refine ⟨?_, rfl⟩; rw [chS_c (u := i) (by omega) (by omega) (by omega) hf (e := 2) (plE_2 (by omega) (by omega)) (by decide)]; done) | (refine fpure ?_; refine ⟨?_, rfl⟩; rw [chS_c (u := i) (by omega) (by omega) (by omega) hf (e := 3) (plE_3 (by omega) (by omega) (by omega)) (by decide)]; done) | (refine fpure ?_; refine ⟨?_, rfl⟩; rw [chS_c (u := i) (by omega) (by omega) (by omega) hf (e := 11) (plE_4 (by omega) (by omega) (by omega) ⟨by assumption, by omega⟩) (by decide)]; done) | (refine fpure ?_; refine ⟨?_, rfl⟩; rw [chS_d (by omega) (by omega) (by rw [← show i = l.length by omega]; exact hf)]; done)
            ·
             try simp only [decide_eq_true_eq, decide_eq_false_iff_not, decide_eq_decide, Bool.not_eq_true', Bool.not_eq_false', beq_iff_eq, beq_eq_false_iff_ne, ne_eq, Bool.and_eq_true, Bool.and_eq_false_iff, decide_not] at h12
             refine Ry ?_
             refine Rq ?_
             refine Ry ?_
             refine Rq ?_
             refine Ry ?_
             refine Rq ?_
             refine Rq ?_
             refine Rq ?_
             refine Rp_split (fun h13 => ?_) (fun h13 => ?_)
             ·
              try simp only [decide_eq_true_eq, decide_eq_false_iff_not, decide_eq_decide, Bool.not_eq_true', Bool.not_eq_false', beq_iff_eq, beq_eq_false_iff_ne, ne_eq, Bool.and_eq_true, Bool.and_eq_false_iff, decide_not] at h13
              refine Rn ?_
              refine Rn ?_
              refine Rn ?_
              refine Rq ?_
              refine Rq ?_
              refine Rn ?_
              refine Rn ?_
              refine Rn ?_
              refine Rq ?_
              refine Rq ?_
              refine Rn ?_
              refine Rn ?_
              refine Rn ?_
              refine Rq ?_
              refine Rq ?_
              refine Rn ?_
              refine Rn ?_
              refine Rn ?_
              refine Rq ?_
              refine Rq ?_
              have tr : ∀ a b c d e f g h i j k m n o p q r s t u v w x y z A B C D E F G H I J K L M N O P Q R S T U V W X Y Z a1 b1 : AV, let l := lc_rcheck_ok a b c d e f g h i j k m n o; trim ((50,b1)::(88,a1)::(87,Z)::(86,Y)::(85,X)::(84,W)::(83,V)::(82,U)::(81,T)::(80,S)::(79,R)::(78,Q)::(77,P)::(76,O)::(75,N)::(74,M)::(73,L)::(72,K)::(71,J)::(70,I)::(69,H)::(68,G)::(67,F)::(66,E)::(65,D)::(64,C)::(63,B)::(62,A)::(61,z)::(60,y)::(59,x)::(58,w)::(57,v)::(56,u)::(55,t)::(54,s)::(53,r)::(52,q)::(51,p)::l) l = [(0,a),(1,b),(4,c),(6,d),(12,e),(15,f),(16,g),(17,h),(18,i),(19,j),(22,k),(50,b1),(89,n),(98,o)] := by intros; rfl
              refine R_nil (tr ..) ?_; clear tr
              refine then_n ?_
              refine cdt ?_
              refine at_seq rfl ?_
              refine rg rfl ?_
              refine Rq ?_
              have tr : ∀ a b c d e f g h i j k m n o p : AV, let l := lc_rcheck_ok a b c d e f g h i j k m n o; trim ((4,p)::l) l = [(0,a),(1,b),(4,p),(6,d),(12,e),(15,f),(16,g),(17,h),(18,i),(19,j),(22,k),(50,m),(89,n),(98,o)] := by intros; rfl
              refine R_nil (tr ..) ?_; clear tr
              refine then_n ?_
              refine at_ret rfl ?_
              refine blk_r ?_
              refine blk_r ?_
              refine then_r ?_
              refine then_r ?_
              refine blk_r ?_
              refine then_r ?_
              first | (refine fpure ?_; refine ⟨?_, rfl⟩; rw [chS_a (by omega)]; done) | (refine fpure ?_; refine ⟨?_, rfl⟩; rw [chS_b (by omega) (by omega)]; done) | (refine fpure ?_; refine ⟨?_, rfl⟩; rw [chS_c (u := i) (by omega) (by omega) (by omega) hf (e := 1) (plE_1 (by omega)) (by decide)]; done) | (refine fpure ?_; refine ⟨?_, rfl⟩; rw [chS_c (u := i) (by omega) (by omega) (by omega) hf (e := 2) (plE_2 (by omega) (by omega)) (by decide)]; done) | (refine fpure ?_; refine ⟨?_, rfl⟩; rw [chS_c (u := i) (by omega) (by omega) (by omega) hf (e := 3) (plE_3 (by omega) (by omega) (by omega)) (by decide)]; done) | (refine fpure ?_; refine ⟨?_, rfl⟩; rw [chS_c (u := i) (by omega) (by omega) (by omega) hf (e := 11) (plE_4 (by omega) (by omega) (by omega) ⟨by assumption, by omega⟩) (by decide)]; done) | (refine fpure ?_; refine ⟨?_, rfl⟩; rw [chS_d (by omega) (by omega) (by rw [← show i = l.length by omega]; exact hf)]; done)
             ·
              try simp only [decide_eq_true_eq, decide_eq_false_iff_not, decide_eq_decide, Bool.not_eq_true', Bool.not_eq_false', beq_iff_eq, beq_eq_false_iff_ne, ne_eq, Bool.and_eq_true, Bool.and_eq_false_iff, decide_not] at h13
              refine Ry ?_
              refine Rq ?_
              refine Ry ?_
              refine Rq ?_
              refine Ry ?_
              refine Rq ?_
              refine Rq ?_
              refine Rq ?_
              refine Rp_split (fun h14 => ?_) (fun h14 => ?_)
              ·
               try simp only [decide_eq_true_eq, decide_eq_false_iff_not, decide_eq_decide, Bool.not_eq_true', Bool.not_eq_false', beq_iff_eq, beq_eq_false_iff_ne, ne_eq, Bool.and_eq_true, Bool.and_eq_false_iff, decide_not] at h14
               refine Rn ?_
               refine Rn ?_
               refine Rn ?_
               refine Rq ?_
               refine Rq ?_
               refine Rn ?_
               refine Rn ?_
               refine Rn ?_
               refine Rq ?_
               refine Rq ?_
               refine Rn ?_
               refine Rn ?_
               refine Rn ?_
               refine Rq ?_
               refine Rq ?_
               have tr : ∀ a b c d e f g h i j k m n o p q r s t u v w x y z A B C D E F G H I J K L M N O P Q R S T U V W X Y Z a1 b1 : AV, let l := lc_rcheck_ok a b c d e f g h i j k m n o; trim ((50,b1)::(88,a1)::(87,Z)::(86,Y)::(85,X)::(84,W)::(83,V)::(82,U)::(81,T)::(80,S)::(79,R)::(78,Q)::(77,P)::(76,O)::(75,N)::(74,M)::(73,L)::(72,K)::(71,J)::(70,I)::(69,H)::(68,G)::(67,F)::(66,E)::(65,D)::(64,C)::(63,B)::(62,A)::(61,z)::(60,y)::(59,x)::(58,w)::(57,v)::(56,u)::(55,t)::(54,s)::(53,r)::(52,q)::(51,p)::l) l = [(0,a),(1,b),(4,c),(6,d),(12,e),(15,f),(16,g),(17,h),(18,i),(19,j),(22,k),(50,b1),(89,n),(98,o)] := by intros; rfl
               refine R_nil (tr ..) ?_; clear tr
               refine then_n ?_
               refine cdt ?_
               refine at_seq rfl ?_
               refine rg rfl ?_
               refine Rq ?_
               have tr : ∀ a b c d e f g h i j k m n o p : AV, let l := lc_rcheck_ok a b c d e f g h i j k m n o; trim ((4,p)::l) l = [(0,a),(1,b),(4,p),(6,d),(12,e),(15,f),(16,g),(17,h),(18,i),(19,j),(22,k),(50,m),(89,n),(98,o)] := by intros; rfl
               refine R_nil (tr ..) ?_; clear tr
               refine then_n ?_
               refine at_ret rfl ?_
               refine blk_r ?_
               refine blk_r ?_
               refine then_r ?_
               refine then_r ?_
               refine blk_r ?_
               refine then_r ?_
               first | (refine fpure ?_; refine ⟨?_, rfl⟩; rw [chS_a (by omega)]; done) | (refine fpure ?_; refine ⟨?_, rfl⟩; rw [chS_b (by omega) (by omega)]; done) | (refine fpure ?_; refine ⟨?_, rfl⟩; rw [chS_c (u := i) (by omega) (by omega) (by omega) hf (e := 1) (plE_1 (by omega)) (by decide)]; done) | (refine fpure ?_; refine ⟨?_, rfl⟩; rw [chS_c (u := i) (by omega) (by omega) (by omega) hf (e := 2) (plE_2 (by omega) (by omega)) (by decide)]; done) | (refine fpure ?_; refine ⟨?_, rfl⟩; rw [chS_c (u := i) (by omega) (by omega) (by omega) hf (e := 3) (plE_3 (by omega) (by omega) (by omega)) (by decide)]; done) | (refine fpure ?_; refine ⟨?_, rfl⟩; rw [chS_c (u := i) (by omega) (by omega) (by omega) hf (e := 11) (plE_4 (by omega) (by omega) (by omega) ⟨by assumption, by omega⟩) (by decide)]; done) | (refine fpure ?_; refine ⟨?_, rfl⟩; rw [chS_d (by omega) (by omega) (by rw [← show i = l.length by omega]; exact hf)]; done)
              ·
               try simp only [decide_eq_true_eq, decide_eq_false_iff_not, decide_eq_decide, Bool.not_eq_true', Bool.not_eq_false', beq_iff_eq, beq_eq_false_iff_ne, ne_eq, Bool.and_eq_true, Bool.and_eq_false_iff, decide_not] at h14
               refine Ry ?_
               refine Rq ?_
               refine Ry ?_
               refine Rq ?_
               refine Ry ?_
               refine Rq ?_
               refine Rq ?_
               refine Rq ?_
               refine Rp_split (fun h15 => ?_) (fun h15 => ?_)
               ·
                try simp only [decide_eq_true_eq, decide_eq_false_iff_not, decide_eq_decide, Bool.not_eq_true', Bool.not_eq_false', beq_iff_eq, beq_eq_false_iff_ne, ne_eq, Bool.and_eq_true, Bool.and_eq_false_iff, decide_not] at h15
                refine Rn ?_
                refine Rn ?_
                refine Rn ?_
                refine Rq ?_
                refine Rq ?_
                refine Rn ?_
                refine Rn ?_
                refine Rn ?_
                refine Rq ?_
                refine Rq ?_
                have tr : ∀ a b c d e f g h i j k m n o p q r s t u v w x y z A B C D E F G H I J K L M N O P Q R S T U V W X Y Z a1 b1 : AV, let l := lc_rcheck_ok a b c d e f g h i j k m n o; trim ((50,b1)::(88,a1)::(87,Z)::(86,Y)::(85,X)::(84,W)::(83,V)::(82,U)::(81,T)::(80,S)::(79,R)::(78,Q)::(77,P)::(76,O)::(75,N)::(74,M)::(73,L)::(72,K)::(71,J)::(70,I)::(69,H)::(68,G)::(67,F)::(66,E)::(65,D)::(64,C)::(63,B)::(62,A)::(61,z)::(60,y)::(59,x)::(58,w)::(57,v)::(56,u)::(55,t)::(54,s)::(53,r)::(52,q)::(51,p)::l) l = [(0,a),(1,b),(4,c),(6,d),(12,e),(15,f),(16,g),(17,h),(18,i),(19,j),(22,k),(50,b1),(89,n),(98,o)] := by intros; rfl
                refine R_nil (tr ..) ?_; clear tr
                refine then_n ?_
                refine cdt ?_
                refine at_seq rfl ?_
                refine rg rfl ?_
                refine Rq ?_
                have tr : ∀ a b c d e f g h i j k m n o p : AV, let l := lc_rcheck_ok a b c d e f g h i j k m n o; trim ((4,p)::l) l = [(0,a),(1,b),(4,p),(6,d),(12,e),(15,f),(16,g),(17,h),(18,i),(19,j),(22,k),(50,m),(89,n),(98,o)] := by intros; rfl
                refine R_nil (tr ..) ?_; clear tr
                refine then_n ?_
                refine at_ret rfl ?_
                refine blk_r ?_
                refine blk_r ?_
                refine then_r ?_
                refine then_r ?_
                refine blk_r ?_
                refine then_r ?_
                first | (refine fpure ?_; refine ⟨?_, rfl⟩; rw [chS_a (by omega)]; done) | (refine fpure ?_; refine ⟨?_, rfl⟩; rw [chS_b (by omega) (by omega)]; done) | (refine fpure ?_; refine ⟨?_, rfl⟩; rw [chS_c (u := i) (by omega) (by omega) (by omega) hf (e := 1) (plE_1 (by omega)) (by decide)]; done) | (refine fpure ?_; refine ⟨?_, rfl⟩; rw [chS_c (u := i) (by omega) (by omega) (by omega) hf (e := 2) (plE_2 (by omega) (by omega)) (by decide)]; done) | (refine fpure ?_; refine ⟨?_, rfl⟩; rw [chS_c (u := i) (by omega) (by omega) (by omega) hf (e := 3) (plE_3 (by omega) (by omega) (by omega)) (by decide)]; done) | (refine fpure ?_; refine ⟨?_, rfl⟩; rw [chS_c (u := i) (by omega) (by omega) (by omega) hf (e := 11) (plE_4 (by omega) (by omega) (by omega) ⟨by assumption, by omega⟩) (by decide)]; done) | (refine fpure ?_; refine ⟨?_, rfl⟩; rw [chS_d (by omega) (by omega) (by rw [← show i = l.length by omega]; exact hf)]; done)
               ·
                try simp only [decide_eq_true_eq, decide_eq_false_iff_not, decide_eq_decide, Bool.not_eq_true', Bool.not_eq_false', beq_iff_eq, beq_eq_false_iff_ne, ne_eq, Bool.and_eq_true, Bool.and_eq_false_iff, decide_not] at h15
                refine Ry ?_
                refine Rq ?_
                refine Ry ?_
                refine Rq ?_
                refine Ry ?_
                refine Rq ?_
                refine Rq ?_
                refine Rq ?_
                refine Rp_split (fun h16 => ?_) (fun h16 => ?_)
                ·
                 try simp only [decide_eq_true_eq, decide_eq_false_iff_not, decide_eq_decide, Bool.not_eq_true', Bool.not_eq_false', beq_iff_eq, beq_eq_false_iff_ne, ne_eq, Bool.and_eq_true, Bool.and_eq_false_iff, decide_not] at h16
                 refine Rn ?_
                 refine Rn ?_
                 refine Rn ?_
                 refine Rq ?_
                 refine Rq ?_
                 have tr : ∀ a b c d e f g h i j k m n o p q r s t u v w x y z A B C D E F G H I J K L M N O P Q R S T U V W X Y Z a1 b1 : AV, let l := lc_rcheck_ok a b c d e f g h i j k m n o; trim ((50,b1)::(88,a1)::(87,Z)::(86,Y)::(85,X)::(84,W)::(83,V)::(82,U)::(81,T)::(80,S)::(79,R)::(78,Q)::(77,P)::(76,O)::(75,N)::(74,M)::(73,L)::(72,K)::(71,J)::(70,I)::(69,H)::(68,G)::(67,F)::(66,E)::(65,D)::(64,C)::(63,B)::(62,A)::(61,z)::(60,y)::(59,x)::(58,w)::(57,v)::(56,u)::(55,t)::(54,s)::(53,r)::(52,q)::(51,p)::l) l = [(0,a),(1,b),(4,c),(6,d),(12,e),(15,f),(16,g),(17,h),(18,i),(19,j),(22,k),(50,b1),(89,n),(98,o)] := by intros; rfl
                 refine R_nil (tr ..) ?_; clear tr
                 refine then_n ?_
                 refine cdt ?_
                 refine at_seq rfl ?_
                 refine rg rfl ?_
                 refine Rq ?_
                 have tr : ∀ a b c d e f g h i j k m n o p : AV, let l := lc_rcheck_ok a b c d e f g h i j k m n o; trim ((4,p)::l) l = [(0,a),(1,b),(4,p),(6,d),(12,e),(15,f),(16,g),(17,h),(18,i),(19,j),(22,k),(50,m),(89,n),(98,o)] := by intros; rfl
                 refine R_nil (tr ..) ?_; clear tr
                 refine then_n ?_
                 refine at_ret rfl ?_
                 refine blk_r ?_
                 refine blk_r ?_
                 refine then_r ?_
                 refine then_r ?_
                 refine blk_r ?_
                 refine then_r ?_
                 first | (refine fpure ?_; refine ⟨?_, rfl⟩; rw [chS_a (by omega)]; done) | (refine fpure ?_; refine ⟨?_, rfl⟩; rw [chS_b (by omega) (by omega)]; done) | (refine fpure ?_; refine ⟨?_, rfl⟩; rw [chS_c (u := i) (by omega) (by omega) (by omega) hf (e := 1) (plE_1 (by omega)) (by decide)]; done) | (refine fpure ?_; refine ⟨?_, rfl⟩; rw [chS_c (u := i) (by omega) (by omega) (by omega) hf (e := 2) (plE_2 (by omega) (by omega)) (by decide)]; done) | (refine fpure ?_; refine ⟨?_, rfl⟩; rw [chS_c (u := i) (by omega) (by omega) (by omega) hf (e := 3) (plE_3 (by omega) (by omega) (by omega)) (by decide)]; done) | (refine fpure ?_; refine ⟨?_, rfl⟩; rw [chS_c (u := i) (by omega) (by omega) (by omega) hf (e := 11) (plE_4 (by omega) (by omega) (by omega) ⟨by assumption, by omega⟩) (by decide)]; done) | (refine fpure ?_; refine ⟨?_, rfl⟩; rw [chS_d (by omega) (by omega) (by rw [← show i = l.length by omega]; exact hf)]; done)
                ·
                 try simp only [decide_eq_true_eq, decide_eq_false_iff_not, decide_eq_decide, Bool.not_eq_true', Bool.not_eq_false', beq_iff_eq, beq_eq_false_iff_ne, ne_eq, Bool.and_eq_true, Bool.and_eq_false_iff, decide_not] at h16
                 refine Ry ?_
                 refine Rq ?_
                 refine Ry ?_
                 refine Rq ?_
                 refine Ry ?_
                 refine Rq ?_
                 refine Rq ?_
                 refine Rq ?_
                 have tr : ∀ a b c d e f g h i j k m n o p q r s t u v w x y z A B C D E F G H I J K L M N O P Q R S T U V W X Y Z a1 b1 : AV, let l := lc_rcheck_ok a b c d e f g h i j k m n o; trim ((50,b1)::(88,a1)::(87,Z)::(86,Y)::(85,X)::(84,W)::(83,V)::(82,U)::(81,T)::(80,S)::(79,R)::(78,Q)::(77,P)::(76,O)::(75,N)::(74,M)::(73,L)::(72,K)::(71,J)::(70,I)::(69,H)::(68,G)::(67,F)::(66,E)::(65,D)::(64,C)::(63,B)::(62,A)::(61,z)::(60,y)::(59,x)::(58,w)::(57,v)::(56,u)::(55,t)::(54,s)::(53,r)::(52,q)::(51,p)::l) l = [(0,a),(1,b),(4,c),(6,d),(12,e),(15,f),(16,g),(17,h),(18,i),(19,j),(22,k),(50,b1),(89,n),(98,o)] := by intros; rfl
                 refine R_nil (tr ..) ?_; clear tr
                 refine then_n ?_
                 refine cdd (fun h17 => ?_) (fun h17 => ?_)
                 ·
                  try simp only [decide_eq_true_eq, decide_eq_false_iff_not, decide_eq_decide, Bool.not_eq_true', Bool.not_eq_false', beq_iff_eq, beq_eq_false_iff_ne, ne_eq, Bool.and_eq_true, Bool.and_eq_false_iff, decide_not] at h17
                  refine at_seq rfl ?_
                  refine rg rfl ?_
                  refine Rq ?_
                  have tr : ∀ a b c d e f g h i j k m n o p : AV, let l := lc_rcheck_ok a b c d e f g h i j k m n o; trim ((4,p)::l) l = [(0,a),(1,b),(4,p),(6,d),(12,e),(15,f),(16,g),(17,h),(18,i),(19,j),(22,k),(50,m),(89,n),(98,o)] := by intros; rfl
                  refine R_nil (tr ..) ?_; clear tr
                  refine then_n ?_
                  refine at_ret rfl ?_
                  refine blk_r ?_
                  refine blk_r ?_
                  refine then_r ?_
                  refine then_r ?_
                  refine blk_r ?_
                  refine then_r ?_
                  first | (refine fpure ?_; refine ⟨?_, rfl⟩; rw [chS_a (by omega)]; done) | (refine fpure ?_; refine ⟨?_, rfl⟩; rw [chS_b (by omega) (by omega)]; done) | (refine fpure ?_; refine ⟨?_, rfl⟩; rw [chS_c (u := i) (by omega) (by omega) (by omega) hf (e := 1) (plE_1 (by omega)) (by decide)]; done) | (refine fpure ?_; refine ⟨?_, rfl⟩; rw [chS_c (u := i) (by omega) (by omega) (by omega) hf (e := 2) (plE_2 (by omega) (by omega)) (by decide)]; done) | (refine fpure ?_; refine ⟨?_, rfl⟩; rw [chS_c (u := i) (by omega) (by omega) (by omega) hf (e := 3) (plE_3 (by omega) (by omega) (by omega)) (by decide)]; done) | (refine fpure ?_; refine ⟨?_, rfl⟩; rw [chS_c (u := i) (by omega) (by omega) (by omega) hf (e := 11) (plE_4 (by omega) (by omega) (by omega) ⟨by assumption, by omega⟩) (by decide)]; done) | (refine fpure ?_; refine ⟨?_, rfl⟩; rw [chS_d (by omega) (by omega) (by rw [← show i = l.length by omega]; exact hf)]; done)
                 ·
                  try simp only [decide_eq_true_eq, decide_eq_false_iff_not, decide_eq_decide, Bool.not_eq_true', Bool.not_eq_false', beq_iff_eq, beq_eq_false_iff_ne, ne_eq, Bool.and_eq_true, Bool.and_eq_false_iff, decide_not] at h17
                  refine at_seq rfl ?_
                  refine rg rfl ?_
                  refine Rq ?_
                  refine Rq ?_
                  refine Rq ?_
                  refine Rq ?_
                  refine Rp_split (fun h18 => ?_) (fun h18 => ?_)
                  ·
                   try simp only [decide_eq_true_eq, decide_eq_false_iff_not, decide_eq_decide, Bool.not_eq_true', Bool.not_eq_false', beq_iff_eq, beq_eq_false_iff_ne, ne_eq, Bool.and_eq_true, Bool.and_eq_false_iff, decide_not] at h18
                   refine Rn ?_
                   refine Rn ?_
                   refine Rn ?_
                   refine Rq ?_
                   refine Rq ?_
                   have tr : ∀ a b c d e f g h i j k m n o p q r s t u v w x : AV, let l := lc_rcheck_ok a b c d e f g h i j k m n o; trim ((89,x)::(97,w)::(96,v)::(95,u)::(94,t)::(93,s)::(92,r)::(91,q)::(90,p)::l) l = [(0,a),(1,b),(4,c),(6,d),(12,e),(15,f),(16,g),(17,h),(18,i),(19,j),(22,k),(50,m),(89,x),(98,o)] := by intros; rfl
                   refine R_nil (tr ..) ?_; clear tr
                   refine then_n ?_
                   refine cdt ?_
                   refine at_seq rfl ?_
                   refine rg rfl ?_
                   refine Rq ?_
                   have tr : ∀ a b c d e f g h i j k m n o p : AV, let l := lc_rcheck_ok a b c d e f g h i j k m n o; trim ((4,p)::l) l = [(0,a),(1,b),(4,p),(6,d),(12,e),(15,f),(16,g),(17,h),(18,i),(19,j),(22,k),(50,m),(89,n),(98,o)] := by intros; rfl
                   refine R_nil (tr ..) ?_; clear tr
                   refine then_n ?_
                   refine at_ret rfl ?_
                   refine blk_r ?_
                   refine blk_r ?_
                   refine then_r ?_
                   refine then_r ?_
                   refine blk_r ?_
                   refine then_r ?_
                   first | (refine fpure ?_; refine ⟨?_, rfl⟩; rw [chS_a (by omega)]; done) | (refine fpure ?_; refine ⟨?_, rfl⟩; rw [chS_b (by omega) (by omega)]; done) | (refine fpure ?_; refine ⟨?_, rfl⟩; rw [chS_c (u := i) (by omega) (by omega) (by omega) hf (e := 1) (plE_1 (by omega)) (by decide)]; done) | (refine fpure ?_; refine ⟨?_, rfl⟩; rw [chS_c (u := i) (by omega) (by omega) (by omega) hf (e := 2) (plE_2 (by omega) (by omega)) (by decide)]; done) | (refine fpure ?_; refine ⟨?_, rfl⟩; rw [chS_c (u := i) (by omega) (by omega) (by omega) hf (e := 3) (plE_3 (by omega) (by omega) (by omega)) (by decide)]; done) | (refine fpure ?_; refine ⟨?_, rfl⟩; rw [chS_c (u := i) (by omega) (by omega) (by omega) hf (e := 11) (plE_4 (by omega) (by omega) (by omega) ⟨by assumption, by omega⟩) (by decide)]; done) | (refine fpure ?_; refine ⟨?_, rfl⟩; rw [chS_d (by omega) (by omega) (by rw [← show i = l.length by omega]; exact hf)]; done)
                  ·
                   try simp only [decide_eq_true_eq, decide_eq_false_iff_not, decide_eq_decide, Bool.not_eq_true', Bool.not_eq_false', beq_iff_eq, beq_eq_false_iff_ne, ne_eq, Bool.and_eq_true, Bool.and_eq_false_iff, decide_not] at h18
                   refine Ry ?_
                   refine Rq ?_
                   refine Ry ?_
                   refine Rq ?_
                   refine Ry ?_
                   refine Rq ?_
                   refine Rq ?_
                   refine Rq ?_
                   have tr : ∀ a b c d e f g h i j k m n o p q r s t u v w x : AV, let l := lc_rcheck_ok a b c d e f g h i j k m n o; trim ((89,x)::(97,w)::(96,v)::(95,u)::(94,t)::(93,s)::(92,r)::(91,q)::(90,p)::l) l = [(0,a),(1,b),(4,c),(6,d),(12,e),(15,f),(16,g),(17,h),(18,i),(19,j),(22,k),(50,m),(89,x),(98,o)] := by intros; rfl
                   refine R_nil (tr ..) ?_; clear tr
                   refine then_n ?_
                   refine cdd (fun h19 => ?_) (fun h19 => ?_)
                   ·
                    try simp only [decide_eq_true_eq, decide_eq_false_iff_not, decide_eq_decide, Bool.not_eq_true', Bool.not_eq_false', beq_iff_eq, beq_eq_false_iff_ne, ne_eq, Bool.and_eq_true, Bool.and_eq_false_iff, decide_not] at h19
                    refine at_seq rfl ?_
                    refine rg rfl ?_
                    refine Rq ?_
                    have tr : ∀ a b c d e f g h i j k m n o p : AV, let l := lc_rcheck_ok a b c d e f g h i j k m n o; trim ((4,p)::l) l = [(0,a),(1,b),(4,p),(6,d),(12,e),(15,f),(16,g),(17,h),(18,i),(19,j),(22,k),(50,m),(89,n),(98,o)] := by intros; rfl
                    refine R_nil (tr ..) ?_; clear tr
                    refine then_n ?_
                    refine at_ret rfl ?_
                    refine blk_r ?_
                    refine blk_r ?_
                    refine then_r ?_
                    refine then_r ?_
                    refine blk_r ?_
                    refine then_r ?_
                    first | (refine fpure ?_; refine ⟨?_, rfl⟩; rw [chS_a (by omega)]; done) | (refine fpure ?_; refine ⟨?_, rfl⟩; rw [chS_b (by omega) (by omega)]; done) | (refine fpure ?_; refine ⟨?_, rfl⟩; rw [chS_c (u := i) (by omega) (by omega) (by omega) hf (e := 1) (plE_1 (by omega)) (by decide)]; done) | (refine fpure ?_; refine ⟨?_, rfl⟩; rw [chS_c (u := i) (by omega) (by omega) (by omega) hf (e := 2) (plE_2 (by omega) (by omega)) (by decide)]; done) | (refine fpure ?_; refine ⟨?_, rfl⟩; rw [chS_c (u := i) (by omega) (by omega) (by omega) hf (e := 3) (plE_3 (by omega) (by omega) (by omega)) (by decide)]; done) | (refine fpure ?_; refine ⟨?_, rfl⟩; rw [chS_c (u := i) (by omega) (by omega) (by omega) hf (e := 11) (plE_4 (by omega) (by omega) (by omega) ⟨by assumption, by omega⟩) (by decide)]; done) | (refine fpure ?_; refine ⟨?_, rfl⟩; rw [chS_d (by omega) (by omega) (by rw [← show i = l.length by omega]; exact hf)]; done)
                   ·
                    try simp only [decide_eq_true_eq, decide_eq_false_iff_not, decide_eq_decide, Bool.not_eq_true', Bool.not_eq_false', beq_iff_eq, beq_eq_false_iff_ne, ne_eq, Bool.and_eq_true, Bool.and_eq_false_iff, decide_not] at h19
                    refine at_seq rfl ?_
                    refine rg rfl ?_
                    refine Rq ?_
                    refine Rq ?_
                    refine Rq ?_
                    refine Rp_split (fun h20 => ?_) (fun h20 => ?_)
                    ·
                     try simp only [decide_eq_true_eq, decide_eq_false_iff_not, decide_eq_decide, Bool.not_eq_true', Bool.not_eq_false', beq_iff_eq, beq_eq_false_iff_ne, ne_eq, Bool.and_eq_true, Bool.and_eq_false_iff, decide_not] at h20
                     refine Ry ?_
                     refine Rq ?_
                     refine Ry ?_
                     refine Rq ?_
                     refine Ry ?_
                     refine Rq ?_
                     refine Ry ?_
                     refine Rq ?_
                     refine Rp_split (fun h21 => ?_) (fun h21 => ?_)
                     ·
                      try simp only [decide_eq_true_eq, decide_eq_false_iff_not, decide_eq_decide, Bool.not_eq_true', Bool.not_eq_false', beq_iff_eq, beq_eq_false_iff_ne, ne_eq, Bool.and_eq_true, Bool.and_eq_false_iff, decide_not] at h21
                      refine Rn ?_
                      refine Rn ?_
                      refine Rn ?_
                      refine Ry ?_
                      refine Rq ?_
                      refine Ry ?_
                      refine Rq ?_
                      refine Rn ?_
                      refine Rn ?_
                      refine Rn ?_
                      refine Ry ?_
                      refine Rq ?_
                      refine Ry ?_
                      refine Rq ?_
                      refine Rn ?_
                      refine Rn ?_
                      refine Rn ?_
                      refine Ry ?_
                      refine Rq ?_
                      refine Ry ?_
                      refine Rq ?_
                      refine Rn ?_
                      refine Rn ?_
                      refine Rn ?_
                      refine Ry ?_
                      refine Rq ?_
                      refine Rq ?_
                      refine Rq ?_
                      have tr : ∀ a b c d e f g h i j k m n o p q r s t u v w x y z A B C D E F G H I J K L M N O P Q : AV, let l := lc_rcheck_ok a b c d e f g h i j k m n o; trim ((98,Q)::(125,P)::(124,O)::(123,N)::(122,M)::(121,L)::(120,K)::(119,J)::(118,I)::(117,H)::(116,G)::(115,F)::(114,E)::(113,D)::(112,C)::(111,B)::(110,A)::(109,z)::(108,y)::(107,x)::(106,w)::(105,v)::(104,u)::(103,t)::(102,s)::(101,r)::(100,q)::(99,p)::l) l = [(0,a),(1,b),(4,c),(6,d),(12,e),(15,f),(16,g),(17,h),(18,i),(19,j),(22,k),(50,m),(89,n),(98,Q)] := by intros; rfl
                      refine R_nil (tr ..) ?_; clear tr
                      refine then_n ?_
                      refine cdt ?_
                      refine at_seq rfl ?_
                      refine rg rfl ?_
                      refine Rq ?_
                      have tr : ∀ a b c d e f g h i j k m n o p : AV, let l := lc_rcheck_ok a b c d e f g h i j k m n o; trim ((4,p)::l) l = [(0,a),(1,b),(4,p),(6,d),(12,e),(15,f),(16,g),(17,h),(18,i),(19,j),(22,k),(50,m),(89,n),(98,o)] := by intros; rfl
                      refine R_nil (tr ..) ?_; clear tr
                      refine then_n ?_
                      refine at_ret rfl ?_
                      refine blk_r ?_
                      refine blk_r ?_
                      refine then_r ?_
                      refine then_r ?_
                      refine blk_r ?_
                      refine then_r ?_
                      first | (refine fpure ?_; refine ⟨?_, rfl⟩; rw [chS_a (by omega)]; done) | (refine fpure ?_; refine ⟨?_, rfl⟩; rw [chS_b (by omega) (by omega)]; done) | (refine fpure ?_; refine ⟨?_, rfl⟩; rw [chS_c (u := i) (by omega) (by omega) (by omega) hf (e := 1) (plE_1 (by omega)) (by decide)]; done) | (refine fpure ?_; refine ⟨?_, rfl⟩; rw [chS_c (u := i) (by omega) (by omega) (by omega) hf (e := 2) (plE_2 (by omega) (by omega)) (by decide)]; done) | (refine fpure ?_; refine ⟨?_, rfl⟩; rw [chS_c (u := i) (by omega) (by omega) (by omega) hf (e := 3) (plE_3 (by omega) (by omega) (by omega)) (by decide)]; done) | (refine fpure ?_; refine ⟨?_, rfl⟩; rw [chS_c (u := i) (by omega) (by omega) (by omega) hf (e := 11) (plE_4 (by omega) (by omega) (by omega) ⟨by assumption, by omega⟩) (by decide)]; done) | (refine fpure ?_; refine ⟨?_, rfl⟩; rw [chS_d (by omega) (by omega) (by rw [← show i = l.length by omega]; exact hf)]; done)
                     ·
                      try simp only [decide_eq_true_eq, decide_eq_false_iff_not, decide_eq_decide, Bool.not_eq_true', Bool.not_eq_false', beq_iff_eq, beq_eq_false_iff_ne, ne_eq, Bool.and_eq_true, Bool.and_eq_false_iff, decide_not] at h21
                      refine Ry ?_
                      refine Rq ?_
                      refine Ry ?_
                      refine Rq ?_
                      refine Ry ?_
                      refine Rq ?_
                      refine Ry ?_
                      refine Rq ?_
                      refine Ry ?_
                      refine Rq ?_
                      refine Rp_split (fun h22 => ?_) (fun h22 => ?_)
                      ·
                       try simp only [decide_eq_true_eq, decide_eq_false_iff_not, decide_eq_decide, Bool.not_eq_true', Bool.not_eq_false', beq_iff_eq, beq_eq_false_iff_ne, ne_eq, Bool.and_eq_true, Bool.and_eq_false_iff, decide_not] at h22
                       refine Rn ?_
                       refine Rn ?_
                       refine Rn ?_
                       refine Ry ?_
                       refine Rq ?_
                       refine Ry ?_
                       refine Rq ?_
                       refine Rn ?_
                       refine Rn ?_
                       refine Rn ?_
                       refine Ry ?_
                       refine Rq ?_
                       refine Ry ?_
                       refine Rq ?_
                       refine Rn ?_
                       refine Rn ?_
                       refine Rn ?_
                       refine Ry ?_
                       refine Rq ?_
                       refine Rq ?_
                       refine Rq ?_
                       have tr : ∀ a b c d e f g h i j k m n o p q r s t u v w x y z A B C D E F G H I J K L M N O P Q : AV, let l := lc_rcheck_ok a b c d e f g h i j k m n o; trim ((98,Q)::(125,P)::(124,O)::(123,N)::(122,M)::(121,L)::(120,K)::(119,J)::(118,I)::(117,H)::(116,G)::(115,F)::(114,E)::(113,D)::(112,C)::(111,B)::(110,A)::(109,z)::(108,y)::(107,x)::(106,w)::(105,v)::(104,u)::(103,t)::(102,s)::(101,r)::(100,q)::(99,p)::l) l = [(0,a),(1,b),(4,c),(6,d),(12,e),(15,f),(16,g),(17,h),(18,i),(19,j),(22,k),(50,m),(89,n),(98,Q)] := by intros; rfl
                       refine R_nil (tr ..) ?_; clear tr
                       refine then_n ?_
                       refine cdt ?_
                       refine at_seq rfl ?_
                       refine rg rfl ?_
                       refine Rq ?_
                       have tr : ∀ a b c d e f g h i j k m n o p : AV, let l := lc_rcheck_ok a b c d e f g h i j k m n o; trim ((4,p)::l) l = [(0,a),(1,b),(4,p),(6,d),(12,e),(15,f),(16,g),(17,h),(18,i),(19,j),(22,k),(50,m),(89,n),(98,o)] := by intros; rfl
                       refine R_nil (tr ..) ?_; clear tr
                       refine then_n ?_
                       refine at_ret rfl ?_
                       refine blk_r ?_
                       refine blk_r ?_
                       refine then_r ?_
                       refine then_r ?_
                       refine blk_r ?_
                       refine then_r ?_
                       first | (refine fpure ?_; refine ⟨?_, rfl⟩; rw [chS_a (by omega)]; done) | (refine fpure ?_; refine ⟨?_, rfl⟩; rw [chS_b (by omega) (by omega)]; done) | (refine fpure ?_; refine ⟨?_, rfl⟩; rw [chS_c (u := i) (by omega) (by omega) (by omega) hf (e := 1) (plE_1 (by omega)) (by decide)]; done) | (refine fpure ?_; refine ⟨?_, rfl⟩; rw [chS_c (u := i) (by omega) (by omega) (by omega) hf (e := 2) (plE_2 (by omega) (by omega)) (by decide)]; done) | (refine fpure ?_; refine ⟨?_, rfl⟩; rw [chS_c (u := i) (by omega) (by omega) (by omega) hf (e := 3) (plE_3 (by omega) (by omega) (by omega)) (by decide)]; done) | (refine fpure ?_; refine ⟨?_, rfl⟩; rw [chS_c (u := i) (by omega) (by omega) (by omega) hf (e := 11) (plE_4 (by omega) (by omega) (by omega) ⟨by assumption, by omega⟩) (by decide)]; done) | (refine fpure ?_; refine ⟨?_, rfl⟩; rw [chS_d (by omega) (by omega) (by rw [← show i = l.length by omega]; exact hf)]; done)
                      ·
                       try simp only [decide_eq_true_eq, decide_eq_false_iff_not, decide_eq_decide, Bool.not_eq_true', Bool.not_eq_false', beq_iff_eq, beq_eq_false_iff_ne, ne_eq, Bool.and_eq_true, Bool.and_eq_false_iff, decide_not] at h22
                       refine Ry ?_
                       refine Rq ?_
                       refine Ry ?_
                       refine Rq ?_
                       refine Ry ?_
                       refine Rq ?_
                       refine Ry ?_
                       refine Rq ?_
                       refine Ry ?_
                       refine Rq ?_
                       refine Rp_split (fun h23 => ?_) (fun h23 => ?_)
                       ·
                        try simp only [decide_eq_true_eq, decide_eq_false_iff_not, decide_eq_decide, Bool.not_eq_true', Bool.not_eq_false', beq_iff_eq, beq_eq_false_iff_ne, ne_eq, Bool.and_eq_true, Bool.and_eq_false_iff, decide_not] at h23
                        refine Rn ?_
                        refine Rn ?_
                        refine Rn ?_
                        refine Ry ?_
                        refine Rq ?_
                        refine Ry ?_
                        refine Rq ?_
                        refine Rn ?_
                        refine Rn ?_
                        refine Rn ?_
                        refine Ry ?_
                        refine Rq ?_
                        refine Rq ?_
                        refine Rq ?_
                        have tr : ∀ a b c d e f g h i j k m n o p q r s t u v w x y z A B C D E F G H I J K L M N O P Q : AV, let l := lc_rcheck_ok a b c d e f g h i j k m n o; trim ((98,Q)::(125,P)::(124,O)::(123,N)::(122,M)::(121,L)::(120,K)::(119,J)::(118,I)::(117,H)::(116,G)::(115,F)::(114,E)::(113,D)::(112,C)::(111,B)::(110,A)::(109,z)::(108,y)::(107,x)::(106,w)::(105,v)::(104,u)::(103,t)::(102,s)::(101,r)::(100,q)::(99,p)::l) l = [(0,a),(1,b),(4,c),(6,d),(12,e),(15,f),(16,g),(17,h),(18,i),(19,j),(22,k),(50,m),(89,n),(98,Q)] := by intros; rfl
                        refine R_nil (tr ..) ?_; clear tr
                        refine then_n ?_
                        refine cdt ?_
                        refine at_seq rfl ?_
                        refine rg rfl ?_
                        refine Rq ?_
                        have tr : ∀ a b c d e f g h i j k m n o p : AV, let l := lc_rcheck_ok a b c d e f g h i j k m n o; trim ((4,p)::l) l = [(0,a),(1,b),(4,p),(6,d),(12,e),(15,f),(16,g),(17,h),(18,i),(19,j),(22,k),(50,m),(89,n),(98,o)] := by intros; rfl
                        refine R_nil (tr ..) ?_; clear tr
                        refine then_n ?_
                        refine at_ret rfl ?_
                        refine blk_r ?_
                        refine blk_r ?_
                        refine then_r ?_
                        refine then_r ?_
                        refine blk_r ?_
                        refine then_r ?_
                        first | (refine fpure ?_; refine ⟨?_, rfl⟩; rw [chS_a (by omega)]; done) | (refine fpure ?_; refine ⟨?_, rfl⟩; rw [chS_b (by omega) (by omega)]; done) | (refine fpure ?_; refine ⟨?_, rfl⟩; rw [chS_c (u := i) (by omega) (by omega) (by omega) hf (e := 1) (plE_1 (by omega)) (by decide)]; done) | (refine fpure ?_; refine ⟨?_, rfl⟩; rw [chS_c (u := i) (by omega) (by omega) (by omega) hf (e := 2) (plE_2 (by omega) (by omega)) (by decide)]; done) | (refine fpure ?_; refine ⟨?_, rfl⟩; rw [chS_c (u := i) (by omega) (by omega) (by omega) hf (e := 3) (plE_3 (by omega) (by omega) (by omega)) (by decide)]; done) | (refine fpure ?_; refine ⟨?_, rfl⟩; rw [chS_c (u := i) (by omega) (by omega) (by omega) hf (e := 11) (plE_4 (by omega) (by omega) (by omega) ⟨by assumption, by omega⟩) (by decide)]; done) | (refine fpure ?_; refine ⟨?_, rfl⟩; rw [chS_d (by omega) (by omega) (by rw [← show i = l.length by omega]; exact hf)]; done)
                       ·
                        try simp only [decide_eq_true_eq, decide_eq_false_iff_not, decide_eq_decide, Bool.not_eq_true', Bool.not_eq_false', beq_iff_eq, beq_eq_false_iff_ne, ne_eq, Bool.and_eq_true, Bool.and_eq_false_iff, decide_not] at h23
                        refine Ry ?_
                        refine Rq ?_
                        refine Ry ?_
                        refine Rq ?_
                        refine Ry ?_
                        refine Rq ?_
                        refine Ry ?_
                        refine Rq ?_
                        refine Ry ?_
                        refine Rq ?_
                        refine Rp_split (fun h24 => ?_) (fun h24 => ?_)
                        ·
                         try simp only [decide_eq_true_eq, decide_eq_false_iff_not, decide_eq_decide, Bool.not_eq_true', Bool.not_eq_false', beq_iff_eq, beq_eq_false_iff_ne, ne_eq, Bool.and_eq_true, Bool.and_eq_false_iff, decide_not] at h24
                         refine Rn ?_
                         refine Rn ?_
                         refine Rn ?_
                         refine Ry ?_
                         refine Rq ?_
                         refine Rq ?_
                         refine Rq ?_
                         have tr : ∀ a b c d e f g h i j k m n o p q r s t u v w x y z A B C D E F G H I J K L M N O P Q : AV, let l := lc_rcheck_ok a b c d e f g h i j k m n o; trim ((98,Q)::(125,P)::(124,O)::(123,N)::(122,M)::(121,L)::(120,K)::(119,J)::(118,I)::(117,H)::(116,G)::(115,F)::(114,E)::(113,D)::(112,C)::(111,B)::(110,A)::(109,z)::(108,y)::(107,x)::(106,w)::(105,v)::(104,u)::(103,t)::(102,s)::(101,r)::(100,q)::(99,p)::l) l = [(0,a),(1,b),(4,c),(6,d),(12,e),(15,f),(16,g),(17,h),(18,i),(19,j),(22,k),(50,m),(89,n),(98,Q)] := by intros; rfl
                         refine R_nil (tr ..) ?_; clear tr
                         refine then_n ?_
                         refine cdt ?_
                         refine at_seq rfl ?_
                         refine rg rfl ?_
                         refine Rq ?_
                         have tr : ∀ a b c d e f g h i j k m n o p : AV, let l := lc_rcheck_ok a b c d e f g h i j k m n o; trim ((4,p)::l) l = [(0,a),(1,b),(4,p),(6,d),(12,e),(15,f),(16,g),(17,h),(18,i),(19,j),(22,k),(50,m),(89,n),(98,o)] := by intros; rfl
                         refine R_nil (tr ..) ?_; clear tr
                         refine then_n ?_
                         refine at_ret rfl ?_
                         refine blk_r ?_
                         refine blk_r ?_
                         refine then_r ?_
                         refine then_r ?_
                         refine blk_r ?_
                         refine then_r ?_
                         first | (refine fpure ?_; refine ⟨?_, rfl⟩; rw [chS_a (by omega)]; done) | (refine fpure ?_; refine ⟨?_, rfl⟩; rw [chS_b (by omega) (by omega)]; done) | (refine fpure ?_; refine ⟨?_, rfl⟩; rw [chS_c (u := i) (by omega) (by omega) (by omega) hf (e := 1) (plE_1 (by omega)) (by decide)]; done) | (refine fpure ?_; refine ⟨?_, rfl⟩; rw [chS_c (u := i) (by omega) (by omega) (by omega) hf (e := 2) (plE_2 (by omega) (by omega)) (by decide)]; done) | (refine fpure ?_; refine ⟨?_, rfl⟩; rw [chS_c (u := i) (by omega) (by omega) (by omega) hf (e := 3) (plE_3 (by omega) (by omega) (by omega)) (by decide)]; done) | (refine fpure ?_; refine ⟨?_, rfl⟩; rw [chS_c (u := i) (by omega) (by omega) (by omega) hf (e := 11) (plE_4 (by omega) (by omega) (by omega) ⟨by assumption, by omega⟩) (by decide)]; done) | (refine fpure ?_; refine ⟨?_, rfl⟩; rw [chS_d (by omega) (by omega) (by rw [← show i = l.length by omega]; exact hf)]; done)
                        ·
                         try simp only [decide_eq_true_eq, decide_eq_false_iff_not, decide_eq_decide, Bool.not_eq_true', Bool.not_eq_false', beq_iff_eq, beq_eq_false_iff_ne, ne_eq, Bool.and_eq_true, Bool.and_eq_false_iff, decide_not] at h24
                         refine Ry ?_
                         refine Rq ?_
                         refine Ry ?_
                         refine Rq ?_
                         refine Ry ?_
                         refine Rq ?_
                         refine Ry ?_
                         refine Rq ?_
                         refine Rq ?_
                         refine Rq ?_
                         have tr : ∀ a b c d e f g h i j k m n o p q r s t u v w x y z A B C D E F G H I J K L M N O P Q : AV, let l := lc_rcheck_ok a b c d e f g h i j k m n o; trim ((98,Q)::(125,P)::(124,O)::(123,N)::(122,M)::(121,L)::(120,K)::(119,J)::(118,I)::(117,H)::(116,G)::(115,F)::(114,E)::(113,D)::(112,C)::(111,B)::(110,A)::(109,z)::(108,y)::(107,x)::(106,w)::(105,v)::(104,u)::(103,t)::(102,s)::(101,r)::(100,q)::(99,p)::l) l = [(0,a),(1,b),(4,c),(6,d),(12,e),(15,f),(16,g),(17,h),(18,i),(19,j),(22,k),(50,m),(89,n),(98,Q)] := by intros; rfl
                         refine R_nil (tr ..) ?_; clear tr
                         refine then_n ?_
                         refine cdd (fun h25 => ?_) (fun h25 => ?_)
                         ·
                          try simp only [decide_eq_true_eq, decide_eq_false_iff_not, decide_eq_decide, Bool.not_eq_true', Bool.not_eq_false', beq_iff_eq, beq_eq_false_iff_ne, ne_eq, Bool.and_eq_true, Bool.and_eq_false_iff, decide_not] at h25
                          refine at_seq rfl ?_
                          refine rg rfl ?_
                          refine Rq ?_
                          have tr : ∀ a b c d e f g h i j k m n o p : AV, let l := lc_rcheck_ok a b c d e f g h i j k m n o; trim ((4,p)::l) l = [(0,a),(1,b),(4,p),(6,d),(12,e),(15,f),(16,g),(17,h),(18,i),(19,j),(22,k),(50,m),(89,n),(98,o)] := by intros; rfl
                          refine R_nil (tr ..) ?_; clear tr
                          refine then_n ?_
                          refine at_ret rfl ?_
                          refine blk_r ?_
                          refine blk_r ?_
                          refine then_r ?_
                          refine then_r ?_
                          refine blk_r ?_
                          refine then_r ?_
                          first | (refine fpure ?_; refine ⟨?_, rfl⟩; rw [chS_a (by omega)]; done) | (refine fpure ?_; refine ⟨?_, rfl⟩; rw [chS_b (by omega) (by omega)]; done) | (refine fpure ?_; refine ⟨?_, rfl⟩; rw [chS_c (u := i) (by omega) (by omega) (by omega) hf (e := 1) (plE_1 (by omega)) (by decide)]; done) | (refine fpure ?_; refine ⟨?_, rfl⟩; rw [chS_c (u := i) (by omega) (by omega) (by omega) hf (e := 2) (plE_2 (by omega) (by omega)) (by decide)]; done) | (refine fpure ?_; refine ⟨?_, rfl⟩; rw [chS_c (u := i) (by omega) (by omega) (by omega) hf (e := 3) (plE_3 (by omega) (by omega) (by omega)) (by decide)]; done) | (refine fpure ?_; refine ⟨?_, rfl⟩; rw [chS_c (u := i) (by omega) (by omega) (by omega) hf (e := 11) (plE_4 (by omega) (by omega) (by omega) ⟨by assumption, by omega⟩) (by decide)]; done) | (refine fpure ?_; refine ⟨?_, rfl⟩; rw [chS_d (by omega) (by omega) (by rw [← show i = l.length by omega]; exact hf)]; done)
                         ·
                          try simp only [decide_eq_true_eq, decide_eq_false_iff_not, decide_eq_decide, Bool.not_eq_true', Bool.not_eq_false', beq_iff_eq, beq_eq_false_iff_ne, ne_eq, Bool.and_eq_true, Bool.and_eq_false_iff, decide_not] at h25
                          refine at_skip rfl ?_
                          refine blk_n ?_
                          refine blk_n ?_
                          refine then_n ?_
                          refine rg rfl ?_
                          refine Rq ?_
                          refine Rq ?_
                          have tr : ∀ a b c d e f g h i j k m n o p q : AV, let l := lc_rcheck_ok a b c d e f g h i j k m n o; trim ((18,q)::(126,p)::l) l = [(0,a),(1,b),(4,c),(6,d),(12,e),(15,f),(16,g),(17,h),(18,q),(19,j),(22,k),(50,m),(89,n),(98,o)] := by intros; rfl
                          refine R_nil (tr ..) ?_; clear tr
                          refine then_n ?_
                          exact ⟨_, _, ⟨i + 1, X ++ [some (plC (gp l i))], _, _, _, _, _, _, _, rfl, rfl, by (simp; rfl), by omega, by (exact ferr_ok hf (plE_0 (by omega) (by omega) (by omega) (fun hh => by have hh1 := hh.1; have hh2 := hh.2; first | omega | (simp_all; done) | (simp_all; omega))))⟩, by rfl, by omega⟩
                    ·
                     try simp only [decide_eq_true_eq, decide_eq_false_iff_not, decide_eq_decide, Bool.not_eq_true', Bool.not_eq_false', beq_iff_eq, beq_eq_false_iff_ne, ne_eq, Bool.and_eq_true, Bool.and_eq_false_iff, decide_not] at h20
                     refine Rn ?_
                     refine Rn ?_
                     refine Rn ?_
                     refine Rn ?_
                     refine Ru ?_
                     refine Ru ?_
                     refine Ru ?_
                     refine Rn ?_
                     refine Rn ?_
                     refine Ru ?_
                     refine Ru ?_
                     refine Ru ?_
                     refine Rn ?_
                     refine Rn ?_
                     refine Ru ?_
                     refine Ru ?_
                     refine Ru ?_
                     refine Rn ?_
                     refine Rn ?_
                     refine Ru ?_
                     refine Ru ?_
                     refine Ru ?_
                     refine Rn ?_
                     refine Rq ?_
                     refine Rq ?_
                     have tr : ∀ a b c d e f g h i j k m n o p q r s t u v w x y z A B C D E F G H I J K L M N O P Q : AV, let l := lc_rcheck_ok a b c d e f g h i j k m n o; trim ((98,Q)::(125,P)::(124,O)::(123,N)::(122,M)::(121,L)::(120,K)::(119,J)::(118,I)::(117,H)::(116,G)::(115,F)::(114,E)::(113,D)::(112,C)::(111,B)::(110,A)::(109,z)::(108,y)::(107,x)::(106,w)::(105,v)::(104,u)::(103,t)::(102,s)::(101,r)::(100,q)::(99,p)::l) l = [(0,a),(1,b),(4,c),(6,d),(12,e),(15,f),(16,g),(17,h),(18,i),(19,j),(22,k),(50,m),(89,n),(98,Q)] := by intros; rfl
                     refine R_nil (tr ..) ?_; clear tr
                     refine then_n ?_
                     refine cdf ?_
                     refine at_skip rfl ?_
                     refine blk_n ?_
                     refine blk_n ?_
                     refine then_n ?_
                     refine rg rfl ?_
                     refine Rq ?_
                     refine Rq ?_
                     have tr : ∀ a b c d e f g h i j k m n o p q : AV, let l := lc_rcheck_ok a b c d e f g h i j k m n o; trim ((18,q)::(126,p)::l) l = [(0,a),(1,b),(4,c),(6,d),(12,e),(15,f),(16,g),(17,h),(18,q),(19,j),(22,k),(50,m),(89,n),(98,o)] := by intros; rfl
                     refine R_nil (tr ..) ?_; clear tr
                     refine then_n ?_
                     exact ⟨_, _, ⟨i + 1, X ++ [some (plC (gp l i))], _, _, _, _, _, _, _, rfl, rfl, by (simp; rfl), by omega, by (exact ferr_ok hf (plE_0 (by omega) (by omega) (by omega) (fun hh => by have hh1 := hh.1; have hh2 := hh.2; first | omega | (simp_all; done) | (simp_all; omega))))⟩, by rfl, by omega⟩
    ·
     try simp only [decide_eq_true_eq, decide_eq_false_iff_not, decide_eq_decide, Bool.not_eq_true', Bool.not_eq_false', beq_iff_eq, beq_eq_false_iff_ne, ne_eq, Bool.and_eq_true, Bool.and_eq_false_iff, decide_not] at h4
     refine at_exit rfl ?_
     refine then_x ?_
     refine then_x ?_
     refine blk_x ?_
     refine then_n ?_
     refine at_seq rfl ?_
     refine rg rfl ?_
     refine Rq ?_
     have tr : ∀ a b c d e f g h i j k m n o p : AV, let l := lc_rcheck_ok a b c d e f g h i j k m n o; trim ((4,p)::l) l = [(0,a),(1,b),(4,p),(6,d),(12,e),(15,f),(16,g),(17,h),(18,i),(19,j),(22,k),(50,m),(89,n),(98,o)] := by intros; rfl
     refine R_nil (tr ..) ?_; clear tr
     refine then_n ?_
     refine at_ret rfl ?_
     first | (refine fpure ?_; refine ⟨?_, rfl⟩; rw [chS_a (by omega)]; done) | (refine fpure ?_; refine ⟨?_, rfl⟩; rw [chS_b (by omega) (by omega)]; done) | (refine fpure ?_; refine ⟨?_, rfl⟩; rw [chS_c (u := i) (by omega) (by omega) (by omega) hf (e := 1) (plE_1 (by omega)) (by decide)]; done) | (refine fpure ?_; refine ⟨?_, rfl⟩; rw [chS_c (u := i) (by omega) (by omega) (by omega) hf (e := 2) (plE_2 (by omega) (by omega)) (by decide)]; done) | (refine fpure ?_; refine ⟨?_, rfl⟩; rw [chS_c (u := i) (by omega) (by omega) (by omega) hf (e := 3) (plE_3 (by omega) (by omega) (by omega)) (by decide)]; done) | (refine fpure ?_; refine ⟨?_, rfl⟩; rw [chS_c (u := i) (by omega) (by omega) (by omega) hf (e := 11) (plE_4 (by omega) (by omega) (by omega) ⟨by assumption, by omega⟩) (by decide)]; done) | (refine fpure ?_; refine ⟨?_, rfl⟩; rw [chS_d (by omega) (by omega) (by rw [← show i = l.length by omega]; exact hf)]; done)

end Go.Proofs.Ytfnapmdedmbdbaa
end
