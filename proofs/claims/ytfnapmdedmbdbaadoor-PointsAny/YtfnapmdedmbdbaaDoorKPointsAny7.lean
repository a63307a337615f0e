/-
  Texts of PointsAny, part 8 of 13. Walks of chapter 51. The steps are written by program (walk.py).
-/
import Derived.Test.YtfnapmdedmbdbaaDoorKPointsAny6
import Derived.Test.YtfnapmdedmbdbaaDoorKPointsAny5
import Derived.Shelf.SlSortCmp.WholeK
import Derived.Test.YtfnapmdedmbdbaaDoorProg
import Derived.KernelRfl
import Derived.Laws.Externs
import Derived.Test.YtfnapmdedmbdbaaDoorKPointsAny3
section
set_option linter.unusedSimpArgs false
set_option linter.unusedVariables false
set_option maxHeartbeats 1000000
set_option maxRecDepth 20000
namespace Go.Proofs.YtfnapmdedmbdbaaDoor.C
open Go Go.Am
abbrev lc_crate_ok (a b c d e f g h i j k m : AV) : Env := [(0,a),(1,b),(2,c),(3,d),(4,e),(5,f),(6,g),(7,h),(8,i),(9,j),(10,k),(28,m)]
theorem crate_ok (lim : Nat) (H : Heap) (y z : St) : ACall sig lim 11 [stA y, stA z] H fun r H' => r = AV.i (crS y z) ∧ H' = H := by
 have ry := rt_rng y
 have rz := rt_rng z
 refine ACall_pure (fa := fa11) rfl rfl rfl rfl ?_
 have tr : ∀ a0 a1 : AV, env0 fa11.keep [a0, a1] = [(0,a0),(1,a1),(2,.any),(3,.any),(4,.any),(5,.any),(6,.any),(7,.any),(8,.any),(9,.any),(10,.any),(28,.any)] := fun a0 a1 => rfl
 refine W_to (tr _ _) ?_; clear tr
 refine at_seq rfl ?_
 refine rg rfl ?_
 refine R_box rfl (by simp (disch := first | omega | (simp only [List.length_map, List.length_append, List.length_set, List.length_cons, List.length_nil]; omega)) only [go_sem, ↓reduceIte, Nat.reduceEqDiff, reduceCtorEq] <;> rfl) rfl rfl ?_
 refine R_box rfl (by simp (disch := first | omega | (simp only [List.length_map, List.length_append, List.length_set, List.length_cons, List.length_nil]; omega)) only [go_sem, ↓reduceIte, Nat.reduceEqDiff, reduceCtorEq] <;> rfl) rfl rfl ?_
 refine Rq ?_
 have tr : ∀ a b c d e f g h i j k m n o p : AV, let l := lc_crate_ok a b c d e f g h i j k m; trim ((4,p)::(3,o)::(2,n)::l) l = [(0,a),(1,b),(2,n),(3,o),(4,p),(5,f),(6,g),(7,h),(8,i),(9,j),(10,k),(28,m)] := by intros; rfl
 refine R_nil (tr ..) ?_; clear tr
 refine then_n ?_
 refine at_seq rfl ?_
 refine rg rfl ?_
 refine Rq ?_
 refine Rcall ?_
 refine ACall_eq (rate_ok _ _ _) ?_
 refine Rq ?_
 refine Rq ?_
 refine Rq ?_
 refine Rq ?_
 refine Rq ?_
 refine Rq ?_
 refine Rq ?_
 have tr : ∀ a b c d e f g h i j k m n o p q r s t u v : AV, let l := lc_crate_ok a b c d e f g h i j k m; trim ((7,v)::(6,u)::(5,t)::(16,s)::(15,r)::(14,q)::(11,p)::(13,o)::(12,n)::l) l = [(0,a),(1,b),(2,c),(3,d),(4,e),(5,t),(6,u),(7,v),(8,i),(9,j),(10,k),(28,m)] := by intros; rfl
 refine R_nil (tr ..) ?_; clear tr
 refine then_n ?_
 refine at_seq rfl ?_
 refine rg rfl ?_
 refine Rq ?_
 refine Rcall ?_
 refine ACall_eq (rate_ok _ _ _) ?_
 refine Rq ?_
 refine Rq ?_
 refine Rq ?_
 refine Rq ?_
 refine Rq ?_
 refine Rq ?_
 refine Rq ?_
 have tr : ∀ a b c d e f g h i j k m n o p q r s t u v : AV, let l := lc_crate_ok a b c d e f g h i j k m; trim ((10,v)::(9,u)::(8,t)::(22,s)::(21,r)::(20,q)::(17,p)::(19,o)::(18,n)::l) l = [(0,a),(1,b),(2,c),(3,d),(4,e),(5,f),(6,g),(7,h),(8,t),(9,u),(10,v),(28,m)] := by intros; rfl
 refine R_nil (tr ..) ?_; clear tr
 refine then_n ?_
 refine at_seq rfl ?_
 refine at_seq rfl ?_
 refine rg rfl ?_
 refine Rq ?_
 refine Rq ?_
 refine Rq ?_
 refine Rp_split (fun h1 => ?_) (fun h1 => ?_)
 ·
  try simp only [decide_eq_true_eq, decide_eq_false_iff_not, decide_eq_decide, Bool.not_eq_true', Bool.not_eq_false', beq_iff_eq, beq_eq_false_iff_ne, ne_eq, Bool.and_eq_true, Bool.and_eq_false_iff, decide_not] at h1
  refine Rn ?_
  refine Rn ?_
  refine Rq ?_
  have tr : ∀ a b c d e f g h i j k m n o p q r s : AV, let l := lc_crate_ok a b c d e f g h i j k m; trim ((28,s)::(27,r)::(26,q)::(25,p)::(24,o)::(23,n)::l) l = [(0,a),(1,b),(2,c),(3,d),(4,e),(5,f),(6,g),(7,h),(8,i),(9,j),(10,k),(28,s)] := by intros; rfl
  refine R_nil (tr ..) ?_; clear tr
  refine then_n ?_
  refine cdt ?_
  refine at_seq rfl ?_
  refine rg rfl ?_
  refine Rq ?_
  have tr : ∀ a b c d e f g h i j k m n : AV, let l := lc_crate_ok a b c d e f g h i j k m; trim ((4,n)::l) l = [(0,a),(1,b),(2,c),(3,d),(4,n),(5,f),(6,g),(7,h),(8,i),(9,j),(10,k),(28,m)] := by intros; rfl
  refine R_nil (tr ..) ?_; clear tr
  refine then_n ?_
  refine at_ret rfl ?_
  refine then_r ?_
  first | (refine fpure ?_; refine ⟨?_, rfl⟩; rw [crS, if_neg (fun h => absurd h.1 (by assumption))] <;> rfl; done) | (refine fpure ?_; refine ⟨?_, rfl⟩; rw [crS, if_neg (fun h => absurd h.2 (by assumption))] <;> rfl; done) | (refine fpure ?_; refine ⟨?_, rfl⟩; rw [crS, if_pos ⟨by assumption, by assumption⟩, rtN_y (by assumption), rtD_y (by assumption), rtN_y (by assumption), rtD_y (by assumption)] <;> rfl; done)
 ·
  try simp only [decide_eq_true_eq, decide_eq_false_iff_not, decide_eq_decide, Bool.not_eq_true', Bool.not_eq_false', beq_iff_eq, beq_eq_false_iff_ne, ne_eq, Bool.and_eq_true, Bool.and_eq_false_iff, decide_not] at h1
  refine Ry ?_
  refine Rq ?_
  refine Ry ?_
  refine Rq ?_
  refine Rq ?_
  have tr : ∀ a b c d e f g h i j k m n o p q r s : AV, let l := lc_crate_ok a b c d e f g h i j k m; trim ((28,s)::(27,r)::(26,q)::(25,p)::(24,o)::(23,n)::l) l = [(0,a),(1,b),(2,c),(3,d),(4,e),(5,f),(6,g),(7,h),(8,i),(9,j),(10,k),(28,s)] := by intros; rfl
  refine R_nil (tr ..) ?_; clear tr
  refine then_n ?_
  refine cdd (fun h2 => ?_) (fun h2 => ?_)
  ·
   try simp only [decide_eq_true_eq, decide_eq_false_iff_not, decide_eq_decide, Bool.not_eq_true', Bool.not_eq_false', beq_iff_eq, beq_eq_false_iff_ne, ne_eq, Bool.and_eq_true, Bool.and_eq_false_iff, decide_not] at h2
   refine at_seq rfl ?_
   refine rg rfl ?_
   refine Rq ?_
   have tr : ∀ a b c d e f g h i j k m n : AV, let l := lc_crate_ok a b c d e f g h i j k m; trim ((4,n)::l) l = [(0,a),(1,b),(2,c),(3,d),(4,n),(5,f),(6,g),(7,h),(8,i),(9,j),(10,k),(28,m)] := by intros; rfl
   refine R_nil (tr ..) ?_; clear tr
   refine then_n ?_
   refine at_ret rfl ?_
   refine then_r ?_
   first | (refine fpure ?_; refine ⟨?_, rfl⟩; rw [crS, if_neg (fun h => absurd h.1 (by assumption))] <;> rfl; done) | (refine fpure ?_; refine ⟨?_, rfl⟩; rw [crS, if_neg (fun h => absurd h.2 (by assumption))] <;> rfl; done) | (refine fpure ?_; refine ⟨?_, rfl⟩; rw [crS, if_pos ⟨by assumption, by assumption⟩, rtN_y (by assumption), rtD_y (by assumption), rtN_y (by assumption), rtD_y (by assumption)] <;> rfl; done)
  ·
   try simp only [decide_eq_true_eq, decide_eq_false_iff_not, decide_eq_decide, Bool.not_eq_true', Bool.not_eq_false', beq_iff_eq, beq_eq_false_iff_ne, ne_eq, Bool.and_eq_true, Bool.and_eq_false_iff, decide_not] at h2
   refine at_skip rfl ?_
   refine then_n ?_
   refine at_seq rfl ?_
   refine rg rfl ?_
   refine Rq ?_
   refine Rq ?_
   refine Rcall ?_
   refine ACall_eq (mul_ok _ _ _ (by omega) _ (by omega)) ?_
   refine Rq ?_
   refine Rq ?_
   refine Rcall ?_
   refine ACall_eq (mul_ok _ _ _ (by omega) _ (by omega)) ?_
   refine Rcall ?_
   refine ACall_eq (cmp_ok _ _ (rtN y * rtD z) (ab_fit (by omega) (by omega)) (rtN z * rtD y) (ab_fit (by omega) (by omega))) ?_
   refine Rq ?_
   have tr : ∀ a b c d e f g h i j k m n o p q r s t u : AV, let l := lc_crate_ok a b c d e f g h i j k m; trim ((4,u)::(35,t)::(34,s)::(33,r)::(32,q)::(31,p)::(30,o)::(29,n)::l) l = [(0,a),(1,b),(2,c),(3,d),(4,u),(5,f),(6,g),(7,h),(8,i),(9,j),(10,k),(28,m)] := by intros; rfl
   refine R_nil (tr ..) ?_; clear tr
   refine then_n ?_
   refine at_ret rfl ?_
   first | (refine fpure ?_; refine ⟨?_, rfl⟩; rw [crS, if_neg (fun h => absurd h.1 (by assumption))] <;> rfl; done) | (refine fpure ?_; refine ⟨?_, rfl⟩; rw [crS, if_neg (fun h => absurd h.2 (by assumption))] <;> rfl; done) | (refine fpure ?_; refine ⟨?_, rfl⟩; rw [crS, if_pos ⟨by assumption, by assumption⟩, rtN_y (by assumption), rtD_y (by assumption), rtN_y (by assumption), rtD_y (by assumption)] <;> rfl; done)

abbrev lc_comp_ok (a b c d e f g h i j : AV) : Env := [(0,a),(1,b),(2,c),(3,d),(4,e),(5,f),(6,g),(18,h),(34,i),(41,j)]
theorem comp_ok (lim : Nat) (H : Heap) (y z : St) : ACall sig lim 13 [stA y, stA z] H fun r H' => r = AV.i (cmS y z) ∧ H' = H := by
 have hc := crS_rng y z
 refine ACall_pure (fa := fa13) rfl rfl rfl rfl ?_
 have tr : ∀ a0 a1 : AV, env0 fa13.keep [a0, a1] = [(0,a0),(1,a1),(2,.any),(3,.any),(4,.any),(5,.any),(6,.any),(18,.any),(34,.any),(41,.any)] := fun a0 a1 => rfl
 refine W_to (tr _ _) ?_; clear tr
 refine at_seq rfl ?_
 refine rg rfl ?_
 refine R_box rfl (by simp (disch := first | omega | (simp only [List.length_map, List.length_append, List.length_set, List.length_cons, List.length_nil]; omega)) only [go_sem, ↓reduceIte, Nat.reduceEqDiff, reduceCtorEq] <;> rfl) rfl rfl ?_
 refine R_box rfl (by simp (disch := first | omega | (simp only [List.length_map, List.length_append, List.length_set, List.length_cons, List.length_nil]; omega)) only [go_sem, ↓reduceIte, Nat.reduceEqDiff, reduceCtorEq] <;> rfl) rfl rfl ?_
 refine Rq ?_
 have tr : ∀ a b c d e f g h i j k m n : AV, let l := lc_comp_ok a b c d e f g h i j; trim ((4,n)::(3,m)::(2,k)::l) l = [(0,a),(1,b),(2,k),(3,m),(4,n),(5,f),(6,g),(18,h),(34,i),(41,j)] := by intros; rfl
 refine R_nil (tr ..) ?_; clear tr
 refine then_n ?_
 refine at_seq rfl ?_
 refine at_block rfl ?_
 refine at_seq rfl ?_
 refine rg rfl ?_
 refine Rq ?_
 refine Rq ?_
 refine Rq ?_
 refine Rq ?_
 refine Rq ?_
 refine Rq ?_
 have tr : ∀ a b c d e f g h i j k m n o p q : AV, let l := lc_comp_ok a b c d e f g h i j; trim ((6,q)::(11,p)::(10,o)::(9,n)::(8,m)::(7,k)::l) l = [(0,a),(1,b),(2,c),(3,d),(4,e),(5,f),(6,q),(18,h),(34,i),(41,j)] := by intros; rfl
 refine R_nil (tr ..) ?_; clear tr
 refine then_n ?_
 refine cdd (fun h1 => ?_) (fun h1 => ?_)
 ·
  try simp only [decide_eq_true_eq, decide_eq_false_iff_not, decide_eq_decide, Bool.not_eq_true', Bool.not_eq_false', beq_iff_eq, beq_eq_false_iff_ne, ne_eq, Bool.and_eq_true, Bool.and_eq_false_iff, decide_not] at h1
  refine at_seq rfl ?_
  refine rg rfl ?_
  refine Rq ?_
  refine Rq ?_
  refine Rq ?_
  refine Rq ?_
  refine Rq ?_
  refine Rcall ?_
  refine ACall_eq (before_ok _ _ _) ?_
  refine Rq ?_
  have tr : ∀ a b c d e f g h i j k m n o p q r : AV, let l := lc_comp_ok a b c d e f g h i j; trim ((4,r)::(17,q)::(16,p)::(15,o)::(14,n)::(13,m)::(12,k)::l) l = [(0,a),(1,b),(2,c),(3,d),(4,r),(5,f),(6,g),(18,h),(34,i),(41,j)] := by intros; rfl
  refine R_nil (tr ..) ?_; clear tr
  refine then_n ?_
  refine at_ret rfl ?_
  refine blk_r ?_
  refine then_r ?_
  first | (refine fpure ?_; refine ⟨?_, rfl⟩; rw [cm_pt (by assumption)] <;> rfl; done) | (refine fpure ?_; refine ⟨?_, rfl⟩; rw [cm_wn (by assumption) (by assumption)] <;> rfl; done) | (refine fpure ?_; refine ⟨?_, rfl⟩; rw [cm_cr (by assumption) (by assumption) (by assumption)] <;> rfl; done) | (refine fpure ?_; refine ⟨?_, rfl⟩; rw [cm_cr0 (by assumption) (by assumption) (by assumption)] <;> rfl; done) | (refine fpure ?_; refine ⟨?_, rfl⟩; rw [cm_cr' (by assumption) (by assumption) (by assumption)] <;> rfl; done) | (refine fpure ?_; refine ⟨?_, rfl⟩; rw [cm_tm (by assumption) (by assumption) (by assumption) (by assumption)] <;> rfl; done) | (refine fpure ?_; refine ⟨?_, rfl⟩; rw [cm_0 (by assumption) (by assumption) (by assumption) (by assumption)] <;> rfl; done)
 ·
  try simp only [decide_eq_true_eq, decide_eq_false_iff_not, decide_eq_decide, Bool.not_eq_true', Bool.not_eq_false', beq_iff_eq, beq_eq_false_iff_ne, ne_eq, Bool.and_eq_true, Bool.and_eq_false_iff, decide_not] at h1
  refine at_seq rfl ?_
  refine rg rfl ?_
  refine Rq ?_
  refine Rq ?_
  refine Rq ?_
  refine Rq ?_
  refine Rq ?_
  refine Rq ?_
  have tr : ∀ a b c d e f g h i j k m n o p q : AV, let l := lc_comp_ok a b c d e f g h i j; trim ((18,q)::(23,p)::(22,o)::(21,n)::(20,m)::(19,k)::l) l = [(0,a),(1,b),(2,c),(3,d),(4,e),(5,f),(6,g),(18,q),(34,i),(41,j)] := by intros; rfl
  refine R_nil (tr ..) ?_; clear tr
  refine then_n ?_
  refine cdd (fun h2 => ?_) (fun h2 => ?_)
  ·
   try simp only [decide_eq_true_eq, decide_eq_false_iff_not, decide_eq_decide, Bool.not_eq_true', Bool.not_eq_false', beq_iff_eq, beq_eq_false_iff_ne, ne_eq, Bool.and_eq_true, Bool.and_eq_false_iff, decide_not] at h2
   refine at_seq rfl ?_
   refine rg rfl ?_
   refine Rq ?_
   refine Rq ?_
   refine Rq ?_
   refine Rq ?_
   refine Rq ?_
   refine Rcall ?_
   refine ACall_eq (before_ok _ _ _) ?_
   refine Rq ?_
   have tr : ∀ a b c d e f g h i j k m n o p q r : AV, let l := lc_comp_ok a b c d e f g h i j; trim ((4,r)::(29,q)::(28,p)::(27,o)::(26,n)::(25,m)::(24,k)::l) l = [(0,a),(1,b),(2,c),(3,d),(4,r),(5,f),(6,g),(18,h),(34,i),(41,j)] := by intros; rfl
   refine R_nil (tr ..) ?_; clear tr
   refine then_n ?_
   refine at_ret rfl ?_
   refine blk_r ?_
   refine then_r ?_
   first | (refine fpure ?_; refine ⟨?_, rfl⟩; rw [cm_pt (by assumption)] <;> rfl; done) | (refine fpure ?_; refine ⟨?_, rfl⟩; rw [cm_wn (by assumption) (by assumption)] <;> rfl; done) | (refine fpure ?_; refine ⟨?_, rfl⟩; rw [cm_cr (by assumption) (by assumption) (by assumption)] <;> rfl; done) | (refine fpure ?_; refine ⟨?_, rfl⟩; rw [cm_cr0 (by assumption) (by assumption) (by assumption)] <;> rfl; done) | (refine fpure ?_; refine ⟨?_, rfl⟩; rw [cm_cr' (by assumption) (by assumption) (by assumption)] <;> rfl; done) | (refine fpure ?_; refine ⟨?_, rfl⟩; rw [cm_tm (by assumption) (by assumption) (by assumption) (by assumption)] <;> rfl; done) | (refine fpure ?_; refine ⟨?_, rfl⟩; rw [cm_0 (by assumption) (by assumption) (by assumption) (by assumption)] <;> rfl; done)
  ·
   try simp only [decide_eq_true_eq, decide_eq_false_iff_not, decide_eq_decide, Bool.not_eq_true', Bool.not_eq_false', beq_iff_eq, beq_eq_false_iff_ne, ne_eq, Bool.and_eq_true, Bool.and_eq_false_iff, decide_not] at h2
   refine at_skip rfl ?_
   refine blk_n ?_
   refine then_n ?_
   refine at_seq rfl ?_
   refine at_seq rfl ?_
   refine rg rfl ?_
   refine Rq ?_
   refine Rq ?_
   refine Rcall ?_
   refine ACall_eq (crate_ok _ _ y z) ?_
   refine Rq ?_
   have tr : ∀ a b c d e f g h i j k m n o : AV, let l := lc_comp_ok a b c d e f g h i j; trim ((5,o)::(32,n)::(31,m)::(30,k)::l) l = [(0,a),(1,b),(2,c),(3,d),(4,e),(5,o),(6,g),(18,h),(34,i),(41,j)] := by intros; rfl
   refine R_nil (tr ..) ?_; clear tr
   refine then_n ?_
   refine at_seq rfl ?_
   refine rg rfl ?_
   refine Rq ?_
   refine Rq ?_
   have tr : ∀ a b c d e f g h i j k m : AV, let l := lc_comp_ok a b c d e f g h i j; trim ((34,m)::(33,k)::l) l = [(0,a),(1,b),(2,c),(3,d),(4,e),(5,f),(6,g),(18,h),(34,m),(41,j)] := by intros; rfl
   refine R_nil (tr ..) ?_; clear tr
   refine then_n ?_
   refine cdd (fun h3 => ?_) (fun h3 => ?_)
   ·
    try simp only [decide_eq_true_eq, decide_eq_false_iff_not, decide_eq_decide, Bool.not_eq_true', Bool.not_eq_false', beq_iff_eq, beq_eq_false_iff_ne, ne_eq, Bool.and_eq_true, Bool.and_eq_false_iff, decide_not] at h3
    refine at_seq rfl ?_
    refine rg rfl ?_
    refine Rq ?_
    refine Rq ?_
    refine Rq ?_
    have tr : ∀ a b c d e f g h i j k m n : AV, let l := lc_comp_ok a b c d e f g h i j; trim ((4,n)::(36,m)::(35,k)::l) l = [(0,a),(1,b),(2,c),(3,d),(4,n),(5,f),(6,g),(18,h),(34,i),(41,j)] := by intros; rfl
    refine R_nil (tr ..) ?_; clear tr
    refine then_n ?_
    refine at_ret rfl ?_
    refine then_r ?_
    first | (refine fpure ?_; refine ⟨?_, rfl⟩; rw [cm_pt (by assumption)] <;> rfl; done) | (refine fpure ?_; refine ⟨?_, rfl⟩; rw [cm_wn (by assumption) (by assumption)] <;> rfl; done) | (refine fpure ?_; refine ⟨?_, rfl⟩; rw [cm_cr (by assumption) (by assumption) (by assumption)] <;> rfl; done) | (refine fpure ?_; refine ⟨?_, rfl⟩; rw [cm_cr0 (by assumption) (by assumption) (by assumption)] <;> rfl; done) | (refine fpure ?_; refine ⟨?_, rfl⟩; rw [cm_cr' (by assumption) (by assumption) (by assumption)] <;> rfl; done) | (refine fpure ?_; refine ⟨?_, rfl⟩; rw [cm_tm (by assumption) (by assumption) (by assumption) (by assumption)] <;> rfl; done) | (refine fpure ?_; refine ⟨?_, rfl⟩; rw [cm_0 (by assumption) (by assumption) (by assumption) (by assumption)] <;> rfl; done)
   ·
    try simp only [decide_eq_true_eq, decide_eq_false_iff_not, decide_eq_decide, Bool.not_eq_true', Bool.not_eq_false', beq_iff_eq, beq_eq_false_iff_ne, ne_eq, Bool.and_eq_true, Bool.and_eq_false_iff, decide_not] at h3
    refine at_skip rfl ?_
    refine then_n ?_
    refine at_seq rfl ?_
    refine at_seq rfl ?_
    refine rg rfl ?_
    refine Rq ?_
    refine Rq ?_
    refine Rq ?_
    refine Rq ?_
    refine Rq ?_
    have tr : ∀ a b c d e f g h i j k m n o p : AV, let l := lc_comp_ok a b c d e f g h i j; trim ((41,p)::(40,o)::(39,n)::(38,m)::(37,k)::l) l = [(0,a),(1,b),(2,c),(3,d),(4,e),(5,f),(6,g),(18,h),(34,i),(41,p)] := by intros; rfl
    refine R_nil (tr ..) ?_; clear tr
    refine then_n ?_
    refine cdd (fun h4 => ?_) (fun h4 => ?_)
    ·
     try simp only [decide_eq_true_eq, decide_eq_false_iff_not, decide_eq_decide, Bool.not_eq_true', Bool.not_eq_false', beq_iff_eq, beq_eq_false_iff_ne, ne_eq, Bool.and_eq_true, Bool.and_eq_false_iff, decide_not] at h4
     refine at_seq rfl ?_
     refine rg rfl ?_
     refine Rq ?_
     refine Rq ?_
     refine Rq ?_
     refine Rq ?_
     refine Rq ?_
     refine Rcall ?_
     refine ACall_eq (before_ok _ _ _) ?_
     refine Rq ?_
     have tr : ∀ a b c d e f g h i j k m n o p q r : AV, let l := lc_comp_ok a b c d e f g h i j; trim ((4,r)::(47,q)::(46,p)::(45,o)::(44,n)::(43,m)::(42,k)::l) l = [(0,a),(1,b),(2,c),(3,d),(4,r),(5,f),(6,g),(18,h),(34,i),(41,j)] := by intros; rfl
     refine R_nil (tr ..) ?_; clear tr
     refine then_n ?_
     refine at_ret rfl ?_
     refine then_r ?_
     first | (refine fpure ?_; refine ⟨?_, rfl⟩; rw [cm_pt (by assumption)] <;> rfl; done) | (refine fpure ?_; refine ⟨?_, rfl⟩; rw [cm_wn (by assumption) (by assumption)] <;> rfl; done) | (refine fpure ?_; refine ⟨?_, rfl⟩; rw [cm_cr (by assumption) (by assumption) (by assumption)] <;> rfl; done) | (refine fpure ?_; refine ⟨?_, rfl⟩; rw [cm_cr0 (by assumption) (by assumption) (by assumption)] <;> rfl; done) | (refine fpure ?_; refine ⟨?_, rfl⟩; rw [cm_cr' (by assumption) (by assumption) (by assumption)] <;> rfl; done) | (refine fpure ?_; refine ⟨?_, rfl⟩; rw [cm_tm (by assumption) (by assumption) (by assumption) (by assumption)] <;> rfl; done) | (refine fpure ?_; refine ⟨?_, rfl⟩; rw [cm_0 (by assumption) (by assumption) (by assumption) (by assumption)] <;> rfl; done)
    ·
     try simp only [decide_eq_true_eq, decide_eq_false_iff_not, decide_eq_decide, Bool.not_eq_true', Bool.not_eq_false', beq_iff_eq, beq_eq_false_iff_ne, ne_eq, Bool.and_eq_true, Bool.and_eq_false_iff, decide_not] at h4
     refine at_skip rfl ?_
     refine then_n ?_
     refine at_seq rfl ?_
     refine rg rfl ?_
     refine Rq ?_
     have tr : ∀ a b c d e f g h i j k : AV, let l := lc_comp_ok a b c d e f g h i j; trim ((4,k)::l) l = [(0,a),(1,b),(2,c),(3,d),(4,k),(5,f),(6,g),(18,h),(34,i),(41,j)] := by intros; rfl
     refine R_nil (tr ..) ?_; clear tr
     refine then_n ?_
     refine at_ret rfl ?_
     first | (refine fpure ?_; refine ⟨?_, rfl⟩; rw [cm_pt (by assumption)] <;> rfl; done) | (refine fpure ?_; refine ⟨?_, rfl⟩; rw [cm_wn (by assumption) (by assumption)] <;> rfl; done) | (refine fpure ?_; refine ⟨?_, rfl⟩; rw [cm_cr (by assumption) (by assumption) (by assumption)] <;> rfl; done) | (refine fpure ?_; refine ⟨?_, rfl⟩; rw [cm_cr0 (by assumption) (by assumption) (by assumption)] <;> rfl; done) | (refine fpure ?_; refine ⟨?_, rfl⟩; rw [cm_cr' (by assumption) (by assumption) (by assumption)] <;> rfl; done) | (refine fpure ?_; refine ⟨?_, rfl⟩; rw [cm_tm (by assumption) (by assumption) (by assumption) (by assumption)] <;> rfl; done) | (refine fpure ?_; refine ⟨?_, rfl⟩; rw [cm_0 (by assumption) (by assumption) (by assumption) (by assumption)] <;> rfl; done)

end Go.Proofs.YtfnapmdedmbdbaaDoor.C
end
section
set_option linter.unusedVariables false
namespace Go.Proofs.YtfnapmdedmbdbaaDoor
open Go Go.Am Go.Sort Go.RowKit
theorem bel_grow {w w' : World} (h : Bel w.heap.size w w') : ∃ q os', w' = grow (w.drewN q) os' := by
  refine ⟨w'.drawn - w.drawn, w'.heap.extract w.heap.size w'.heap.size, ?_⟩
  have h1 := h.tape.2 trivial
  have h2 : w'.heap = w.heap ++ w'.heap.extract w.heap.size w'.heap.size := by
    apply Array.ext_getElem?
    intro k
    by_cases hk : k < w.heap.size
    · rw [h.block k hk, Array.getElem?_append_left hk]
    · rw [Array.getElem?_append_right (by omega), Array.getElem?_extract]
      have := h.size
      by_cases hk' : k < w'.heap.size
      · rw [if_pos (by omega)]
        congr 1
        omega
      · rw [if_neg (by omega), Array.getElem?_eq_none (by omega)]
  obtain ⟨hp', tp', dr', os', out'⟩ := w'
  obtain ⟨hp, tp, dr, os, out⟩ := w
  have e1 := h.os
  have e2 := h.tape.1
  have e3 := h.output
  simp only at e1 e2 e3 h1 h2
  subst e1 e2 e3
  simp only [grow, World.drewN, World.mk.injEq]
  exact ⟨h2, trivial, by omega, trivial, trivial⟩
theorem den_st {φ : Phi} {I : Nat → Prop} {w : World} (z : SO) : Den φ I w (stA z.1) (.agg (encS z).toArray) :=
  .agg _ _ rfl (fun j x y hx hy => (DL.vs (φ := φ) (I := I) (w := w) (encS z)).2 j x y hx hy)
theorem cmp_calls (y z : SO) (W : World) (hT : ∀ w1 : World, (∀ k, k < W.heap.size → w1.heap[k]? = W.heap[k]?) → Tb w1) :
    Calls Tryd.prog 13 #[.agg (encS y).toArray, .agg (encS z).toArray] W fun e w' => e = .returned (.int .i64 (cmO y z)) ∧ ∃ q os', w' = grow (W.drewN q) os' := by
  obtain ⟨n, r, H', h, hr, _⟩ := C.comp_ok 0 [] y.1 z.1
  have hD : DL [] (fun k => k < W.heap.size) W [stA y.1, stA z.1] #[.agg (encS y).toArray, .agg (encS z).toArray] := by
    refine ⟨rfl, fun j a b ha hb => ?_⟩
    match j, ha, hb with
    | 0, ha, hb => cases ha; cases hb; exact den_st y
    | 1, ha, hb => cases ha; cases hb; exact den_st z
  refine (calls_of_acall' C.sig_ok rfl h hD hT).mono ?_
  rintro e w' ⟨x, I', rfl, hx, hb⟩
  subst hr
  exact ⟨congrArg Ending.returned (den_v hx), bel_grow hb⟩
theorem cmp_lays (blk off size : Nat) (w : World) (hT : ∀ (m : Nat) (os : Array Obj) (dk : Array SO) (w1 : World), (∀ k, k < (sortWorldK encS 10 w blk off m dk os).heap.size → w1.heap[k]? = (sortWorldK encS 10 w blk off m dk os).heap[k]?) → Tb w1) : CmpLays Tryd.prog 13 #[] encS 10 cmO blk off size w :=
  fun m os dk _ x y => cmp_calls x y _ (hT m os dk)
end Go.Proofs.YtfnapmdedmbdbaaDoor
end
section
set_option linter.unusedVariables false
namespace Go.Proofs.YtfnapmdedmbdbaaDoor
open Go Go.Am Go.Sort Go.RowKit
/-- Integers out of cells, standings out of integers. -/
def ai : AV → Option Int
  | .v (.int .i64 n) => some n
  | _ => none
def ais : List AV → Option (List Int)
  | [] => some []
  | x :: r => match ai x, ais r with
    | some a, some l => some (a :: l)
    | _, _ => none
def rdL : List Int → Option (List SO)
  | [] => some []
  | a :: b :: c :: d :: e :: f :: g :: h :: i :: j :: r => if hk : okS ⟨a, b, c, d, e, f, g, h, i, j⟩ then (rdL r).map (⟨_, hk⟩ :: ·) else none
  | _ => none
def flatV (ps : List SO) : List Value := (ps.map encS).flatten
def flatS (ps : List SO) : List AV := (ps.map fun z => stL z.1).flatten
theorem ai_eq {x : AV} {n : Int} (h : ai x = some n) : x = AV.i n := by
  unfold ai at h
  split at h
  · cases h; rfl
  · cases h
theorem ais_eq : ∀ (l : List AV) (is : List Int), ais l = some is → l = is.map fun n => AV.i n
  | [], is, h => by cases h; rfl
  | x :: r, is, h => by
    unfold ais at h
    split at h
    · rename_i a l h1 h2
      cases h
      rw [ai_eq h1, ais_eq r l h2]
      rfl
    · cases h
theorem ais_map : ∀ is : List Int, ais (is.map fun n => AV.i n) = some is
  | [] => rfl
  | n :: r => by show (match ai (AV.i n), ais (r.map fun n => AV.i n) with | some a, some l => some (a :: l) | _, _ => none) = _; rw [ais_map r]; rfl
def intS (ps : List SO) : List Int := (ps.map fun z => [z.1.tm, z.1.pl, z.1.wn, z.1.sh, z.1.ls, z.1.pt, z.1.rf, z.1.bf, z.1.ra, z.1.ba]).flatten
theorem intS_flat : ∀ ps, (intS ps).map (fun n => AV.i n) = flatS ps
  | [] => rfl
  | z :: r => by
    have := intS_flat r
    simp only [intS, flatS, List.map_cons, List.flatten_cons, List.map_append] at this ⊢
    rw [this]
    rfl
theorem rdL_intS : ∀ ps, rdL (intS ps) = some ps
  | [] => rfl
  | z :: r => by
    have := rdL_intS r
    show (if hk : okS ⟨z.1.tm, z.1.pl, z.1.wn, z.1.sh, z.1.ls, z.1.pt, z.1.rf, z.1.bf, z.1.ra, z.1.ba⟩ then (rdL (intS r)).map (⟨_, hk⟩ :: ·) else none) = _
    rw [dif_pos z.2, this]
    rfl
theorem rdL_eq : ∀ (n : Nat) (is : List Int), is.length ≤ n → ∀ ps, rdL is = some ps → is = intS ps
  | _, [], _, ps, h => by cases h; rfl
  | 0, a :: r, hn, ps, h => by simp at hn
  | n + 1, a :: r, hn, ps, h => by
    unfold rdL at h
    split at h
    · cases h; simp_all
    · rename_i e1
      split at h
      · rename_i hk
        cases hr : rdL ‹List Int› with
        | none => rw [hr] at h; cases h
        | some qs =>
          rw [hr] at h
          cases h
          rw [e1] at hn ⊢
          have := rdL_eq n _ (by simp at hn; omega) qs hr
          rw [this]
          rfl
      · cases h
    · cases h
/-- The standings that cells hold. -/
def rdS (l : List AV) : Option (List SO) := (ais l).bind rdL
theorem rdS_eq {l : List AV} {ps : List SO} (h : rdS l = some ps) : l = flatS ps := by
  unfold rdS at h
  cases h1 : ais l with
  | none => rw [h1] at h; cases h
  | some is =>
    rw [h1] at h
    rw [ais_eq l is h1, rdL_eq is.length is (Nat.le_refl _) ps h, intS_flat]
theorem rdS_flat (ps : List SO) : rdS (flatS ps) = some ps := by
  unfold rdS
  rw [← intS_flat, ais_map]
  exact rdL_intS ps
theorem flatS_v : ∀ ps, flatS ps = (flatV ps).map .v
  | [] => rfl
  | z :: r => by
    have := flatS_v r
    simp only [flatS, flatV, List.map_cons, List.flatten_cons, List.map_append] at this ⊢
    rw [this]
    rfl
theorem flatV_len : ∀ ps, (flatV ps).length = ps.length * 10
  | [] => rfl
  | z :: r => by
    have := flatV_len r
    simp only [flatV, List.map_cons, List.flatten_cons, List.length_append, List.length_cons] at this ⊢
    rw [this]
    simp [encS]
    omega
theorem flatS_len (ps : List SO) : (flatS ps).length = ps.length * 10 := by rw [flatS_v, List.length_map, flatV_len]
theorem flatV_get : ∀ (ps : List SO) (j : Nat), j < ps.length * 10 → (flatV ps)[j]? = some ((encS ps[j / 10]!)[j % 10]!)
  | [], j, h => by simp at h
  | z :: r, j, h => by
    show (encS z ++ flatV r)[j]? = _
    by_cases hj : j < 10
    · rw [List.getElem?_append_left (by simp [encS]; omega), show j / 10 = 0 by omega, show j % 10 = j by omega]
      rw [List.getElem?_eq_getElem (by simp [encS]; omega)]
      show _ = some ((encS z)[j]!)
      rw [getElem!_pos (encS z) j (by simp [encS]; omega)]
    · obtain ⟨k, rfl⟩ : ∃ k, j = k + 10 := ⟨j - 10, by omega⟩
      rw [List.getElem?_append_right (by simp [encS]), show k + 10 - (encS z).length = k by simp [encS], flatV_get r k (by simp at h; omega), show (k + 10) / 10 = k / 10 + 1 by omega, show (k + 10) % 10 = k % 10 by omega]
      rfl
theorem flatK_get {ps : List SO} {d : Array SO} (hd : d.toList = ps) {j : Nat} (h : j < ps.length * 10) : (flatV ps)[j]? = some ((flatK encS 10 d)[j]!) := by
  subst hd
  rw [flatV_get _ j h, get_flatK encS 10 d j (by simpa using h)]
  have : j / 10 < d.size := by have : j < d.size * 10 := (by simpa using h); omega
  rw [getElem!_pos d.toList (j / 10) (by simpa using this), getElem!_pos d (j / 10) this]
  simp
section
variable {φ : Phi} {I : Nat → Prop} {w : World} {lim : Nat} {H : Heap}
theorem frz_none {k : Nat} {C : Array Value} {T : TypeId} (h : w.heap[k]? = some (.cells C T (0, 0))) (o : Nat) : w.frozen? ⟨k, o, none⟩ = false := by
  unfold World.frozen?
  simp [h]
theorem holds_of {L : Am.Loc} {C : Array Value} {T : TypeId} {ps : List SO} {d : Array SO} (hd : d.toList = ps) (hC : w.heap[L.k]? = some (.cells C T (0, 0))) (hO : CellsOK φ I w C L.base (flatS ps)) : HoldsK encS 10 w L.k L.base d := by
  intro j hj
  have hj' : j < ps.length * 10 := by rw [size_flatK] at hj; subst hd; simpa using hj
  refine ⟨?_, frz_none hC _⟩
  have h1 := flatK_get hd hj'
  obtain ⟨y, e1, e2⟩ := hO.2 j (.v (flatK encS 10 d)[j]!) (by rw [flatS_v, List.getElem?_map, h1]; rfl)
  have := den_v e2
  subst this
  unfold World.cell?
  simp only [hC]
  rw [if_neg (by simp), e1]
  rfl
theorem sw_other {blk off m : Nat} {dk : Array SO} {os : Array Obj} {k : Nat} (hk : k ≠ blk) (hlt : k < w.heap.size) : (sortWorldK encS 10 w blk off m dk os).heap[k]? = w.heap[k]? := by
  show ((putRowK encS 10 (Sort.ahead w m) blk off dk).heap ++ os)[k]? = _
  rw [Array.getElem?_append_left (by show k < (putRow id (Sort.ahead w m) blk off (flatK encS 10 dk)).heap.size; rw [size_putRow]; exact hlt)]
  show (w.heap.modify blk _)[k]? = _
  rw [Array.getElem?_modify, if_neg (fun h => hk h.symm)]
theorem wrote_row [Dn] {blk off m : Nat} {d : Array SO} {C : Array Value} {T : TypeId} (hC : w.heap[blk]? = some (.cells C T (0, 0))) : Wrote w (putRowK encS 10 (Sort.ahead w m) blk off d) blk (putCells id off (flatK encS 10 d) C) T where
  new := by
    show (w.heap.modify blk _)[blk]? = _
    rw [Array.getElem?_modify, if_pos rfl, hC]
    rfl
  other := fun i hi => by
    show (w.heap.modify blk _)[i]? = _
    rw [Array.getElem?_modify, if_neg (fun h => hi h.symm)]
  size := by show (w.heap.modify blk _).size = _; simp
  os := rfl
  tape := ⟨rfl, fun _ => Nat.le_add_right _ _⟩
  output := rfl
theorem put_cells {L : Am.Loc} {C : Array Value} {ps : List SO} {d : Array SO} (hd : d.toList = ps) (hs : L.base + ps.length * 10 ≤ C.size) : CellsOK φ I w (putCells id L.base (flatK encS 10 d) C) L.base (flatS ps) := by
  have hz : (flatK encS 10 d).size = ps.length * 10 := by rw [size_flatK, ← hd]; simp
  refine ⟨by rw [flatS_len]; simp [putCells]; omega, fun j x hx => ?_⟩
  have hj : j < ps.length * 10 := by
    have := (List.getElem?_eq_some_iff.1 hx).1
    rwa [flatS_len] at this
  have h1 := flatK_get hd hj
  rw [flatS_v, List.getElem?_map, h1] at hx
  cases hx
  refine ⟨_, ?_, .v _⟩
  simp only [putCells, Array.getElem?_mapIdx]
  rw [Array.getElem?_eq_getElem (by omega), Option.map_some, if_pos ⟨by omega, by omega⟩, show L.base + j - L.base = j by omega]
  rfl
theorem sorted_rel [Dn] (hR : Rel lim φ I w H) {b : Nat} {ps : List SO} (hb : hget H b = some (flatS ps)) {L : Am.Loc} (hL : φ[b]? = some (some L)) (hlim : lim ≤ b) {C : Array Value} {T : TypeId} (hC : w.heap[L.k]? = some (.cells C T (0, 0))) (hS : C.size = L.S) (hO : CellsOK φ I w C L.base (flatS ps))
    {q : Nat} {d' : Array SO} {os : Array Obj} (hd : d'.toList = sortL ps) : Rel lim φ I (sortWorldK encS 10 w L.k L.base q d' os) (hset H b (some (flatS (sortL ps)))) ∧ Ext lim φ I w φ I (sortWorldK encS 10 w L.k L.base q d' os) := by
  have hw := wrote_row (m := q) (off := L.base) (d := d') hC
  have hlen : (sortL ps).length = ps.length := (sortL_perm ps).length_eq
  have h0 := hO.1
  rw [flatS_len] at h0
  have r1 := write_sound hR hb hL hlim hw (by simp [putCells, hS]) (put_cells (φ := φ) (I := I) (w := w) hd (by rw [hlen]; exact h0))
  have e1 := Wrote.ext hR hb hL hlim hw
  have hb2 : Bel (putRowK encS 10 (Sort.ahead w q) L.k L.base d').heap.size (putRowK encS 10 (Sort.ahead w q) L.k L.base d') (sortWorldK encS 10 w L.k L.base q d' os) :=
    ⟨rfl, ⟨rfl, fun _ => Nat.le_refl _⟩, rfl, by show _ ≤ (_ ++ os).size; simp, fun j hj => by show (_ ++ os)[j]? = _; rw [Array.getElem?_append_left hj]⟩
  refine ⟨r1.down hb2, e1.trans ⟨List.prefix_refl _, fun _ h => h, fun k hk _ => hb2.block k hk, fun c M _ hM => hb2.block _ (r1.disj c M hM).2, fun c M hM => .inr ⟨c, M, hM, rfl⟩, hb2.os, hb2.tape, hb2.output, hb2.size⟩⟩
end
end Go.Proofs.YtfnapmdedmbdbaaDoor
end
section
namespace Go.Proofs
open Go.Shelf
def Tryd.sortSt_ren : Go.Shelf.Ren := ⟨fun | 6 => 38 | 15 => 59 | 14 => 58 | 28 => 79 | 29 => 80 | 20 => 71 | 21 => 72 | 22 => 73 | 23 => 74 | 24 => 75 | 25 => 76 | 26 => 77 | 27 => 78 | 46 => 90 | 47 => 91 | 48 => 92 | 49 => 93 | 50 => 94 | 57 => 101 | n => n, fun | 22 => 27 | 24 => 23 | 25 => 25 | 3 => 3 | 39 => 92 | 0 => 0 | 53 => 114 | 55 => 49 | 4 => 4 | 46 => 107 | 45 => 106 | 50 => 111 | 5 => 5 | 9 => 9 | 66 => 127 | 70 => 131 | 76 => 138 | 77 => 139 | n => n, fun | n => n⟩
theorem Tryd.sortSt : Go.Proofs.SlLaysF0.n6 Tryd.prog Tryd.sortSt_ren := {
  mixed := by kernel_rfl
  f6 := ⟨Tryd.f38.name, by decide, Tryd.func38.trans (congrArg some (by kernel_rfl))⟩
  f14 := ⟨Tryd.f58.name, by decide, Tryd.func58.trans (congrArg some (by kernel_rfl))⟩
  f15 := Tryd.func59.trans (congrArg some (by kernel_rfl))
  f20 := ⟨Tryd.f71.name, by decide, Tryd.func71.trans (congrArg some (by kernel_rfl))⟩
  f21 := ⟨Tryd.f72.name, by decide, Tryd.func72.trans (congrArg some (by kernel_rfl))⟩
  f22 := ⟨Tryd.f73.name, by decide, Tryd.func73.trans (congrArg some (by kernel_rfl))⟩
  f23 := ⟨Tryd.f74.name, by decide, Tryd.func74.trans (congrArg some (by kernel_rfl))⟩
  f24 := ⟨Tryd.f75.name, by decide, Tryd.func75.trans (congrArg some (by kernel_rfl))⟩
  f25 := ⟨Tryd.f76.name, by decide, Tryd.func76.trans (congrArg some (by kernel_rfl))⟩
  f26 := ⟨Tryd.f77.name, by decide, Tryd.func77.trans (congrArg some (by kernel_rfl))⟩
  f27 := ⟨Tryd.f78.name, by decide, Tryd.func78.trans (congrArg some (by kernel_rfl))⟩
  f28 := Tryd.func79.trans (congrArg some (by kernel_rfl))
  f29 := Tryd.func80.trans (congrArg some (by kernel_rfl))
  f46 := ⟨Tryd.f90.name, by decide, Tryd.func90.trans (congrArg some (by kernel_rfl))⟩
  f47 := Tryd.func91.trans (congrArg some (by kernel_rfl))
  f48 := Tryd.func92.trans (congrArg some (by kernel_rfl))
  f49 := ⟨Tryd.f93.name, by decide, Tryd.func93.trans (congrArg some (by kernel_rfl))⟩
  f50 := ⟨Tryd.f94.name, by decide, Tryd.func94.trans (congrArg some (by kernel_rfl))⟩
  f57 := ⟨Tryd.f101.name, by decide, Tryd.func101.trans (congrArg some (by kernel_rfl))⟩
  t0 := Tryd.underlying0
  a0 := Tryd.isAgg0
  z0 := Tryd.sizeOf0
  v0 := Tryd.zeroValue0
  t3 := Tryd.underlying3
  a3 := Tryd.isAgg3
  z3 := Tryd.sizeOf3
  v3 := Tryd.zeroValue3
  t4 := Tryd.underlying4
  a4 := Tryd.isAgg4
  z4 := Tryd.sizeOf4
  v4 := Tryd.zeroValue4
  t5 := Tryd.underlying5
  a5 := Tryd.isAgg5
  z5 := Tryd.sizeOf5
  v5 := Tryd.zeroValue5
  t9 := Tryd.underlying9
  a9 := Tryd.isAgg9
  z9 := Tryd.sizeOf9
  v9 := Tryd.zeroValue9
  t22 := Tryd.underlying27
  a22 := Tryd.isAgg27
  z22 := Tryd.sizeOf27
  v22 := Tryd.zeroValue27
  t25 := Tryd.underlying25
  a25 := Tryd.isAgg25
  z25 := Tryd.sizeOf25
  v25 := Tryd.zeroValue25
  t39 := Tryd.underlying92
  a39 := Tryd.isAgg92
  z39 := Tryd.sizeOf92
  v39 := Tryd.zeroValue92
  t45 := Tryd.underlying106
  a45 := Tryd.isAgg106
  z45 := Tryd.sizeOf106
  v45 := Tryd.zeroValue106
  t46 := Tryd.underlying107
  a46 := Tryd.isAgg107
  z46 := Tryd.sizeOf107
  v46 := Tryd.zeroValue107
  t50 := Tryd.underlying111
  a50 := Tryd.isAgg111
  z50 := Tryd.sizeOf111
  v50 := Tryd.zeroValue111
  t53 := Tryd.underlying114
  a53 := Tryd.isAgg114
  z53 := Tryd.sizeOf114
  v53 := Tryd.zeroValue114
  t55 := Tryd.underlying49
  a55 := Tryd.isAgg49
  z55 := Tryd.sizeOf49
  v55 := Tryd.zeroValue49
  t66 := Tryd.underlying127
  a66 := Tryd.isAgg127
  z66 := Tryd.sizeOf127
  v66 := Tryd.zeroValue127
  t70 := Tryd.underlying131
  a70 := Tryd.isAgg131
  z70 := Tryd.sizeOf131
  v70 := Tryd.zeroValue131
  t76 := Tryd.underlying138
  a76 := Tryd.isAgg138
  z76 := Tryd.sizeOf138
  v76 := Tryd.zeroValue138
  t77 := Tryd.underlying139
  a77 := Tryd.isAgg139
  z77 := Tryd.sizeOf139
  v77 := Tryd.zeroValue139 }
end Go.Proofs
end
section
set_option linter.unusedVariables false
namespace Go.Proofs.YtfnapmdedmbdbaaDoor
open Go Go.Am Go.RowKit Go.Sort
instance dnF : Dn := ⟨False⟩
def fmtV : List AV → Heap → Option AV
  | [.v (.int .i64 n), .v (.int .i64 k)], _ => if k = 10 ∧ -9223372036854775808 ≤ n ∧ n ≤ 9223372036854775807 then some (.v (.string ⟨(Lib.itoa n).toArray⟩)) else none
  | _, _ => none
def repV : List AV → Heap → Option AV
  | [.v (.string s), .v (.int .i64 k)], _ => if 0 ≤ k ∧ k ≤ 1000000 ∧ s.size ≤ 1000 then some (.v (.string ⟨(Lib.repeatL s.data.toList k.toNat).toArray⟩)) else none
  | _, _ => none
def cutV : List AV → Heap → Option AV
  | [.v (.string s), .v (.string p)], _ => some (.tup [.v (.string ⟨(Lib.trimPrefix s.data.toList p.data.toList).toArray⟩), .v (.bool (Lib.hasPrefix s.data.toList p.data.toList))])
  | _, _ => none
def primF : FuncId → Option (List AV → Heap → Option AV)
  | 61 => some add64V
  | 50 => some mul64V
  | 55 => some fmtV
  | 57 => some repV
  | 56 => some cutV
  | _ => none
theorem named55 : Named Tryd.prog 55 := ⟨Tryd.f55, Tryd.func55, by kernel_rfl, by kernel_rfl⟩
theorem named57 : Named Tryd.prog 57 := ⟨Tryd.f57, Tryd.func57, by kernel_rfl, by kernel_rfl⟩
theorem named56 : Named Tryd.prog 56 := ⟨Tryd.f56, Tryd.func56, by kernel_rfl, by kernel_rfl⟩
theorem below_gr (w : World) (k : Nat) (os : Array Obj) : Bel w.heap.size w (grow (w.drewN k) os) :=
  ⟨rfl, ⟨rfl, fun _ => Nat.le_add_right _ _⟩, rfl, by show w.heap.size ≤ (w.heap ++ os).size; simp, fun j hj => by show (w.heap ++ os)[j]? = _; rw [Array.getElem?_append_left hj]⟩
theorem prim_ok : ∀ f p, primF f = some p → ∀ args H r, p args H = some r → ∀ (lim : Nat) (φ : Phi) (I : Nat → Prop) (w : World) (cs : Array Value), Tb w → Rel lim φ I w H → DL φ I w args cs → CallW Tryd.prog f cs w (PurePost φ I w lim H r) := by
  intro f p h args H r hr lim φ I w cs hT hR hD
  unfold primF at h
  split at h
  · cases h
    unfold add64V at hr
    split at hr
    · rename_i x y c _
      cases three_args hD
      split at hr
      · rename_i hk
        obtain ⟨hx, hy, hc, hc1⟩ := hk
        obtain ⟨x, rfl⟩ := nat_of hx
        obtain ⟨y, rfl⟩ := nat_of hy
        obtain ⟨c, rfl⟩ := nat_of hc
        cases hr
        exact .inr ⟨_, fun w' => run61 x y c (by omega) w', _, I, rfl, den_two _ _, fun _ h => h, Bel.refl _ _, hR⟩
      · cases hr
    · cases hr
  · cases h
    unfold mul64V at hr
    split at hr
    · rename_i x y _
      cases two_args hD
      split at hr
      · rename_i hk
        obtain ⟨⟨hx, hx1⟩, hy, hy1⟩ := hk
        obtain ⟨x, rfl⟩ := nat_of hx
        obtain ⟨y, rfl⟩ := nat_of hy
        cases hr
        refine .inl ⟨named50, (Tryd.bits_Mul64 x y (by omega) (by omega) w).mono ?_⟩
        rintro e w' ⟨rfl, rfl⟩
        exact ⟨_, I, rfl, den_two _ _, fun _ h => h, Bel.refl _ _, hR⟩
      · cases hr
    · cases hr
  · cases h
    unfold fmtV at hr
    split at hr
    · rename_i n k
      cases two_args hD
      split at hr
      · rename_i hk
        obtain ⟨rfl, h0, h1⟩ := hk
        cases hr
        refine .inl ⟨named55, (Tryd.strconv_FormatInt_10 n h0 h1 w hT).mono ?_⟩
        rintro e w' ⟨rfl, k, os, rfl⟩
        exact ⟨_, I, rfl, .v _, fun _ h => h, below_gr w k os, hR.down (below_gr w k os)⟩
      · cases hr
    · cases hr
  · cases h
    unfold repV at hr
    split at hr
    · rename_i s k
      cases two_args hD
      split at hr
      · rename_i hk
        obtain ⟨h0, h1, h2⟩ := hk
        obtain ⟨k, rfl⟩ := nat_of h0
        cases hr
        refine .inl ⟨named57, (Tryd.strings_Repeat s k w (by omega) (by
          have : s.size * k ≤ 1000 * 1000000 := Nat.mul_le_mul h2 (by omega)
          omega)).mono ?_⟩
        rintro e w' ⟨rfl, hb⟩
        have hb' : Bel w.heap.size w w' := ⟨hb.os, ⟨hb.tape, fun h => False.elim h⟩, hb.output, hb.size, hb.block⟩
        exact ⟨_, I, rfl, .v _, fun _ h => h, hb', hR.down hb'⟩
      · cases hr
    · cases hr
  · cases h
    unfold cutV at hr
    split at hr
    · rename_i s p
      cases two_args hD
      cases hr
      refine .inl ⟨named56, (Tryd.strings_CutPrefix s p w).mono ?_⟩
      rintro e w' ⟨rfl, rfl⟩
      exact ⟨_, I, rfl, den_two _ _, fun _ h => h, Bel.refl _ _, hR⟩
    · cases hr
  · cases h

/-- The library's sort with points.Compare, of standings of different teams in memory of the call's own. -/
def sortV : Nat → List AV → Heap → Option (AV × Heap)
  | lim, [.own 10 b 0 n, .clo 13 []], H =>
    match hget H b with
    | some k =>
      match rdS k with
      | some ps => if lim ≤ b ∧ 1 ≤ n ∧ ps.length = n ∧ n ≤ 1000 ∧ (ps.map (·.1.tm)).Nodup then some (.tup [], hset H b (some (flatS (sortL ps)))) else none
      | none => none
    | none => none
  | _, _, _ => none
def effF : FuncId → Option (Nat → List AV → Heap → Option (AV × Heap))
  | 38 => some sortV
  | _ => none
theorem named38 : Named Tryd.prog 38 := ⟨Tryd.f38, Tryd.func38, by kernel_rfl, by kernel_rfl⟩
theorem named13 : Named Tryd.prog 13 := ⟨Tryd.f13, Tryd.func13, by kernel_rfl, by kernel_rfl⟩
theorem den_nil {φ : Phi} {I : Nat → Prop} {w : World} : Den φ I w (.tup []) (.tuple #[]) := .tup _ _ rfl (fun j x y hx _ => by simp at hx)
theorem sort_calls {lim : Nat} {φ : Phi} {I : Nat → Prop} {w : World} {H : Heap} (hR : Rel lim φ I w H) {b n : Nat} {ps : List SO} (hb : hget H b = some (flatS ps)) (hlim : lim ≤ b) (hn1 : 1 ≤ n) (hn : ps.length = n) (hn2 : n ≤ 1000) (hd : (ps.map (·.1.tm)).Nodup)
    {cs : Array Value} (hD : DL φ I w [.own 10 b 0 n, .clo 13 []] cs) : Calls Tryd.prog 38 cs w (CallPost lim φ I w (hset H b (some (flatS (sortL ps)))) (.tup [])) := by
  obtain ⟨l⟩ := cs
  have hl : l.length = 2 := by simpa using hD.1
  match l, hl, hD with
  | [x, y], _, hD =>
    have h0 := hD.2 0 _ x rfl rfl
    have h1 := hD.2 1 _ y rfl rfl
    cases h1 with
    | clo _ _ cs' hs' _ =>
      obtain rfl : cs' = #[] := by simpa using hs'
      cases h0 with
      | own0 => omega
      | own _ _ _ _ c off L hL hnc hc ho =>
        have ho2 : off = L.base ∧ off + c * 10 ≤ L.S := by rcases ho with h | h <;> omega
        obtain ⟨rfl, ho3⟩ := ho2
        rcases hR.blk b _ hb with ⟨h2, _⟩ | ⟨L', C, T, h2, hC, hS, hO⟩
        · rw [hL] at h2; cases h2
        · obtain rfl : L = L' := by rw [hL] at h2; cases h2; rfl
          have hdis := hR.disj b L hL
          have hH := holds_of (d := ps.toArray) (by simp) hC hO
          have hT : ∀ (m : Nat) (os : Array Obj) (dk : Array SO) (w1 : World), (∀ k, k < (sortWorldK encS 10 w L.k L.base m dk os).heap.size → w1.heap[k]? = (sortWorldK encS 10 w L.k L.base m dk os).heap[k]?) → Tb w1 := by
            intro m os dk w1 hw1
            refine hR.tab w1 fun k hk => ?_
            have hlt := hR.Ilt k hk
            have hsz := size_sortWorldK_c encS 10 w L.k L.base m dk os
            rw [hw1 k (by omega), sw_other (fun e : k = L.k => hdis.1 (by rw [← e]; exact hk)) hlt]
          have hcon := AnyQ.slices_SortFunc Tryd.sortSt 10 (fun w => Go.Am.run_isAgg ty23 w) (fun w => Go.Am.run_sizeOf ty23 w) encS (fun _ => rfl) (fun x v hv => by simp [encS] at hv; rcases hv with rfl | rfl | rfl | rfl | rfl | rfl | rfl | rfl | rfl | rfl <;> rfl) cmO swoS 13 #[] L.k L.base c ps.toArray w (fun args w' => named_run named13 args w') (cmp_lays L.k L.base ps.toArray.size w hT) hH hdis.2 (by simp; omega)
          have e : #[Value.slice (some ⟨L.k, L.base, none⟩) n c, Value.func (.func 13) #[] #[]] = #[Value.slice (some ⟨L.k, L.base, none⟩) ps.toArray.size c, Value.func (.func 13) #[] #[]] := by simp [hn]
          rw [show (⟨[Value.slice (some ⟨L.k, L.base, none⟩) n c, Value.func (.func 13) #[] #[]]⟩ : Array Value) = #[Value.slice (some ⟨L.k, L.base, none⟩) ps.toArray.size c, Value.func (.func 13) #[] #[]] from e]
          refine Calls.mono (show Calls Tryd.prog 38 _ _ _ from hcon) ?_
          rintro e w' ⟨rfl, d', q, os, hp, hs, rfl⟩
          have hd' := sorted_is hp hs (by simpa using hd)
          obtain ⟨r1, e1⟩ := sorted_rel hR hb hL hlim hC hS hO (q := q) (os := os) (by simpa using hd')
          exact ⟨_, φ, I, rfl, den_nil, r1, e1⟩
theorem eff_ok : ∀ f p, effF f = some p → ∀ lim args H r H', p lim args H = some (r, H') → ∀ (φ : Phi) (I : Nat → Prop) (w : World) (cs : Array Value), Tb w → Rel lim φ I w H → DL φ I w args cs → Calls Tryd.prog f cs w (CallPost lim φ I w H' r) ∧ Named Tryd.prog f := by
  intro f p h lim args H r H' hr φ I w cs hT hR hD
  unfold effF at h
  split at h
  · cases h
    unfold sortV at hr
    split at hr
    · split at hr
      · rename_i hb
        split at hr
        · rename_i hps
          split at hr
          · rename_i hk
            obtain ⟨h1, h2, h3, h4, h5⟩ := hk
            cases hr
            exact ⟨sort_calls hR (by rw [hb, rdS_eq hps]) h1 h2 h3 h4 h5 hD, named38⟩
          · cases hr
        · cases hr
      · cases hr
    · cases hr
  · cases h
end Go.Proofs.YtfnapmdedmbdbaaDoor
end
section
set_option linter.unusedVariables false
set_option linter.unusedSimpArgs false
namespace Go.Proofs.YtfnapmdedmbdbaaDoor
open Go Go.Am
abbrev z0 : St := ⟨0, 0, 0, 0, 0, 0, 0, 0, 0, 0⟩
theorem frz_Z (H : Heap) (b d : Nat) (l : List St) : (flatZ l).map (frz H b (d + 1)) = flatZ l := by
  induction l with
  | nil => rfl
  | cons s l ih => unfold flatZ at ih ⊢; rw [List.map_cons, List.flatten_cons, List.map_append, ih]; rfl
theorem frz_ownZ {H : Heap} {base d b n : Nat} {l : List St} (hb : ¬ b < base) (hk : hget H b = some (flatZ l)) (hn : n = l.length) : frz H base (d + 2) (.own 10 b 0 n) = stsAV l := by
  rw [frz_own _ _ _ _ _ _ _ hb, hk]
  show AV.sl n (((flatZ l).drop 0).map (frz H base (d + 1))) = _
  rw [List.drop_zero, frz_Z, hn]
theorem flatS_Z (ps : List SO) : flatS ps = flatZ (ps.map (·.1)) := by unfold flatS flatZ; rw [List.map_map]; rfl
theorem flatZ_app (l m : List St) : flatZ (l ++ m) = flatZ l ++ flatZ m := by simp [flatZ]
theorem flatZ_cons (z : St) (l : List St) : flatZ (z :: l) = stL z ++ flatZ l := rfl
theorem gz_get {l : List St} {h : Nat} (hh : h < l.length) : gz l h = l[h] := by simp [gz, List.getD, List.getElem?_eq_getElem hh]
theorem flatZ_cut {l : List St} {h : Nat} (hh : h < l.length) : flatZ l = flatZ (l.take h) ++ (stL (gz l h) ++ flatZ (l.drop (h + 1))) := by
  rw [← flatZ_cons, ← flatZ_app, gz_get hh, ← List.drop_eq_getElem_cons hh, List.take_append_drop]
theorem flatZ_put {l : List St} {h : Nat} (hh : h < l.length) (z : St) : flatZ (l.set h z) = flatZ (l.take h) ++ (stL z ++ flatZ (l.drop (h + 1))) := by
  rw [← flatZ_cons, ← flatZ_app, List.set_eq_take_append_cons_drop, if_pos hh]
theorem take_len {l : List St} {h : Nat} (hh : h < l.length) : (flatZ (l.take h)).length = h * 10 := by
  rw [flatZ_len, List.length_take, Nat.min_eq_left (by omega)]
theorem gz_set {l : List St} {h k : Nat} {z : St} (hh : h < l.length) : gz (l.set h z) k = if h = k then z else gz l k := by
  simp only [gz, List.getD, List.getElem?_set]
  by_cases e : h = k
  · subst e; simp [hh]
  · simp [e]
theorem zs_ext {l m : List St} (hl : l.length = m.length) (h : ∀ t, t < l.length → gz l t = gz m t) : l = m := by
  apply List.ext_getElem hl
  intro t h1 h2
  have := h t h1
  rwa [gz_get h1, gz_get h2] at this
theorem stds_get {n t : Nat} {l : List Pl} (h : t < n) : gz (stds n l) t = stdS l t := by
  rw [gz_get (by rw [stds_len]; exact h)]
  simp [stds]
theorem setz (l : List St) (i : Nat) (t : Int) (h : i < l.length) : setL (flatZ l) (i * 10) [AV.i t] = flatZ (l.set i { gz l i with tm := t }) := by
  rw [flatZ_put h, setL_one]
  conv => lhs; rw [flatZ_cut h, ← take_len h]
  rw [sAr0]
  rfl
theorem ms27 (lim : Nat) (H : Heap) (n : Int) (x y : Operand) (ev : Operand → AV) (h0 : 0 ≤ n) (h1 : n ≤ 1000000) (hx : ev x = AV.i n) (hy : ev y = AV.i n) :
    effV Tryd.prog lim (.makeSlice 27 x y) ev H = some (.own 10 H.length 0 n.toNat, H ++ [some (flatZ (List.replicate n.toNat z0))]) := by
  simp only [effV, tk27, ty23, hx, hy]
  rw [if_pos ⟨rfl, by decide, h0, Int.le_refl _, by omega, by omega⟩]
  have : ∀ k : Nat, (List.replicate k ([.int .i64 0, .int .i64 0, .int .i64 0, .int .i64 0, .int .i64 0, .int .i64 0, .int .i64 0, .int .i64 0, .int .i64 0, .int .i64 0].map AV.v)).flatten = flatZ (List.replicate k z0) := by
    intro k
    unfold flatZ
    rw [List.map_replicate]
    rfl
  rw [this]
def toO (l : List St) : List SO := l.filterMap fun z => if h : okS z then some ⟨z, h⟩ else none
theorem toO_val : ∀ (l : List St), (∀ z ∈ l, okS z) → (toO l).map (·.1) = l
  | [], _ => rfl
  | z :: l, h => by
    have ih := toO_val l fun y hy => h y (List.mem_cons_of_mem _ hy)
    unfold toO at ih ⊢
    rw [List.filterMap_cons, dif_pos (h z List.mem_cons_self)]
    simp only [List.map_cons]
    rw [ih]
/-- The table. -/
def tbS (l : List St) : List St := (sortL (toO l)).map (·.1)
def tabS (n : Int) (l : List Pl) : List St := if chS n l = 0 then tbS (stds n.toNat l) else []
theorem tbS_perm {l : List St} (h : ∀ z ∈ l, okS z) : (tbS l).Perm l := by
  have := (sortL_perm (toO l)).map (·.1)
  rwa [toO_val l h] at this
theorem tbS_len {l : List St} (h : ∀ z ∈ l, okS z) : (tbS l).length = l.length := (tbS_perm h).length_eq
theorem stds_ok {n : Int} {l : List Pl} (hl : ∀ i, i < l.length → plE n (gp l i) = 0) (h4 : l.length ≤ 400) (N u : Nat) (hu : u ≤ l.length) : ∀ z ∈ stds N (l.take u), okS z := by
  intro z hz
  obtain ⟨t, ht, rfl⟩ := List.mem_map.mp hz
  exact stI_ok (stdS_inv hl t u hu) (by omega)
theorem stds_tm {n : Int} {l : List Pl} (hl : ∀ i, i < l.length → plE n (gp l i) = 0) (N u : Nat) (hu : u ≤ l.length) : (stds N (l.take u)).map (·.tm) = (List.range N).map fun t : Nat => (t : Int) := by
  unfold stds
  rw [List.map_map]
  apply List.map_congr_left
  intro t _
  exact (stdS_inv hl t u hu).1
theorem range_nodup (N : Nat) : ((List.range N).map fun t : Nat => (t : Int)).Nodup := List.pairwise_map.mpr (List.pairwise_lt_range.imp fun h => by omega)
theorem stds_nodup {n : Int} {l : List Pl} (hl : ∀ i, i < l.length → plE n (gp l i) = 0) (h4 : l.length ≤ 400) (N u : Nat) (hu : u ≤ l.length) : ((toO (stds N (l.take u))).map (·.1.tm)).Nodup := by
  have e : (toO (stds N (l.take u))).map (·.1.tm) = (stds N (l.take u)).map (·.tm) := by
    conv => rhs; rw [← toO_val _ (stds_ok hl h4 N u hu), List.map_map]
    rfl
  rw [e, stds_tm hl N u hu]
  exact range_nodup N
theorem toO_len {l : List St} (h : ∀ z ∈ l, okS z) : (toO l).length = l.length := by
  have := congrArg List.length (toO_val l h)
  rwa [List.length_map] at this
theorem sort_eff {lim b n : Nat} {H : Heap} {zs : List St} (hb : hget H b = some (flatZ zs)) (hlim : lim ≤ b) (h1 : 1 ≤ n) (hn : zs.length = n) (h2 : n ≤ 1000) (hok : ∀ z ∈ zs, okS z) (hd : ((toO zs).map (·.1.tm)).Nodup) : sortV lim [.own 10 b 0 n, .clo 13 []] H = some (.tup [], hset H b (some (flatZ (tbS zs)))) := by
  have e : flatZ zs = flatS (toO zs) := by rw [flatS_Z, toO_val zs hok]
  simp only [sortV, hb, e, rdS_flat]
  rw [if_pos ⟨hlim, h1, (toO_len hok).trans hn, h2, hd⟩, flatS_Z]
  rfl
theorem stds_step {n : Int} {l : List Pl} {u N : Nat} (hN : n = N) (hu : u < l.length) (hz : plE n (gp l u) = 0) :
    ((stds N (l.take u)).set (gp l u).ho.toNat (cnS (gz (stds N (l.take u)) (gp l u).ho.toNat) (gp l u).wi (gp l u).hr (gp l u).hb (gp l u).ar (gp l u).ab 1)).set (gp l u).aw.toNat (cnS (gz (stds N (l.take u)) (gp l u).aw.toNat) (gp l u).wi (gp l u).ar (gp l u).ab (gp l u).hr (gp l u).hb 2) = stds N (l.take (u + 1)) := by
  have hp := plE_z hz
  apply zs_ext (by simp [stds_len])
  intro t ht
  have ht' : t < N := by simpa [stds_len] using ht
  rw [gz_set (by rw [List.length_set, stds_len]; omega), gz_set (by rw [stds_len]; omega), stds_get ht', stds_get ht', stds_get (by omega), stds_get (by omega), stdS_snoc l u hu]
  unfold upS
  by_cases h1 : (gp l u).aw = t
  · rw [if_pos (by omega), if_pos h1, show (((gp l u).aw.toNat : Nat) : Int) = t by omega]
  · rw [if_neg (by omega), if_neg h1]
    by_cases h2 : (gp l u).ho = t
    · rw [if_pos (by omega), if_pos h2, show (((gp l u).ho.toNat : Nat) : Int) = t by omega]
    · rw [if_neg (by omega), if_neg h2]
theorem stds_nil (N : Nat) (l : List Pl) {zs : List St} (hl : zs.length = N) (h : ∀ t, t < N → gz zs t = ⟨t, 0, 0, 0, 0, 0, 0, 0, 0, 0⟩) : zs = stds N (l.take 0) := by
  apply zs_ext (by rw [hl, stds_len])
  intro t ht
  rw [h t (by omega), stds_get (by omega), List.take_zero]
  rfl
theorem chS_z {n : Int} {l : List Pl} (h : chS n l = 0) : (2 ≤ n ∧ n ≤ 20) ∧ l.length ≤ 400 ∧ ∀ i, i < l.length → plE n (gp l i) = 0 := by
  unfold chS at h
  split at h
  · cases h
  split at h
  · cases h
  exact ⟨by omega, by omega, fun i hi => ferr_all h i hi⟩
theorem ini_step {zs : List St} {N i : Nat} (hz : zs.length = N) (hi : i < N) (hg : ∀ t, t < N → gz zs t = if t < i then ⟨t, 0, 0, 0, 0, 0, 0, 0, 0, 0⟩ else z0) : ∀ t, t < N → gz (zs.set i { gz zs i with tm := (i : Int) }) t = if t < i + 1 then ⟨t, 0, 0, 0, 0, 0, 0, 0, 0, 0⟩ else z0 := by
  intro t ht
  rw [gz_set (by omega)]
  by_cases e : i = t
  · subst e
    rw [if_pos rfl, hg i hi, if_neg (by omega), if_pos (by omega)]
  · rw [if_neg e, hg t ht]
    by_cases h : t < i
    · rw [if_pos h, if_pos (by omega)]
    · rw [if_neg h, if_neg (by omega)]
theorem ini_zero (N : Nat) : ∀ t, t < N → gz (List.replicate N z0) t = if t < 0 then ⟨t, 0, 0, 0, 0, 0, 0, 0, 0, 0⟩ else z0 := by
  intro t ht
  rw [gz_get (by simpa using ht), if_neg (by omega)]
  simp
theorem tab_ok {n : Int} {l : List Pl} (h : chS n l = 0) : (∀ z ∈ stds n.toNat l, okS z) ∧ ((toO (stds n.toNat l)).map (·.1.tm)).Nodup := by
  obtain ⟨_, h4, hpl⟩ := chS_z h
  have a := stds_ok hpl h4 n.toNat l.length (Nat.le_refl _)
  have b := stds_nodup hpl h4 n.toNat l.length (Nat.le_refl _)
  rw [List.take_length] at a b
  exact ⟨a, b⟩
theorem tab_len {n : Int} {l : List Pl} (h : chS n l = 0) : n.toNat = (tbS (stds n.toNat l)).length := by rw [tbS_len (tab_ok h).1, stds_len]
theorem tabS_y {n : Int} {l : List Pl} (h : chS n l = 0) : tabS n l = tbS (stds n.toNat l) := if_pos h
theorem tabS_n {n : Int} {l : List Pl} (h : ¬ chS n l = 0) : tabS n l = [] := if_neg h
abbrev nilZ : AV := .v (.slice none 0 0)
def tbAV (l : List St) : AV := if l = [] then nilZ else stsAV l
theorem tbAV_nil : tbAV [] = nilZ := if_pos rfl
theorem tbAV_ne {l : List St} (h : l ≠ []) : tbAV l = stsAV l := if_neg h
theorem tab_ne {n : Int} {l : List Pl} (h : chS n l = 0) : tbS (stds n.toNat l) ≠ [] := fun e => by
  have h1 := tab_len h
  have h2 := (chS_z h).1
  rw [e] at h1
  simp at h1
  omega
end Go.Proofs.YtfnapmdedmbdbaaDoor
end
section
set_option linter.unusedVariables false
set_option linter.unusedSimpArgs false
namespace Go.Proofs.YtfnapmdedmbdbaaDoor
open Go Go.Am
/-- A table as it is handed on: none, or a slice that is only read. -/
def AnyZ (x : AV) (zs : List St) : Prop := (zs = [] ∧ x = nilZ) ∨ x = stsAV zs
theorem anyZ_tb (zs : List St) : AnyZ (tbAV zs) zs := by
  by_cases h : zs = []
  · subst h; exact .inl ⟨rfl, tbAV_nil⟩
  · exact .inr (tbAV_ne h)
theorem AnyZ.len {x : AV} {zs : List St} (h : AnyZ x zs) : lenV (tyOf Tryd.prog 27) x = some (AV.i (zs.length : Int)) := by
  rcases h with ⟨h1, h2⟩ | h
  · subst h1 h2; rw [lnn27]; rfl
  · subst h; rw [lns27]
theorem AnyZ.sl {x : AV} {zs : List St} {i : Nat} (h : AnyZ x zs) (hi : i < zs.length) : x = stsAV zs := by
  rcases h with ⟨h1, _⟩ | h
  · subst h1; simp at hi
  · exact h
def plS (zs : List St) (t : Int) : Int := if zs.findIdx (fun z => z.tm == t) < zs.length then (zs.findIdx (fun z => z.tm == t) : Int) + 1 else 0
theorem plS_hit {zs : List St} {t : Int} {i : Nat} (hi : i < zs.length) (h : ∀ j, j < i → ¬ (gz zs j).tm = t) (ht : (gz zs i).tm = t) : plS zs t = (i : Int) + 1 := by
  have e : zs.findIdx (fun z => z.tm == t) = i := by
    rw [List.findIdx_eq hi]
    refine ⟨by rw [gz_get hi] at ht; simpa using ht, fun j hj => ?_⟩
    have := h j hj
    rw [gz_get (by omega)] at this
    simpa using this
  rw [plS, e, if_pos hi]
theorem plS_miss {zs : List St} {t : Int} (h : ∀ j, j < zs.length → ¬ (gz zs j).tm = t) : plS zs t = 0 := by
  rw [plS, if_neg]
  intro h1
  have := List.findIdx_getElem (w := h1)
  rw [beq_iff_eq] at this
  refine h _ h1 ?_
  rw [gz_get h1]
  exact this
theorem neq23 (z : St) : binV Tryd.prog .neq 23 (stA z) (stA z) = some (.v (.bool false)) := by
  simp [binV, aggEq, eqOk23, tk23, fieldsEq, scalEq, kOf, ty3]
theorem neZ {zs : List St} {j : Nat} {t : Int} {b : Bool} (h : ∀ k, k < j → ¬ (gz zs k).tm = t) (h1 : ¬ (gz zs j).tm = t) : ∀ k, k < j + 1 → ¬ (gz zs k).tm = t := by
  intro k hk
  rcases Nat.lt_succ_iff_lt_or_eq.mp hk with h2 | rfl
  · exact h k h2
  · exact h1
theorem tabS_len (n : Int) (l : List Pl) : (tabS n l).length ≤ 20 := by
  by_cases h : chS n l = 0
  · rw [tabS_y h, ← tab_len h]
    have := (chS_z h).1
    omega
  · rw [tabS_n h]; simp
attribute [go_sem] neq23
end Go.Proofs.YtfnapmdedmbdbaaDoor
end
section
set_option linter.unusedVariables false
set_option linter.unusedSimpArgs false
namespace Go.Proofs.YtfnapmdedmbdbaaDoor
open Go Go.Am
/-- A slice of standings that the call has made, nothing at first. -/
def OutZ (base : Nat) (H : Heap) (o : AV) (zs : List St) : Prop := (zs = [] ∧ o = nilZ) ∨ ∃ b, o = .own 10 b 0 zs.length ∧ base ≤ b ∧ hget H b = some (flatZ zs) ∧ zs ≠ []
theorem OutZ.nil (base : Nat) (H : Heap) : OutZ base H nilZ [] := .inl ⟨rfl, rfl⟩
theorem OutZ.keep {base : Nat} {H H' : Heap} {o : AV} {zs : List St} (h : OutZ base H o zs) (hk : ∀ b k, o = .own 10 b 0 zs.length → hget H b = some k → hget H' b = hget H b) : OutZ base H' o zs := by
  rcases h with h | ⟨b, h1, h2, h3, h4⟩
  · exact .inl h
  · exact .inr ⟨b, h1, h2, (hk b _ h1 h3).trans h3, h4⟩
theorem OutZ.new {base : Nat} {H H' : Heap} {o : AV} {zs : List St} {k : Blk} (h : OutZ base H o zs) (n : MNew H H' k) : OutZ base H' o zs := h.keep fun b c _ hb => n.old b (hget_lt hb)
theorem OutZ.wrote {base c : Nat} {H H' : Heap} {o : AV} {zs : List St} {k' : Blk} (h : OutZ base H o zs) (hl : ∀ b, o = .own 10 b 0 zs.length → b ≠ c) (n : MWrote H c H' k') : OutZ base H' o zs := h.keep fun b d ho hb => n.old b (hl b ho)
theorem OutZ.lt {base b : Nat} {H : Heap} {o : AV} {zs : List St} (h : OutZ base H o zs) (ho : o = .own 10 b 0 zs.length) : b < H.length := by
  rcases h with ⟨_, h2⟩ | ⟨b', h1, h2, h3, h4⟩
  · rw [h2] at ho; cases ho
  · rw [h1] at ho; cases ho; exact hget_lt h3
theorem OutZ.grew {base c : Nat} {H H' : Heap} {o : AV} {zs : List St} {k : Blk} (h : OutZ base H o zs) (hl : ∀ b, o = .own 10 b 0 zs.length → b ≠ c) (n : MGrew H c H' k) : OutZ base H' o zs := h.keep fun b d ho hb => n.old b (hl b ho) (hget_lt hb)
theorem OutZ.own {base : Nat} {H : Heap} {o : AV} {zs : List St} (h : OutZ base H o zs) (hz : zs ≠ []) : ∃ b, o = .own 10 b 0 zs.length ∧ base ≤ b ∧ hget H b = some (flatZ zs) := by
  rcases h with h | ⟨b, h1, h2, h3, h4⟩
  · exact absurd h.1 hz
  · exact ⟨b, h1, h2, h3⟩
theorem OutZ.len {base : Nat} {H : Heap} {o : AV} {zs : List St} (h : OutZ base H o zs) : lenV (tyOf Tryd.prog 27) o = some (AV.i (zs.length : Int)) := by
  rcases h with ⟨h1, h2⟩ | ⟨b, h1, _⟩
  · subst h1 h2; rw [lnn27]; rfl
  · subst h1; rw [lno27]
theorem flatZ_take (zs : List St) (k : Nat) (h : k ≤ zs.length) : (flatZ zs).take (k * 10) = flatZ (zs.take k) := by
  conv => lhs; rw [← List.take_append_drop k zs, flatZ_app]
  rw [List.take_append_of_le_length (by rw [flatZ_len, List.length_take, Nat.min_eq_left h]; exact Nat.le_refl _), List.take_of_length_le (by rw [flatZ_len, List.length_take, Nat.min_eq_left h]; exact Nat.le_refl _)]
theorem flatZ_drop (zs : List St) (k : Nat) (h : k ≤ zs.length) : (flatZ zs).drop (k * 10) = flatZ (zs.drop k) := by
  conv => lhs; rw [← List.take_append_drop k zs, flatZ_app]
  rw [List.drop_append_of_le_length (by rw [flatZ_len, List.length_take, Nat.min_eq_left h]; exact Nat.le_refl _), List.drop_of_length_le (by rw [flatZ_len, List.length_take, Nat.min_eq_left h]; exact Nat.le_refl _)]
  rfl
theorem flatZ_stor (zs : List St) : (flatZ zs).all storable = true := by
  induction zs with
  | nil => rfl
  | cons z r ih => rw [flatZ_cons, List.all_append, ih]; rfl
theorem OutZ.take {base : Nat} {H : Heap} {o : AV} {zs : List St} (h : OutZ base H o zs) {k : Nat} (hk : k ≤ zs.length) : ∃ o1, sliceV Tryd.prog 27 o none (some (AV.i (k : Int))) = some o1 ∧ ∀ base' H', OutZ base' H' o zs → srcCells H' 10 o1 = some (k, flatZ (zs.take k)) := by
  rcases h with ⟨h1, h2⟩ | ⟨b, h1, h2, h3, h4⟩
  · subst h1 h2
    obtain rfl : k = 0 := by simpa using hk
    refine ⟨nilZ, ?_, fun _ _ _ => rfl⟩
    simp only [sliceV, tk27, ty23, bound]
    rw [if_pos ⟨by omega, by omega, by omega⟩]
  · subst h1
    refine ⟨.own 10 b 0 k, ?_, ?_⟩
    · simp only [sliceV, tk27, ty23, bound]
      rw [if_pos ⟨trivial, by omega, by omega, by omega⟩]
      simp
    · rintro base' H' (⟨e, _⟩ | ⟨b', e1, e2, e3, e4⟩)
      · exact absurd e h4
      · cases e1
        simp only [srcCells, e3]
        rw [if_pos (by rw [flatZ_len]; omega), List.drop_zero, flatZ_take zs k hk]
theorem OutZ.drop {base : Nat} {H : Heap} {o : AV} {zs : List St} (h : OutZ base H o zs) {k : Nat} (hk : k ≤ zs.length) : ∃ o1, sliceV Tryd.prog 27 o (some (AV.i (k : Int))) none = some o1 ∧ ∀ base' H', OutZ base' H' o zs → srcCells H' 10 o1 = some (zs.length - k, flatZ (zs.drop k)) := by
  rcases h with ⟨h1, h2⟩ | ⟨b, h1, h2, h3, h4⟩
  · subst h1 h2
    obtain rfl : k = 0 := by simpa using hk
    refine ⟨nilZ, ?_, fun _ _ _ => rfl⟩
    simp only [sliceV, tk27, ty23, bound]
    rw [if_pos ⟨by omega, by omega, by omega⟩]
  · subst h1
    refine ⟨.own 10 b (k * 10) (zs.length - k), ?_, ?_⟩
    · simp only [sliceV, tk27, ty23, bound]
      rw [if_pos ⟨trivial, by omega, by omega, by omega⟩]
      simp
    · rintro base' H' (⟨e, _⟩ | ⟨b', e1, e2, e3, e4⟩)
      · exact absurd e h4
      · cases e1
        simp only [srcCells, e3]
        rw [if_pos (by rw [flatZ_len, Nat.sub_mul]; have := Nat.mul_le_mul_right 10 hk; omega), flatZ_drop zs k hk, List.take_of_length_le (by rw [flatZ_len, List.length_drop]; exact Nat.le_refl _)]
theorem apNil {lim k : Nat} {H : Heap} {y : AV} {zs : List St} (hy : srcCells H 10 y = some (k, flatZ zs)) (h : k ≤ 1000) : ∃ H', appendV Tryd.prog lim H 27 nilZ y = some (.own 10 H.length 0 k, H') ∧ MGrew H H.length H' (flatZ zs) := by
  refine ⟨_, ?_, MGrew.ofNew _ (MNew.of _ _)⟩
  simp only [appendV, tk27, ty23, hy]
  rw [if_pos ⟨rfl, by decide, flatZ_stor zs⟩, if_pos ⟨by omega, by omega⟩]
theorem apOwn {lim b n m : Nat} {H : Heap} {y : AV} {zs ys : List St} (hb : hget H b = some (flatZ zs)) (hlim : lim ≤ b) (hn : n = zs.length) (hy : srcCells H 10 y = some (m, flatZ ys)) (h : n + m ≤ 1000) {s : Nat} (hs : n + m = s) : ∃ H', appendV Tryd.prog lim H 27 (.own 10 b 0 n) y = some (.own 10 H.length 0 s, H') ∧ MGrew H b H' (flatZ (zs ++ ys)) := by
  subst hs hn
  refine ⟨hset H b none ++ [some (flatZ (zs ++ ys))], ?_, MGrew.of _ _ _⟩
  simp only [appendV, tk27, ty23, hy]
  rw [if_pos ⟨rfl, by decide, flatZ_stor ys⟩]
  simp only [hb]
  rw [if_pos ⟨hlim, trivial, by rw [flatZ_len]; omega, by omega, by omega⟩, flatZ_app, List.drop_zero, List.take_of_length_le (by rw [flatZ_len]; exact Nat.le_refl _)]
theorem srcOne {H : Heap} {b : Nat} {z : St} (h : hget H b = some (stL z)) : srcCells H 10 (.own 10 b 0 1) = some (1, flatZ [z]) := by
  simp only [srcCells, h]
  rfl
theorem bs27o (lim : Nat) (H : Heap) (a : Operand) (ev : Operand → AV) (x : St) (ha : ev a = stA x) : effV Tryd.prog lim (.buildSlice 27 1 #[(0, a)]) ev H = some (.own 10 H.length 0 1, H ++ [some (stL x)]) := by
  simp only [effV, tk27, ty23]
  rw [if_pos ⟨rfl, by decide, by decide⟩]
  simp only [List.map_cons, List.map_nil, ha]
  rfl
/-! ### One more standing -/
theorem insR_app (s : SO) (B : List SO) (hB : B = [] ∨ ∃ b r, B = b :: r ∧ ¬ cmS s.1 b.1 < 0) : ∀ A : List SO, (∀ a ∈ A, cmS s.1 a.1 < 0) → insR s (A ++ B) = A ++ s :: B
  | [], _ => by
    rcases hB with rfl | ⟨b, r, rfl, h⟩
    · rfl
    · show insR s (b :: r) = _
      rw [insR, if_neg h]
      rfl
  | a :: A, h => by
    show insR s (a :: (A ++ B)) = _
    rw [insR, if_pos (h a List.mem_cons_self), insR_app s B hB A fun x hx => h x (List.mem_cons_of_mem _ hx)]
    rfl
theorem insR_cut (s : SO) (q : List SO) (k : Nat) (hk : k ≤ q.length) (h1 : ∀ j, k ≤ j → (hj : j < q.length) → cmS s.1 q[j].1 < 0) (h2 : k = 0 ∨ ∃ h : k - 1 < q.length, ¬ cmS s.1 q[k - 1].1 < 0) : (insR s q.reverse).reverse = q.take k ++ s :: q.drop k := by
  have e : q.reverse = (q.drop k).reverse ++ (q.take k).reverse := by rw [← List.reverse_append, List.take_append_drop]
  rw [e, insR_app s]
  · simp
  · rcases h2 with rfl | ⟨h, h2⟩
    · exact .inl (by simp)
    · by_cases h0 : k = 0
      · subst h0; exact .inl (by simp)
      · refine .inr ⟨q[k - 1], (q.take (k - 1)).reverse, ?_, h2⟩
        have : q.take k = q.take (k - 1) ++ [q[k - 1]] := by
          rw [List.take_append_getElem h, show k - 1 + 1 = k by omega]
        rw [this]
        simp
  · intro a ha
    obtain ⟨j, hj, rfl⟩ := List.getElem_of_mem (List.mem_reverse.mp ha)
    rw [List.getElem_drop]
    exact h1 _ (by omega) _
theorem stds_succ (i : Nat) (l : List Pl) : stds (i + 1) l = stds i l ++ [stdS l i] := by simp [stds, List.range_succ]
theorem toO_app (a b : List St) : toO (a ++ b) = toO a ++ toO b := by simp [toO]
theorem tb_step {n : Int} {l : List Pl} (hpl : ∀ i, i < l.length → plE n (gp l i) = 0) (h4 : l.length ≤ 400) (i : Nat) {zs : List St} (hz : zs = tbS (stds i l)) {k : Nat} (hk : k ≤ zs.length)
    (h1 : ∀ j, k ≤ j → j < zs.length → cmS (stdS l i) (gz zs j) < 0) (h2 : k = 0 ∨ ¬ cmS (stdS l i) (gz zs (k - 1)) < 0) : tbS (stds (i + 1) l) = zs.take k ++ stdS l i :: zs.drop k := by
  have hok : okS (stdS l i) := by
    have h := stdS_inv hpl i l.length (Nat.le_refl _)
    rw [List.take_length] at h
    exact stI_ok h h4
  subst hz
  have hq : ∀ q : List SO, q = sortL (toO (stds i l)) → (insR ⟨_, hok⟩ q.reverse).reverse = q.take k ++ ⟨_, hok⟩ :: q.drop k := by
    intro q hq
    have hl : q.length = (tbS (stds i l)).length := by rw [tbS, List.length_map, hq]
    have hg : ∀ j, (hj : j < q.length) → gz (tbS (stds i l)) j = q[j].1 := by
      intro j hj
      rw [gz_get (by rw [← hl]; exact hj)]
      subst hq
      simp [tbS]
    refine insR_cut _ q k (by rw [hl]; exact hk) (fun j h hj => ?_) ?_
    · have := h1 j h (by rw [← hl]; exact hj)
      rwa [hg j hj] at this
    · rcases h2 with h | h
      · exact .inl h
      · by_cases h0 : k = 0
        · exact .inl h0
        · refine .inr ⟨by omega, ?_⟩
          rwa [hg (k - 1) (by omega)] at h
  have e : sortL (toO (stds (i + 1) l)) = (insR ⟨_, hok⟩ (sortL (toO (stds i l))).reverse).reverse := by
    rw [stds_succ, toO_app, sortL, List.foldl_append]
    have : toO [stdS l i] = [⟨_, hok⟩] := by simp [toO, hok]
    rw [this]
    rfl
  rw [tbS, e, hq _ rfl]
  simp [tbS, List.map_take, List.map_drop]
end Go.Proofs.YtfnapmdedmbdbaaDoor
end
section
set_option linter.unusedVariables false
set_option linter.unusedSimpArgs false
namespace Go.Proofs.YtfnapmdedmbdbaaDoor
open Go Go.Am
/-! ### Standings of results in another order -/
def adS (a b : St) : St := ⟨a.tm, a.pl + b.pl, a.wn + b.wn, a.sh + b.sh, a.ls + b.ls, a.pt + b.pt, a.rf + b.rf, a.bf + b.bf, a.ra + b.ra, a.ba + b.ba⟩
def dlS (t : Int) (p : Pl) : St := if p.aw = t then cnS z0 p.wi p.ar p.ab p.hr p.hb 2 else if p.ho = t then cnS z0 p.wi p.hr p.hb p.ar p.ab 1 else z0
theorem cn_ad (s : St) (wi r b o a w : Int) : cnS s wi r b o a w = adS s (cnS z0 wi r b o a w) := by
  by_cases h : wi = 0
  · rw [cn_0 h, cn_0 h]; simp [adS]
  · by_cases h1 : wi = w
    · rw [cn_w h h1, cn_w h h1]; simp [adS]
    · rw [cn_l h h1, cn_l h h1]; simp [adS]
theorem up_ad (t : Int) (s : St) (p : Pl) : upS t s p = adS s (dlS t p) := by
  unfold upS dlS
  split
  · exact cn_ad s _ _ _ _ _ _
  · split
    · exact cn_ad s _ _ _ _ _ _
    · simp [adS]
theorem ad_comm (s a b : St) : adS (adS s a) b = adS (adS s b) a := by
  simp [adS, Int.add_right_comm]
theorem stdS_perm {l m : List Pl} (h : l.Perm m) (t : Int) : stdS l t = stdS m t := by
  unfold stdS
  refine List.Perm.foldl_eq' h (fun x _ y _ z => ?_) _
  rw [up_ad, up_ad, up_ad, up_ad, ad_comm]
theorem stds_perm {l m : List Pl} (h : l.Perm m) (n : Nat) : stds n l = stds n m := by
  unfold stds
  exact List.map_congr_left fun t _ => stdS_perm h _
theorem ferr_zero {f : Nat → Int} : ∀ n, (∀ i, i < n → f i = 0) → ferr f n = 0
  | 0, _ => rfl
  | n + 1, h => ferr_ok (ferr_zero n fun i hi => h i (by omega)) (h n (by omega))
theorem gp_get {l : List Pl} {i : Nat} (h : i < l.length) : gp l i = l[i] := by simp [gp, List.getD, List.getElem?_eq_getElem h]
theorem chS_all {n : Int} {l : List Pl} : chS n l = 0 ↔ (2 ≤ n ∧ n ≤ 20) ∧ l.length ≤ 400 ∧ ∀ p ∈ l, plE n p = 0 := by
  constructor
  · intro h
    obtain ⟨h1, h2, h3⟩ := chS_z h
    refine ⟨h1, h2, fun p hp => ?_⟩
    obtain ⟨i, hi, rfl⟩ := List.getElem_of_mem hp
    rw [← gp_get hi]
    exact h3 i hi
  · rintro ⟨h1, h2, h3⟩
    exact chS_d (by omega) (by omega) (ferr_zero _ fun i hi => by rw [gp_get hi]; exact h3 _ (List.getElem_mem hi))
theorem chS_perm {n : Int} {l m : List Pl} (h : l.Perm m) : chS n l = 0 ↔ chS n m = 0 := by
  rw [chS_all, chS_all, h.length_eq]
  refine and_congr_right fun _ => and_congr_right fun _ => ?_
  exact ⟨fun g p hp => g p (h.mem_iff.mpr hp), fun g p hp => g p (h.mem_iff.mp hp)⟩
theorem tabS_perm {n : Int} {l m : List Pl} (h : l.Perm m) : tabS n l = tabS n m := by
  by_cases h0 : chS n l = 0
  · rw [tabS_y h0, tabS_y ((chS_perm h).mp h0), stds_perm h]
  · rw [tabS_n h0, tabS_n fun h1 => h0 ((chS_perm h).mpr h1)]
/-! ### Results turned round -/
def rtP (l : List Pl) (k i : Nat) : List Pl := (List.range i).map fun j => gp l ((j + k) % l.length)
theorem rtP_len (l : List Pl) (k i : Nat) : (rtP l k i).length = i := by simp [rtP]
theorem rtP_succ (l : List Pl) (k i : Nat) : rtP l k (i + 1) = rtP l k i ++ [gp l ((i + k) % l.length)] := by simp [rtP, List.range_succ]
theorem rtP_perm (l : List Pl) (k : Nat) : (rtP l k l.length).Perm l := by
  by_cases h0 : l.length = 0
  · have : l = [] := List.eq_nil_of_length_eq_zero h0
    subst this
    exact List.Perm.refl _
  · have hr : k % l.length < l.length := Nat.mod_lt _ (by omega)
    have e : rtP l k l.length = l.drop (k % l.length) ++ l.take (k % l.length) := by
      apply List.ext_getElem
      · rw [rtP_len, List.length_append, List.length_drop, List.length_take]; omega
      · intro j h1 h2
        rw [rtP_len] at h1
        have hj : (j + k) % l.length < l.length := Nat.mod_lt _ (by omega)
        have hm : (j + k) % l.length = if j + k % l.length < l.length then j + k % l.length else j + k % l.length - l.length := by
          rw [Nat.add_mod, Nat.mod_eq_of_lt h1]
          split
          · exact Nat.mod_eq_of_lt (by omega)
          · rw [Nat.mod_eq_sub_mod (by omega), Nat.mod_eq_of_lt (by omega)]
        have g : (rtP l k l.length)[j]'(by rw [rtP_len]; exact h1) = l[(j + k) % l.length] := by
          simp only [rtP, List.getElem_map, List.getElem_range]
          exact gp_get hj
        rw [g, List.getElem_append]
        by_cases h3 : j + k % l.length < l.length
        · rw [if_pos h3] at hm
          rw [dif_pos (by rw [List.length_drop]; omega), List.getElem_drop]
          congr 1
          omega
        · rw [if_neg h3] at hm
          rw [dif_neg (by rw [List.length_drop]; omega), List.getElem_take]
          congr 1
          rw [List.length_drop]
          omega
    rw [e]
    exact List.perm_append_comm.trans (by rw [List.take_append_drop])
theorem swap_perm {L m : List Pl} {a z : Nat} (ha : a < L.length) (hz : z < L.length) (h : L.Perm m) : ((L.set a (gp L z)).set z (gp L a)).Perm m := by
  rw [gp_get ha, gp_get hz]
  exact (List.set_set_perm ha hz).trans h
/-! ### Lists of results that the call has made -/
def OutL (base : Nat) (H : Heap) (o : AV) (ls : List Pl) (n : Nat) : Prop := (n = 0 ∧ ls = [] ∧ o = nilZ) ∨ ∃ b, o = .own 8 b 0 n ∧ base ≤ b ∧ hget H b = some (flatP ls) ∧ n = ls.length ∧ 0 < n
theorem OutL.keep {base n : Nat} {H H' : Heap} {o : AV} {ls : List Pl} (h : OutL base H o ls n) (hk : ∀ b k, hget H b = some k → hget H' b = hget H b) : OutL base H' o ls n := by
  rcases h with h | ⟨b, h1, h2, h3, h4⟩
  · exact .inl h
  · exact .inr ⟨b, h1, h2, (hk b _ h3).trans h3, h4⟩
theorem OutL.new {base n : Nat} {H H' : Heap} {o : AV} {ls : List Pl} {k : Blk} (h : OutL base H o ls n) (m : MNew H H' k) : OutL base H' o ls n := h.keep fun b c hb => m.old b (hget_lt hb)
theorem OutL.len {base n : Nat} {H : Heap} {o : AV} {ls : List Pl} (h : OutL base H o ls n) : lenV (tyOf Tryd.prog 32) o = some (AV.i (n : Int)) := by
  rcases h with ⟨h1, _, h2⟩ | ⟨b, h1, _⟩
  · subst h1 h2; rw [lnn32] <;> rfl
  · subst h1; rw [lno32]
theorem OutL.own {base n : Nat} {H : Heap} {o : AV} {ls : List Pl} (h : OutL base H o ls n) (hz : 0 < n) : ∃ b, o = .own 8 b 0 n ∧ base ≤ b ∧ hget H b = some (flatP ls) ∧ n = ls.length := by
  rcases h with h | ⟨b, h1, h2, h3, h4, h5⟩
  · omega
  · exact ⟨b, h1, h2, h3, h4⟩
theorem OutL.ll {base n : Nat} {H : Heap} {o : AV} {ls : List Pl} (h : OutL base H o ls n) : ls.length = n := by
  rcases h with ⟨h1, h2, _⟩ | ⟨b, _, _, _, h4, _⟩
  · subst h1 h2; rfl
  · exact h4.symm
theorem flatP_app (l m : List Pl) : flatP (l ++ m) = flatP l ++ flatP m := by simp [flatP]
theorem flatP_cons (p : Pl) (l : List Pl) : flatP (p :: l) = plC p ++ flatP l := rfl
theorem bs32o {lim : Nat} {H : Heap} {a : Operand} {ev : Operand → AV} {p : Pl} (ha : ev a = .agg (plC p)) : effV Tryd.prog lim (.buildSlice 32 1 #[(0, a)]) ev H = some (.own 8 H.length 0 1, H ++ [some (plC p)]) := by
  simp only [effV, tk32, ty34]
  rw [if_pos ⟨rfl, by decide, by decide⟩]
  simp only [List.map_cons, List.map_nil, ha]
  rfl
theorem apL {base lim n b2 : Nat} {H : Heap} {o : AV} {ls : List Pl} {p : Pl} (h : OutL base H o ls n) (hb : lim ≤ base) (h2 : hget H b2 = some (plC p)) (hn : n ≤ 1000) : ∃ b H', appendV Tryd.prog lim H 32 o (.own 8 b2 0 1) = some (.own 8 H.length 0 (n + 1), H') ∧ MGrew H b H' (flatP (ls ++ [p])) := by
  have hs : srcCells H 8 (.own 8 b2 0 1) = some (1, plC p) := by simp only [srcCells, h2]; rfl
  rcases h with ⟨h1, h3, h4⟩ | ⟨b, h1, h3, h4, h5, h6⟩
  · subst h1 h3 h4
    refine ⟨H.length, _, ?_, MGrew.ofNew _ (MNew.of _ _)⟩
    simp only [appendV, tk32, ty34, hs]
    rw [if_pos ⟨rfl, by decide, rfl⟩, if_pos ⟨by omega, by omega⟩]
    rfl
  · subst h1
    refine ⟨b, hset H b none ++ [some (flatP (ls ++ [p]))], ?_, MGrew.of _ _ _⟩
    simp only [appendV, tk32, ty34, hs]
    rw [if_pos ⟨rfl, by decide, rfl⟩]
    simp only [h4]
    rw [if_pos ⟨by omega, trivial, by rw [flatP_len]; omega, by omega, by omega⟩, flatP_app, List.drop_zero, List.take_of_length_le (by rw [flatP_len]; omega)]
    rfl
theorem OutL.grown {base n : Nat} {H : Heap} {ls : List Pl} {b : Nat} (h : hget H b = some (flatP ls)) (hb : base ≤ b) (hn : n = ls.length) (h0 : 0 < n) : OutL base H (.own 8 b 0 n) ls n := .inr ⟨b, rfl, hb, h, hn, h0⟩
theorem flatP_cut {l : List Pl} {h : Nat} (hh : h < l.length) : flatP l = flatP (l.take h) ++ (plC (gp l h) ++ flatP (l.drop (h + 1))) := by
  rw [← flatP_cons, ← flatP_app, gp_get hh, ← List.drop_eq_getElem_cons hh, List.take_append_drop]
theorem flatP_put {l : List Pl} {h : Nat} (hh : h < l.length) (z : Pl) : flatP (l.set h z) = flatP (l.take h) ++ (plC z ++ flatP (l.drop (h + 1))) := by
  rw [← flatP_cons, ← flatP_app, List.set_eq_take_append_cons_drop, if_pos hh]
theorem setP (l : List Pl) (h : Nat) (z : Pl) (hh : h < l.length) : setL (flatP l) (h * 8) (plC z) = flatP (l.set h z) := by
  have hl : (flatP (l.take h)).length = h * 8 := by rw [flatP_len, List.length_take, Nat.min_eq_left (by omega)]
  rw [setL_eq _ _ _ (by rw [flatP_len]; show h * 8 + 8 ≤ _; omega), flatP_put hh]
  conv => lhs; rw [flatP_cut hh]
  rw [List.take_left' hl, List.append_assoc]
  congr 2
  show List.drop (h * 8 + 8) _ = _
  rw [← List.append_assoc, List.drop_left' (by rw [List.length_append, hl]; rfl)]
/-- Results that are handed on: none, or in memory that the call has made. -/
def SrcP (H : Heap) (x : AV) (l : List Pl) : Prop := (l = [] ∧ x = nilZ) ∨ ∃ b, x = .own 8 b 0 l.length ∧ hget H b = some (flatP l)
theorem OutL.src {base n : Nat} {H : Heap} {o : AV} {ls : List Pl} (h : OutL base H o ls n) : SrcP H o ls := by
  rcases h with ⟨_, h1, h2⟩ | ⟨b, h1, _, h3, h4, _⟩
  · exact .inl ⟨h1, h2⟩
  · exact .inr ⟨b, by rw [h1, h4], h3⟩
theorem SrcP.len {H : Heap} {x : AV} {l : List Pl} (h : SrcP H x l) : lenV (tyOf Tryd.prog 32) x = some (AV.i (l.length : Int)) := by
  rcases h with ⟨h1, h2⟩ | ⟨b, h1, _⟩
  · subst h1 h2; rw [lnn32]; rfl
  · subst h1; rw [lno32]
theorem SrcP.own {H : Heap} {x : AV} {l : List Pl} {i : Nat} (h : SrcP H x l) (hi : i < l.length) : ∃ b, x = .own 8 b 0 l.length ∧ hget H b = some (flatP l) := by
  rcases h with ⟨h1, _⟩ | h
  · subst h1; simp at hi
  · exact h
theorem SrcP.keep {H H' : Heap} {x : AV} {l : List Pl} (h : SrcP H x l) (hk : ∀ b, b < H.length → hget H' b = hget H b) : SrcP H' x l := by
  rcases h with h | ⟨b, h1, h2⟩
  · exact .inl h
  · exact .inr ⟨b, h1, (hk b (hget_lt h2)).trans h2⟩
theorem cv5_3 (n : Int) (h : 0 ≤ n ∧ n ≤ 255) : convV Tryd.prog 5 3 (.v (.int .u8 n)) = some (AV.i n) := by
  simp only [convV, ty5, tk3]
  rw [wrap_i64 n (by omega)]
theorem mod9 {i n : Nat} {k : Int} (hk : 0 ≤ k) : ((i : Int) + k) % (n : Int) = (((i + k.toNat) % n : Nat) : Int) := by
  have e : k = ((k.toNat : Nat) : Int) := by omega
  rw [Int.natCast_emod, Int.natCast_add, ← e]
theorem keep_app {H X : Heap} : ∀ b, b < H.length → hget (H ++ X) b = hget H b := fun b hb => hget_low _ _ _ hb
attribute [go_sem] cv5_3
end Go.Proofs.YtfnapmdedmbdbaaDoor
end
section
set_option linter.unusedSimpArgs false
set_option linter.unusedVariables false
namespace Go.Proofs.YtfnapmdedmbdbaaDoor
open Go Go.Am
noncomputable def fns : FuncId → Option FnA
  | 3 => some fa3
  | 4 => some fa4
  | 5 => some fa5
  | 6 => some fa6
  | 7 => some fa7
  | 8 => some fa8
  | 9 => some fa9
  | 10 => some fa10
  | 11 => some fa11
  | 12 => some fa12
  | 13 => some fa13
  | 14 => some fa14
  | 15 => some fa15
  | 16 => some fa16
  | 17 => some fa17
  | 18 => some fa18
  | 19 => some fa19
  | 20 => some fa20
  | 21 => some fa21
  | 22 => some fa22
  | 23 => some fa23
  | 24 => some fa24
  | 25 => some fa25
  | 26 => some fa26
  | 27 => some fa27
  | 28 => some fa28
  | 29 => some fa29
  | 30 => some fa30
  | 31 => some fa31
  | 32 => some fa32
  | 33 => some fa33
  | 34 => some fa34
  | 35 => some fa35
  | 36 => some fa36
  | 37 => some fa37
  | 39 => some fa39
  | 40 => some fa40
  | 41 => some fa41
  | 42 => some fa42
  | 43 => some fa43
  | 44 => some fa44
  | 45 => some fa45
  | 46 => some fa46
  | 47 => some fa47
  | 48 => some fa48
  | 49 => some fa49
  | 51 => some fa51
  | 52 => some fa52
  | 53 => some fa53
  | 54 => some fa54
  | 62 => some fa62
  | 63 => some fa63
  | 64 => some fa64
  | 82 => some fa82
  | 95 => some fa95
  | _ => none

noncomputable def sig : Sig := { P := Tryd.prog, fns := fns, prim := primF, own := fun f => f == 37 || f == 38, fz := fun f => f == 10, eff := effF }

theorem fnOK3 : FnOK Tryd.prog sig.pure 3 fa3 := ⟨Tryd.func3, by kernel_rfl, fun c hc => by cases hc; kernel_rfl⟩
theorem fnOK4 : FnOK Tryd.prog sig.pure 4 fa4 := ⟨Tryd.func4, by kernel_rfl, fun c hc => by cases hc; kernel_rfl⟩
theorem fnOK5 : FnOK Tryd.prog sig.pure 5 fa5 := ⟨Tryd.func5, by kernel_rfl, fun c hc => by cases hc; kernel_rfl⟩
theorem fnOK6 : FnOK Tryd.prog sig.pure 6 fa6 := ⟨Tryd.func6, by kernel_rfl, fun c hc => by cases hc; kernel_rfl⟩
theorem fnOK7 : FnOK Tryd.prog sig.pure 7 fa7 := ⟨Tryd.func7, by kernel_rfl, fun c hc => by cases hc; kernel_rfl⟩
theorem fnOK8 : FnOK Tryd.prog sig.pure 8 fa8 := ⟨Tryd.func8, by kernel_rfl, fun c hc => by cases hc; kernel_rfl⟩
theorem fnOK9 : FnOK Tryd.prog sig.pure 9 fa9 := ⟨Tryd.func9, by kernel_rfl, fun c hc => by cases hc; kernel_rfl⟩
theorem fnOK10 : FnOK Tryd.prog sig.pure 10 fa10 := ⟨Tryd.func10, by kernel_rfl, fun c hc => by cases hc; kernel_rfl⟩
theorem fnOK11 : FnOK Tryd.prog sig.pure 11 fa11 := ⟨Tryd.func11, by kernel_rfl, fun c hc => by cases hc; kernel_rfl⟩
theorem fnOK12 : FnOK Tryd.prog sig.pure 12 fa12 := ⟨Tryd.func12, by kernel_rfl, fun c hc => by cases hc; kernel_rfl⟩
theorem fnOK13 : FnOK Tryd.prog sig.pure 13 fa13 := ⟨Tryd.func13, by kernel_rfl, fun c hc => by cases hc; kernel_rfl⟩
theorem fnOK14 : FnOK Tryd.prog sig.pure 14 fa14 := ⟨Tryd.func14, by kernel_rfl, fun c hc => by cases hc; kernel_rfl⟩
theorem fnOK15 : FnOK Tryd.prog sig.pure 15 fa15 := ⟨Tryd.func15, by kernel_rfl, fun c hc => by cases hc; kernel_rfl⟩
theorem fnOK16 : FnOK Tryd.prog sig.pure 16 fa16 := ⟨Tryd.func16, by kernel_rfl, fun c hc => by cases hc; kernel_rfl⟩
theorem fnOK17 : FnOK Tryd.prog sig.pure 17 fa17 := ⟨Tryd.func17, by kernel_rfl, fun c hc => by cases hc; kernel_rfl⟩
theorem fnOK18 : FnOK Tryd.prog sig.pure 18 fa18 := ⟨Tryd.func18, by kernel_rfl, fun c hc => by cases hc; kernel_rfl⟩
theorem fnOK19 : FnOK Tryd.prog sig.pure 19 fa19 := ⟨Tryd.func19, by kernel_rfl, fun c hc => by cases hc; kernel_rfl⟩
theorem fnOK20 : FnOK Tryd.prog sig.pure 20 fa20 := ⟨Tryd.func20, by kernel_rfl, fun c hc => by cases hc; kernel_rfl⟩
theorem fnOK21 : FnOK Tryd.prog sig.pure 21 fa21 := ⟨Tryd.func21, by kernel_rfl, fun c hc => by cases hc; kernel_rfl⟩
theorem fnOK22 : FnOK Tryd.prog sig.pure 22 fa22 := ⟨Tryd.func22, by kernel_rfl, fun c hc => by cases hc; kernel_rfl⟩
theorem fnOK23 : FnOK Tryd.prog sig.pure 23 fa23 := ⟨Tryd.func23, by kernel_rfl, fun c hc => by cases hc; kernel_rfl⟩
theorem fnOK24 : FnOK Tryd.prog sig.pure 24 fa24 := ⟨Tryd.func24, by kernel_rfl, fun c hc => by cases hc; kernel_rfl⟩
theorem fnOK25 : FnOK Tryd.prog sig.pure 25 fa25 := ⟨Tryd.func25, by kernel_rfl, fun c hc => by cases hc; kernel_rfl⟩
theorem fnOK26 : FnOK Tryd.prog sig.pure 26 fa26 := ⟨Tryd.func26, by kernel_rfl, fun c hc => by cases hc; kernel_rfl⟩
theorem fnOK27 : FnOK Tryd.prog sig.pure 27 fa27 := ⟨Tryd.func27, by kernel_rfl, fun c hc => by cases hc; kernel_rfl⟩
theorem fnOK28 : FnOK Tryd.prog sig.pure 28 fa28 := ⟨Tryd.func28, by kernel_rfl, fun c hc => by cases hc; kernel_rfl⟩
theorem fnOK29 : FnOK Tryd.prog sig.pure 29 fa29 := ⟨Tryd.func29, by kernel_rfl, fun c hc => by cases hc; kernel_rfl⟩
theorem fnOK30 : FnOK Tryd.prog sig.pure 30 fa30 := ⟨Tryd.func30, by kernel_rfl, fun c hc => by cases hc; kernel_rfl⟩
theorem fnOK31 : FnOK Tryd.prog sig.pure 31 fa31 := ⟨Tryd.func31, by kernel_rfl, fun c hc => by cases hc; kernel_rfl⟩
theorem fnOK32 : FnOK Tryd.prog sig.pure 32 fa32 := ⟨Tryd.func32, by kernel_rfl, fun c hc => by cases hc; kernel_rfl⟩
theorem fnOK33 : FnOK Tryd.prog sig.pure 33 fa33 := ⟨Tryd.func33, by kernel_rfl, fun c hc => by cases hc; kernel_rfl⟩
theorem fnOK34 : FnOK Tryd.prog sig.pure 34 fa34 := ⟨Tryd.func34, by kernel_rfl, fun c hc => by cases hc; kernel_rfl⟩
theorem fnOK35 : FnOK Tryd.prog sig.pure 35 fa35 := ⟨Tryd.func35, by kernel_rfl, fun c hc => by cases hc; kernel_rfl⟩
theorem fnOK36 : FnOK Tryd.prog sig.pure 36 fa36 := ⟨Tryd.func36, by kernel_rfl, fun c hc => by cases hc; kernel_rfl⟩
theorem fnOK37 : FnOK Tryd.prog sig.pure 37 fa37 := ⟨Tryd.func37, by kernel_rfl, fun c hc => by cases hc; kernel_rfl⟩
theorem fnOK39 : FnOK Tryd.prog sig.pure 39 fa39 := ⟨Tryd.func39, by kernel_rfl, fun c hc => by cases hc; kernel_rfl⟩
theorem fnOK40 : FnOK Tryd.prog sig.pure 40 fa40 := ⟨Tryd.func40, by kernel_rfl, fun c hc => by cases hc; kernel_rfl⟩
theorem fnOK41 : FnOK Tryd.prog sig.pure 41 fa41 := ⟨Tryd.func41, by kernel_rfl, fun c hc => by cases hc; kernel_rfl⟩
theorem fnOK42 : FnOK Tryd.prog sig.pure 42 fa42 := ⟨Tryd.func42, by kernel_rfl, fun c hc => by cases hc; kernel_rfl⟩
theorem fnOK43 : FnOK Tryd.prog sig.pure 43 fa43 := ⟨Tryd.func43, by kernel_rfl, fun c hc => by cases hc; kernel_rfl⟩
theorem fnOK44 : FnOK Tryd.prog sig.pure 44 fa44 := ⟨Tryd.func44, by kernel_rfl, fun c hc => by cases hc; kernel_rfl⟩
theorem fnOK45 : FnOK Tryd.prog sig.pure 45 fa45 := ⟨Tryd.func45, by kernel_rfl, fun c hc => by cases hc; kernel_rfl⟩
theorem fnOK46 : FnOK Tryd.prog sig.pure 46 fa46 := ⟨Tryd.func46, by kernel_rfl, fun c hc => by cases hc; kernel_rfl⟩
theorem fnOK47 : FnOK Tryd.prog sig.pure 47 fa47 := ⟨Tryd.func47, by kernel_rfl, fun c hc => by cases hc; kernel_rfl⟩
theorem fnOK48 : FnOK Tryd.prog sig.pure 48 fa48 := ⟨Tryd.func48, by kernel_rfl, fun c hc => by cases hc; kernel_rfl⟩
theorem fnOK49 : FnOK Tryd.prog sig.pure 49 fa49 := ⟨Tryd.func49, by kernel_rfl, fun c hc => by cases hc; kernel_rfl⟩
theorem fnOK51 : FnOK Tryd.prog sig.pure 51 fa51 := ⟨Tryd.func51, by kernel_rfl, fun c hc => by cases hc; kernel_rfl⟩
theorem fnOK52 : FnOK Tryd.prog sig.pure 52 fa52 := ⟨Tryd.func52, by kernel_rfl, fun c hc => by cases hc; kernel_rfl⟩
theorem fnOK53 : FnOK Tryd.prog sig.pure 53 fa53 := ⟨Tryd.func53, by kernel_rfl, fun c hc => by cases hc; kernel_rfl⟩
theorem fnOK54 : FnOK Tryd.prog sig.pure 54 fa54 := ⟨Tryd.func54, by kernel_rfl, fun c hc => by cases hc; kernel_rfl⟩
theorem fnOK62 : FnOK Tryd.prog sig.pure 62 fa62 := ⟨Tryd.func62, by kernel_rfl, fun c hc => by cases hc; kernel_rfl⟩
theorem fnOK63 : FnOK Tryd.prog sig.pure 63 fa63 := ⟨Tryd.func63, by kernel_rfl, fun c hc => by cases hc; kernel_rfl⟩
theorem fnOK64 : FnOK Tryd.prog sig.pure 64 fa64 := ⟨Tryd.func64, by kernel_rfl, fun c hc => by cases hc; kernel_rfl⟩
theorem fnOK82 : FnOK Tryd.prog sig.pure 82 fa82 := ⟨Tryd.func82, by kernel_rfl, fun c hc => by cases hc; kernel_rfl⟩
theorem fnOK95 : FnOK Tryd.prog sig.pure 95 fa95 := ⟨Tryd.func95, by kernel_rfl, fun c hc => by cases hc; kernel_rfl⟩

theorem fns_ok : ∀ f fa, fns f = some fa → FnOK Tryd.prog sig.pure f fa := by
  intro f fa h
  unfold fns at h
  split at h <;> first | (cases h; done) | skip
  · cases h; exact fnOK3
  · cases h; exact fnOK4
  · cases h; exact fnOK5
  · cases h; exact fnOK6
  · cases h; exact fnOK7
  · cases h; exact fnOK8
  · cases h; exact fnOK9
  · cases h; exact fnOK10
  · cases h; exact fnOK11
  · cases h; exact fnOK12
  · cases h; exact fnOK13
  · cases h; exact fnOK14
  · cases h; exact fnOK15
  · cases h; exact fnOK16
  · cases h; exact fnOK17
  · cases h; exact fnOK18
  · cases h; exact fnOK19
  · cases h; exact fnOK20
  · cases h; exact fnOK21
  · cases h; exact fnOK22
  · cases h; exact fnOK23
  · cases h; exact fnOK24
  · cases h; exact fnOK25
  · cases h; exact fnOK26
  · cases h; exact fnOK27
  · cases h; exact fnOK28
  · cases h; exact fnOK29
  · cases h; exact fnOK30
  · cases h; exact fnOK31
  · cases h; exact fnOK32
  · cases h; exact fnOK33
  · cases h; exact fnOK34
  · cases h; exact fnOK35
  · cases h; exact fnOK36
  · cases h; exact fnOK37
  · cases h; exact fnOK39
  · cases h; exact fnOK40
  · cases h; exact fnOK41
  · cases h; exact fnOK42
  · cases h; exact fnOK43
  · cases h; exact fnOK44
  · cases h; exact fnOK45
  · cases h; exact fnOK46
  · cases h; exact fnOK47
  · cases h; exact fnOK48
  · cases h; exact fnOK49
  · cases h; exact fnOK51
  · cases h; exact fnOK52
  · cases h; exact fnOK53
  · cases h; exact fnOK54
  · cases h; exact fnOK62
  · cases h; exact fnOK63
  · cases h; exact fnOK64
  · cases h; exact fnOK82
  · cases h; exact fnOK95

theorem prim_own : ∀ f p, primF f = some p → sig.own f = false := by
  intro f p h
  unfold primF at h
  split at h <;> first | rfl | cases h
theorem eff_own : ∀ f p, effF f = some p → sig.own f = true := by
  intro f p h
  unfold effF at h
  split at h <;> first | rfl | cases h
theorem sig_ok : SigOK sig := ⟨by kernel_rfl, fns_ok, fun f h => by
  have h := (show (f == 10) = true from h)
  simp only [Bool.or_eq_true, beq_iff_eq] at h
  rcases h with rfl <;> rfl, fun f p h => ⟨prim_own f p h, prim_ok f p h⟩, fun f p h => ⟨eff_own f p h, eff_ok f p h⟩⟩
theorem sigP : sig.P = Tryd.prog := rfl
attribute [go_sem] sigP
end Go.Proofs.YtfnapmdedmbdbaaDoor
end
