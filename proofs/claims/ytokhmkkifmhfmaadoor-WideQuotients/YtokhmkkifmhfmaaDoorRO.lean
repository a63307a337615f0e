/-
  Walks of chapter 2. The steps are written by program (walk.py).
-/
import Derived.Test.YtokhmkkifmhfmaaDoorRA
import Derived.Test.YtokhmkkifmhfmaaDoorRI
import Derived.Test.YtokhmkkifmhfmaaDoorRM
import Derived.Test.YtokhmkkifmhfmaaDoorRN
set_option linter.unusedSimpArgs false
set_option linter.unusedVariables false
set_option maxHeartbeats 1000000
set_option maxRecDepth 20000
namespace Go.Proofs.YtokhmkkifmhfmaaDoor
open Go Go.Am
theorem sLm (x y z w : AV) (m : Int) : setL [x, y, z, w] 0 ((lm m).map u6) = (lm m).map u6 := rfl
theorem sLn (k m : Int) : setL ((lm k).map u6) 0 ((lm m).map u6) = (lm m).map u6 := rfl
attribute [simp] sLm sLn
attribute [go_sem] sLm sLn
abbrev lc_rdiv_ok (a b c d e f g h i j k m n o p : AV) : Env := [(0,a),(1,b),(2,c),(4,d),(5,e),(6,f),(7,g),(8,h),(9,i),(10,j),(11,k),(12,m),(14,n),(38,o),(56,p)]
theorem rdiv_ok (lim : Nat) (H : Heap) (x : Int) (hx : Fw x) (n : Int) (hn : -9223372036854775808 ≤ n ∧ n ≤ 9223372036854775807) : ACall sig lim 13 [wv x, AV.i n] H fun r H' => r = .tup [wv (dvS x n).1.1, u6 (dvS x n).1.2, .v (.bool (dvS x n).2)] ∧ H' = H := by
 have fx := hx
 unfold Fw at fx
 have hm := ab_rng x
 have hm1 := ab_W hx
 have hk := ab_rng n
 have hk1 := ab_le hn
 refine ACall_pure (fa := fa13) rfl rfl rfl rfl ?_
 have tr : ∀ a0 a1 : AV, env0 fa13.keep [a0, a1] = [(0,a0),(1,a1),(2,.any),(4,.any),(5,.any),(6,.any),(7,.any),(8,.any),(9,.any),(10,.any),(11,.any),(12,.any),(14,.any),(38,.any),(56,.any)] := fun a0 a1 => rfl
 refine W_to (tr _ _) ?_; clear tr
 refine at_seq rfl ?_
 refine rg rfl ?_
 refine R_box rfl (by simp (disch := first | omega | (simp only [List.length_map, List.length_append, List.length_set, List.length_cons, List.length_nil]; omega)) only [go_sem, ↓reduceIte, Nat.reduceEqDiff, reduceCtorEq]; rfl) rfl rfl ?_
 refine R_alloc (by simp (disch := first | omega | (simp only [List.length_map, List.length_append, List.length_set, List.length_cons, List.length_nil]; omega)) only [go_sem, ↓reduceIte, Nat.reduceEqDiff, reduceCtorEq]; rfl) rfl (by simp only [List.map_cons, List.map_nil]; rfl) ?_
 refine Rq ?_
 refine Rq ?_
 have tr : ∀ a b c d e f g h i j k m n o p q r s t : AV, let l := lc_rdiv_ok a b c d e f g h i j k m n o p; trim ((6,t)::(5,s)::(4,r)::(2,q)::l) l = [(0,a),(1,b),(2,q),(4,r),(5,s),(6,t),(7,g),(8,h),(9,i),(10,j),(11,k),(12,m),(14,n),(38,o),(56,p)] := by intros; rfl
 refine R_nil (tr ..) ?_; clear tr
 refine then_n ?_
 refine at_seq rfl ?_
 refine at_seq rfl ?_
 refine rg rfl ?_
 refine Rq ?_
 refine Rq ?_
 have tr : ∀ a b c d e f g h i j k m n o p q r : AV, let l := lc_rdiv_ok a b c d e f g h i j k m n o p; trim ((14,r)::(13,q)::l) l = [(0,a),(1,b),(2,c),(4,d),(5,e),(6,f),(7,g),(8,h),(9,i),(10,j),(11,k),(12,m),(14,r),(38,o),(56,p)] := by intros; rfl
 refine R_nil (tr ..) ?_; clear tr
 refine then_n ?_
 refine cdd (fun h1 => ?_) (fun h1 => ?_)
 ·
  try simp only [decide_eq_true_eq, decide_eq_false_iff_not, decide_eq_decide, Bool.not_eq_true', Bool.not_eq_false', beq_iff_eq, beq_eq_false_iff_ne, ne_eq, Bool.and_eq_true, Bool.and_eq_false_iff, decide_not] at h1
  refine at_seq rfl ?_
  refine rg rfl ?_
  refine Rq ?_
  refine R_store ty24 (by simp (disch := first | omega | (simp only [List.length_map, List.length_append, List.length_set, List.length_cons, List.length_nil]; omega)) only [go_sem, ↓reduceIte, Nat.reduceEqDiff, reduceCtorEq]; rfl) (by simp (disch := first | omega | (simp only [List.length_map, List.length_append, List.length_set, List.length_cons, List.length_nil]; omega)) only [go_sem, ↓reduceIte, Nat.reduceEqDiff, reduceCtorEq]; rfl) (by simp (disch := first | omega | (simp only [List.length_map, List.length_append, List.length_set, List.length_cons, List.length_nil]; omega)) only [go_sem, ↓reduceIte, Nat.reduceEqDiff, reduceCtorEq]; rfl) (by simp) (by rfl) (by simp (disch := first | omega | (simp only [List.length_map, List.length_append, List.length_set, List.length_cons, List.length_nil]; omega)) only [go_sem, ↓reduceIte, Nat.reduceEqDiff, reduceCtorEq]; rfl) ?_
  refine Rq ?_
  refine Rq ?_
  have tr : ∀ a b c d e f g h i j k m n o p q r s : AV, let l := lc_rdiv_ok a b c d e f g h i j k m n o p; trim ((6,s)::(5,r)::(15,q)::l) l = [(0,a),(1,b),(2,c),(4,d),(5,r),(6,s),(7,g),(8,h),(9,i),(10,j),(11,k),(12,m),(14,n),(38,o),(56,p)] := by intros; rfl
  refine R_nil (tr ..) ?_; clear tr
  refine then_n ?_
  refine at_ret rfl ?_
  refine then_r ?_
  first | (refine fin_pure (rs := [.cell 4 24, .tmp 5, .tmp 6]) rfl (by simp (disch := first | omega | (simp only [List.length_map, List.length_append, List.length_set, List.length_cons, List.length_nil]; omega)) only [go_sem, ↓reduceIte, Nat.reduceEqDiff, reduceCtorEq] <;> rfl) (by simp (disch := first | omega | (simp only [List.length_map, List.length_append, List.length_set, List.length_cons, List.length_nil]; omega)) only [go_sem, ↓reduceIte, Nat.reduceEqDiff, reduceCtorEq] <;> rfl) ?_; refine ⟨?_, rfl⟩; rw [dvS, if_pos (by omega)]; exact tupD rfl rfl rfl rfl; done) | (refine fin_pure (rs := [.cell 4 24, .tmp 5, .tmp 6]) rfl (by simp (disch := first | omega | (simp only [List.length_map, List.length_append, List.length_set, List.length_cons, List.length_nil]; omega)) only [go_sem, ↓reduceIte, Nat.reduceEqDiff, reduceCtorEq] <;> rfl) (by simp (disch := first | omega | (simp only [List.length_map, List.length_append, List.length_set, List.length_cons, List.length_nil]; omega)) only [go_sem, ↓reduceIte, Nat.reduceEqDiff, reduceCtorEq] <;> rfl) ?_; refine ⟨?_, rfl⟩; rw [dvS, if_neg (by omega), if_neg hF]; exact tupD rfl rfl rfl rfl; done) | (refine fin_pure (rs := [.cell 4 24, .tmp 5, .tmp 6]) rfl (by simp (disch := first | omega | (simp only [List.length_map, List.length_append, List.length_set, List.length_cons, List.length_nil]; omega)) only [go_sem, ↓reduceIte, Nat.reduceEqDiff, reduceCtorEq] <;> rfl) (by simp (disch := first | omega | (simp only [List.length_map, List.length_append, List.length_set, List.length_cons, List.length_nil]; omega)) only [go_sem, ↓reduceIte, Nat.reduceEqDiff, reduceCtorEq] <;> rfl) ?_; refine ⟨?_, rfl⟩; rw [dvS, if_neg (by omega), if_pos hF, fS_y hF]; exact tupD rfl rfl (show _ = x % n by omega) rfl; done)
 ·
  try simp only [decide_eq_true_eq, decide_eq_false_iff_not, decide_eq_decide, Bool.not_eq_true', Bool.not_eq_false', beq_iff_eq, beq_eq_false_iff_ne, ne_eq, Bool.and_eq_true, Bool.and_eq_false_iff, decide_not] at h1
  refine at_skip rfl ?_
  refine then_n ?_
  refine at_seq rfl ?_
  refine rg rfl ?_
  refine Rq ?_
  refine Rcall ?_
  refine ACall_eq (rof_ok _ _ _ hn) ?_
  refine Rcall ?_
  refine ACall_eq (rsize_ok _ _ n (by unfold Fw; omega)) ?_
  refine R_alloc (by simp (disch := first | omega | (simp only [List.length_map, List.length_append, List.length_set, List.length_cons, List.length_nil]; omega)) only [go_sem, ↓reduceIte, Nat.reduceEqDiff, reduceCtorEq]; rfl) rfl (by simp only [List.map_cons, List.map_nil]; rfl) ?_
  refine R_store ty57 (by simp (disch := first | omega | (simp only [List.length_map, List.length_append, List.length_set, List.length_cons, List.length_nil]; omega)) only [go_sem, ↓reduceIte, Nat.reduceEqDiff, reduceCtorEq]; rfl) (by simp (disch := first | omega | (simp only [List.length_map, List.length_append, List.length_set, List.length_cons, List.length_nil]; omega)) only [go_sem, ↓reduceIte, Nat.reduceEqDiff, reduceCtorEq]; rfl) (by simp (disch := first | omega | (simp only [List.length_map, List.length_append, List.length_set, List.length_cons, List.length_nil]; omega)) only [go_sem, ↓reduceIte, Nat.reduceEqDiff, reduceCtorEq]; rfl) (by simp) (by rfl) (by simp (disch := first | omega | (simp only [List.length_map, List.length_append, List.length_set, List.length_cons, List.length_nil]; omega)) only [go_sem, ↓reduceIte, Nat.reduceEqDiff, reduceCtorEq]; rfl) ?_
  have tr : ∀ a b c d e f g h i j k m n o p q r s t : AV, let l := lc_rdiv_ok a b c d e f g h i j k m n o p; trim ((7,t)::(18,s)::(17,r)::(16,q)::l) l = [(0,a),(1,b),(2,c),(4,d),(5,e),(6,f),(7,t),(8,h),(9,i),(10,j),(11,k),(12,m),(14,n),(38,o),(56,p)] := by intros; rfl
  refine R_nil (tr ..) ?_; clear tr
  refine then_n ?_
  refine at_seq rfl ?_
  refine rg rfl ?_
  have hk0 : 0 < ab n := by unfold ab; split <;> omega
  obtain ⟨D, eD⟩ : ∃ D : Nat, ab n = (D : Int) := ⟨(ab n).toNat, by omega⟩
  obtain ⟨M, eM⟩ : ∃ M : Nat, ab x = (M : Int) := ⟨(ab x).toNat, by omega⟩
  have hdm := Nat.div_add_mod M D
  have hml := Nat.mod_lt M (show 0 < D by omega)
  have hQM : M / D ≤ M := Nat.div_le_self _ _
  obtain ⟨Q, eQ⟩ : ∃ Q, Q = M / D := ⟨_, rfl⟩
  obtain ⟨R, eR⟩ : ∃ R, R = M % D := ⟨_, rfl⟩
  rw [← eQ, ← eR] at hdm
  rw [← eQ] at hQM
  rw [← eR] at hml
  have hM9 : ab x = (Q : Int) * ab n + (R : Int) := by
    rw [eM, eD, ← Int.natCast_mul, ← Int.natCast_add, Nat.mul_comm, hdm]
  refine Rq ?_
  refine Rq ?_
  refine R_q rfl (by simp (disch := first | omega | (simp only [List.length_map, List.length_append, List.length_set, List.length_cons, List.length_nil]; omega)) only [go_sem, ↓reduceIte, Nat.reduceEqDiff, reduceCtorEq] <;> rfl) ?_
  refine Rq ?_
  refine Rq ?_
  refine R_q (r := u6 (D : Int)) rfl (by simp (disch := first | omega | (simp only [List.length_map, List.length_append, List.length_set, List.length_cons, List.length_nil]; omega)) only [go_sem, ↓reduceIte, Nat.reduceEqDiff, reduceCtorEq] <;> exact congrArg (fun z => some (u6 z)) (by omega)) ?_
  refine Rq ?_
  have tr : ∀ a b c d e f g h i j k m n o p q r s t u v w : AV, let l := lc_rdiv_ok a b c d e f g h i j k m n o p; trim ((8,w)::(24,v)::(23,u)::(22,t)::(21,s)::(20,r)::(19,q)::l) l = [(0,a),(1,b),(2,c),(4,d),(5,e),(6,f),(7,g),(8,w),(9,i),(10,j),(11,k),(12,m),(14,n),(38,o),(56,p)] := by intros; rfl
  refine R_nil (tr ..) ?_; clear tr
  refine then_n ?_
  refine at_seq rfl ?_
  refine rg rfl ?_
  refine Rq ?_
  refine Rcall ?_
  refine ACall_eq (rsize_ok _ _ x hx) ?_
  rw [eM]
  refine Rq ?_
  refine Rcall ?_
  refine ACall_eq (divide_ok _ _ M D (by omega) (by omega) (by omega)) ?_
  rw [← eQ, ← eR]
  refine Rq ?_
  refine Rq ?_
  refine Rq ?_
  refine R_alloc (by simp (disch := first | omega | (simp only [List.length_map, List.length_append, List.length_set, List.length_cons, List.length_nil]; omega)) only [go_sem, ↓reduceIte, Nat.reduceEqDiff, reduceCtorEq]; rfl) rfl (by simp only [List.map_cons, List.map_nil]; rfl) ?_
  refine R_store ty57 (by simp (disch := first | omega | (simp only [List.length_map, List.length_append, List.length_set, List.length_cons, List.length_nil]; omega)) only [go_sem, ↓reduceIte, Nat.reduceEqDiff, reduceCtorEq]; rfl) (by simp (disch := first | omega | (simp only [List.length_map, List.length_append, List.length_set, List.length_cons, List.length_nil]; omega)) only [go_sem, ↓reduceIte, Nat.reduceEqDiff, reduceCtorEq]; rfl) (by simp (disch := first | omega | (simp only [List.length_map, List.length_append, List.length_set, List.length_cons, List.length_nil]; omega)) only [go_sem, ↓reduceIte, Nat.reduceEqDiff, reduceCtorEq]; rfl) (by simp) (by rfl) (by simp (disch := first | omega | (simp only [List.length_map, List.length_append, List.length_set, List.length_cons, List.length_nil]; omega)) only [go_sem, ↓reduceIte, Nat.reduceEqDiff, reduceCtorEq]; rfl) ?_
  refine Rq ?_
  have tr : ∀ a b c d e f g h i j k m n o p q r s t u v w x y : AV, let l := lc_rdiv_ok a b c d e f g h i j k m n o p; trim ((10,y)::(9,x)::(31,w)::(30,v)::(25,u)::(29,t)::(28,s)::(27,r)::(26,q)::l) l = [(0,a),(1,b),(2,c),(4,d),(5,e),(6,f),(7,g),(8,h),(9,x),(10,y),(11,k),(12,m),(14,n),(38,o),(56,p)] := by intros; rfl
  refine R_nil (tr ..) ?_; clear tr
  refine then_n ?_
  refine at_seq rfl ?_
  refine at_seq rfl ?_
  refine rg rfl ?_
  refine Rq ?_
  refine Rq ?_
  refine Rq ?_
  refine Rq ?_
  refine Rp_split (fun h2 => ?_) (fun h2 => ?_)
  ·
   try simp only [decide_eq_true_eq, decide_eq_false_iff_not, decide_eq_decide, Bool.not_eq_true', Bool.not_eq_false', beq_iff_eq, beq_eq_false_iff_ne, ne_eq, Bool.and_eq_true, Bool.and_eq_false_iff, decide_not] at h2
   refine Ry ?_
   refine Rq ?_
   refine Ry ?_
   refine Rq ?_
   refine Rq ?_
   have tr : ∀ a b c d e f g h i j k m n o p q r s t u v w : AV, let l := lc_rdiv_ok a b c d e f g h i j k m n o p; trim ((38,w)::(37,v)::(36,u)::(35,t)::(34,s)::(33,r)::(32,q)::l) l = [(0,a),(1,b),(2,c),(4,d),(5,e),(6,f),(7,g),(8,h),(9,i),(10,j),(11,k),(12,m),(14,n),(38,w),(56,p)] := by intros; rfl
   refine R_nil (tr ..) ?_; clear tr
   refine then_n ?_
   refine cdd (fun h3 => ?_) (fun h3 => ?_)
   ·
    try simp only [decide_eq_true_eq, decide_eq_false_iff_not, decide_eq_decide, Bool.not_eq_true', Bool.not_eq_false', beq_iff_eq, beq_eq_false_iff_ne, ne_eq, Bool.and_eq_true, Bool.and_eq_false_iff, decide_not] at h3
    refine rg rfl ?_
    refine Rq ?_
    refine Rcall ?_
    refine ACall_eq (incr_ok _ _ (Q : Int) (by omega)) ?_
    refine Rq ?_
    refine Rq ?_
    refine Rq ?_
    refine R_store ty57 (by simp (disch := first | omega | (simp only [List.length_map, List.length_append, List.length_set, List.length_cons, List.length_nil]; omega)) only [go_sem, ↓reduceIte, Nat.reduceEqDiff, reduceCtorEq]; rfl) (by simp (disch := first | omega | (simp only [List.length_map, List.length_append, List.length_set, List.length_cons, List.length_nil]; omega)) only [go_sem, ↓reduceIte, Nat.reduceEqDiff, reduceCtorEq]; rfl) (by simp (disch := first | omega | (simp only [List.length_map, List.length_append, List.length_set, List.length_cons, List.length_nil]; omega)) only [go_sem, ↓reduceIte, Nat.reduceEqDiff, reduceCtorEq]; rfl) (by simp) (by rfl) (by simp (disch := first | omega | (simp only [List.length_map, List.length_append, List.length_set, List.length_cons, List.length_nil]; omega)) only [go_sem, ↓reduceIte, Nat.reduceEqDiff, reduceCtorEq]; rfl) ?_
    refine Rq ?_
    have tr : ∀ a b c d e f g h i j k m n o p q r s t u v : AV, let l := lc_rdiv_ok a b c d e f g h i j k m n o p; trim ((10,v)::(43,u)::(42,t)::(41,s)::(40,r)::(39,q)::l) l = [(0,a),(1,b),(2,c),(4,d),(5,e),(6,f),(7,g),(8,h),(9,i),(10,v),(11,k),(12,m),(14,n),(38,o),(56,p)] := by intros; rfl
    refine R_nil (tr ..) ?_; clear tr
    refine then_n ?_
    refine at_seq rfl ?_
    refine rg rfl ?_
    obtain ⟨hsg, hrs⟩ := dv_up (x := x) (n := n) (Q := Q) (r := R) (by omega) hM9 (by omega) (by omega) (by omega) (by omega)
    have hQ8 : (0 : Int) ≤ (Q : Int) + 1 ∧ (Q : Int) + 1 ≤ 340282366920938463463374607431768211455 := by omega
    refine Rq ?_
    refine Rq ?_
    refine Rq ?_
    refine Rq ?_
    refine Rq ?_
    refine Rq ?_
    refine Rq ?_
    refine Rcall ?_
    refine ACall_eq (rof2_ok _ _ _ hQ8 _) ?_
    rw [show decide (x / 18446744073709551616 < 0) = decide (x < 0) by rw [decide_eq_decide]; omega, hsg]
    refine Rq ?_
    refine Rq ?_
    refine Rq ?_
    refine R_alloc (by simp (disch := first | omega | (simp only [List.length_map, List.length_append, List.length_set, List.length_cons, List.length_nil]; omega)) only [go_sem, ↓reduceIte, Nat.reduceEqDiff, reduceCtorEq]; rfl) rfl (by simp only [List.map_cons, List.map_nil]; rfl) ?_
    refine R_store ty24 (by simp (disch := first | omega | (simp only [List.length_map, List.length_append, List.length_set, List.length_cons, List.length_nil]; omega)) only [go_sem, ↓reduceIte, Nat.reduceEqDiff, reduceCtorEq]; rfl) (by simp (disch := first | omega | (simp only [List.length_map, List.length_append, List.length_set, List.length_cons, List.length_nil]; omega)) only [go_sem, ↓reduceIte, Nat.reduceEqDiff, reduceCtorEq]; rfl) (by simp (disch := first | omega | (simp only [List.length_map, List.length_append, List.length_set, List.length_cons, List.length_nil]; omega)) only [go_sem, ↓reduceIte, Nat.reduceEqDiff, reduceCtorEq]; rfl) (by simp) (by rfl) (by simp (disch := first | omega | (simp only [List.length_map, List.length_append, List.length_set, List.length_cons, List.length_nil]; omega)) only [go_sem, ↓reduceIte, Nat.reduceEqDiff, reduceCtorEq]; rfl) ?_
    refine Rq ?_
    have tr : ∀ a b c d e f g h i j k m n o p q r s t u v w x y z A B C : AV, let l := lc_rdiv_ok a b c d e f g h i j k m n o p; trim ((12,C)::(11,B)::(54,A)::(53,z)::(44,y)::(52,x)::(51,w)::(50,v)::(49,u)::(48,t)::(47,s)::(46,r)::(45,q)::l) l = [(0,a),(1,b),(2,c),(4,d),(5,e),(6,f),(7,g),(8,h),(9,i),(10,j),(11,B),(12,C),(14,n),(38,o),(56,p)] := by intros; rfl
    refine R_nil (tr ..) ?_; clear tr
    refine then_n ?_
    refine at_seq rfl ?_
    refine at_seq rfl ?_
    refine rg rfl ?_
    refine Rq ?_
    refine Rq ?_
    have tr : ∀ a b c d e f g h i j k m n o p q r : AV, let l := lc_rdiv_ok a b c d e f g h i j k m n o p; trim ((56,r)::(55,q)::l) l = [(0,a),(1,b),(2,c),(4,d),(5,e),(6,f),(7,g),(8,h),(9,i),(10,j),(11,k),(12,m),(14,n),(38,o),(56,r)] := by intros; rfl
    refine R_nil (tr ..) ?_; clear tr
    refine then_n ?_
    refine cdd (fun h4 => ?_) (fun h4 => ?_)
    ·
     try simp only [decide_eq_true_eq, decide_eq_false_iff_not, decide_eq_decide, Bool.not_eq_true', Bool.not_eq_false', beq_iff_eq, beq_eq_false_iff_ne, ne_eq, Bool.and_eq_true, Bool.and_eq_false_iff, decide_not] at h4
     refine at_seq rfl ?_
     refine rg rfl ?_
     have hF := fS_2f (n := x / n) (by assumption)
     refine Rq ?_
     refine R_store ty24 (by simp (disch := first | omega | (simp only [List.length_map, List.length_append, List.length_set, List.length_cons, List.length_nil]; omega)) only [go_sem, ↓reduceIte, Nat.reduceEqDiff, reduceCtorEq]; rfl) (by simp (disch := first | omega | (simp only [List.length_map, List.length_append, List.length_set, List.length_cons, List.length_nil]; omega)) only [go_sem, ↓reduceIte, Nat.reduceEqDiff, reduceCtorEq]; rfl) (by simp (disch := first | omega | (simp only [List.length_map, List.length_append, List.length_set, List.length_cons, List.length_nil]; omega)) only [go_sem, ↓reduceIte, Nat.reduceEqDiff, reduceCtorEq]; rfl) (by simp) (by rfl) (by simp (disch := first | omega | (simp only [List.length_map, List.length_append, List.length_set, List.length_cons, List.length_nil]; omega)) only [go_sem, ↓reduceIte, Nat.reduceEqDiff, reduceCtorEq]; rfl) ?_
     refine Rq ?_
     refine Rq ?_
     have tr : ∀ a b c d e f g h i j k m n o p q r s : AV, let l := lc_rdiv_ok a b c d e f g h i j k m n o p; trim ((6,s)::(5,r)::(57,q)::l) l = [(0,a),(1,b),(2,c),(4,d),(5,r),(6,s),(7,g),(8,h),(9,i),(10,j),(11,k),(12,m),(14,n),(38,o),(56,p)] := by intros; rfl
     refine R_nil (tr ..) ?_; clear tr
     refine then_n ?_
     refine at_ret rfl ?_
     refine then_r ?_
     first | (refine fin_pure (rs := [.cell 4 24, .tmp 5, .tmp 6]) rfl (by simp (disch := first | omega | (simp only [List.length_map, List.length_append, List.length_set, List.length_cons, List.length_nil]; omega)) only [go_sem, ↓reduceIte, Nat.reduceEqDiff, reduceCtorEq] <;> rfl) (by simp (disch := first | omega | (simp only [List.length_map, List.length_append, List.length_set, List.length_cons, List.length_nil]; omega)) only [go_sem, ↓reduceIte, Nat.reduceEqDiff, reduceCtorEq] <;> rfl) ?_; refine ⟨?_, rfl⟩; rw [dvS, if_pos (by omega)]; exact tupD rfl rfl rfl rfl; done) | (refine fin_pure (rs := [.cell 4 24, .tmp 5, .tmp 6]) rfl (by simp (disch := first | omega | (simp only [List.length_map, List.length_append, List.length_set, List.length_cons, List.length_nil]; omega)) only [go_sem, ↓reduceIte, Nat.reduceEqDiff, reduceCtorEq] <;> rfl) (by simp (disch := first | omega | (simp only [List.length_map, List.length_append, List.length_set, List.length_cons, List.length_nil]; omega)) only [go_sem, ↓reduceIte, Nat.reduceEqDiff, reduceCtorEq] <;> rfl) ?_; refine ⟨?_, rfl⟩; rw [dvS, if_neg (by omega), if_neg hF]; exact tupD rfl rfl rfl rfl; done) | (refine fin_pure (rs := [.cell 4 24, .tmp 5, .tmp 6]) rfl (by simp (disch := first | omega | (simp only [List.length_map, List.length_append, List.length_set, List.length_cons, List.length_nil]; omega)) only [go_sem, ↓reduceIte, Nat.reduceEqDiff, reduceCtorEq] <;> rfl) (by simp (disch := first | omega | (simp only [List.length_map, List.length_append, List.length_set, List.length_cons, List.length_nil]; omega)) only [go_sem, ↓reduceIte, Nat.reduceEqDiff, reduceCtorEq] <;> rfl) ?_; refine ⟨?_, rfl⟩; rw [dvS, if_neg (by omega), if_pos hF, fS_y hF]; exact tupD rfl rfl (show _ = x % n by omega) rfl; done)
    ·
     try simp only [decide_eq_true_eq, decide_eq_false_iff_not, decide_eq_decide, Bool.not_eq_true', Bool.not_eq_false', beq_iff_eq, beq_eq_false_iff_ne, ne_eq, Bool.and_eq_true, Bool.and_eq_false_iff, decide_not] at h4
     refine at_skip rfl ?_
     refine then_n ?_
     refine at_seq rfl ?_
     refine rg rfl ?_
     have hF := fS_2t (n := x / n) (by assumption)
     refine Rq ?_
     refine Rq ?_
     refine R_store ty24 (by simp (disch := first | omega | (simp only [List.length_map, List.length_append, List.length_set, List.length_cons, List.length_nil]; omega)) only [go_sem, ↓reduceIte, Nat.reduceEqDiff, reduceCtorEq]; rfl) (by simp (disch := first | omega | (simp only [List.length_map, List.length_append, List.length_set, List.length_cons, List.length_nil]; omega)) only [go_sem, ↓reduceIte, Nat.reduceEqDiff, reduceCtorEq]; rfl) (by simp (disch := first | omega | (simp only [List.length_map, List.length_append, List.length_set, List.length_cons, List.length_nil]; omega)) only [go_sem, ↓reduceIte, Nat.reduceEqDiff, reduceCtorEq]; rfl) (by simp) (by rfl) (by simp (disch := first | omega | (simp only [List.length_map, List.length_append, List.length_set, List.length_cons, List.length_nil]; omega)) only [go_sem, ↓reduceIte, Nat.reduceEqDiff, reduceCtorEq]; rfl) ?_
     refine Rq ?_
     refine Rq ?_
     have tr : ∀ a b c d e f g h i j k m n o p q r s t : AV, let l := lc_rdiv_ok a b c d e f g h i j k m n o p; trim ((6,t)::(5,s)::(59,r)::(58,q)::l) l = [(0,a),(1,b),(2,c),(4,d),(5,s),(6,t),(7,g),(8,h),(9,i),(10,j),(11,k),(12,m),(14,n),(38,o),(56,p)] := by intros; rfl
     refine R_nil (tr ..) ?_; clear tr
     refine then_n ?_
     refine at_ret rfl ?_
     first | (refine fin_pure (rs := [.cell 4 24, .tmp 5, .tmp 6]) rfl (by simp (disch := first | omega | (simp only [List.length_map, List.length_append, List.length_set, List.length_cons, List.length_nil]; omega)) only [go_sem, ↓reduceIte, Nat.reduceEqDiff, reduceCtorEq] <;> rfl) (by simp (disch := first | omega | (simp only [List.length_map, List.length_append, List.length_set, List.length_cons, List.length_nil]; omega)) only [go_sem, ↓reduceIte, Nat.reduceEqDiff, reduceCtorEq] <;> rfl) ?_; refine ⟨?_, rfl⟩; rw [dvS, if_pos (by omega)]; exact tupD rfl rfl rfl rfl; done) | (refine fin_pure (rs := [.cell 4 24, .tmp 5, .tmp 6]) rfl (by simp (disch := first | omega | (simp only [List.length_map, List.length_append, List.length_set, List.length_cons, List.length_nil]; omega)) only [go_sem, ↓reduceIte, Nat.reduceEqDiff, reduceCtorEq] <;> rfl) (by simp (disch := first | omega | (simp only [List.length_map, List.length_append, List.length_set, List.length_cons, List.length_nil]; omega)) only [go_sem, ↓reduceIte, Nat.reduceEqDiff, reduceCtorEq] <;> rfl) ?_; refine ⟨?_, rfl⟩; rw [dvS, if_neg (by omega), if_neg hF]; exact tupD rfl rfl rfl rfl; done) | (refine fin_pure (rs := [.cell 4 24, .tmp 5, .tmp 6]) rfl (by simp (disch := first | omega | (simp only [List.length_map, List.length_append, List.length_set, List.length_cons, List.length_nil]; omega)) only [go_sem, ↓reduceIte, Nat.reduceEqDiff, reduceCtorEq] <;> rfl) (by simp (disch := first | omega | (simp only [List.length_map, List.length_append, List.length_set, List.length_cons, List.length_nil]; omega)) only [go_sem, ↓reduceIte, Nat.reduceEqDiff, reduceCtorEq] <;> rfl) ?_; refine ⟨?_, rfl⟩; rw [dvS, if_neg (by omega), if_pos hF, fS_y hF]; exact tupD rfl rfl (show _ = x % n by omega) rfl; done)
   ·
    try simp only [decide_eq_true_eq, decide_eq_false_iff_not, decide_eq_decide, Bool.not_eq_true', Bool.not_eq_false', beq_iff_eq, beq_eq_false_iff_ne, ne_eq, Bool.and_eq_true, Bool.and_eq_false_iff, decide_not] at h3
    refine at_skip rfl ?_
    refine then_n ?_
    refine at_seq rfl ?_
    refine rg rfl ?_
    obtain ⟨hsg, hrs⟩ := dv_zero (x := x) (n := n) (Q := Q) (r := R) (by omega) hM9 (by omega) (by omega) (by omega) (by omega)
    have hQ8 : (0 : Int) ≤ (Q : Int) ∧ (Q : Int) ≤ 340282366920938463463374607431768211455 := by omega
    refine Rq ?_
    refine Rq ?_
    refine Rq ?_
    refine Rq ?_
    refine Rq ?_
    refine Rq ?_
    refine Rq ?_
    refine Rcall ?_
    refine ACall_eq (rof2_ok _ _ _ hQ8 _) ?_
    rw [show decide (x / 18446744073709551616 < 0) = decide (x < 0) by rw [decide_eq_decide]; omega, hsg]
    refine Rq ?_
    refine Rq ?_
    refine Rq ?_
    refine R_alloc (by simp (disch := first | omega | (simp only [List.length_map, List.length_append, List.length_set, List.length_cons, List.length_nil]; omega)) only [go_sem, ↓reduceIte, Nat.reduceEqDiff, reduceCtorEq]; rfl) rfl (by simp only [List.map_cons, List.map_nil]; rfl) ?_
    refine R_store ty24 (by simp (disch := first | omega | (simp only [List.length_map, List.length_append, List.length_set, List.length_cons, List.length_nil]; omega)) only [go_sem, ↓reduceIte, Nat.reduceEqDiff, reduceCtorEq]; rfl) (by simp (disch := first | omega | (simp only [List.length_map, List.length_append, List.length_set, List.length_cons, List.length_nil]; omega)) only [go_sem, ↓reduceIte, Nat.reduceEqDiff, reduceCtorEq]; rfl) (by simp (disch := first | omega | (simp only [List.length_map, List.length_append, List.length_set, List.length_cons, List.length_nil]; omega)) only [go_sem, ↓reduceIte, Nat.reduceEqDiff, reduceCtorEq]; rfl) (by simp) (by rfl) (by simp (disch := first | omega | (simp only [List.length_map, List.length_append, List.length_set, List.length_cons, List.length_nil]; omega)) only [go_sem, ↓reduceIte, Nat.reduceEqDiff, reduceCtorEq]; rfl) ?_
    refine Rq ?_
    have tr : ∀ a b c d e f g h i j k m n o p q r s t u v w x y z A B C : AV, let l := lc_rdiv_ok a b c d e f g h i j k m n o p; trim ((12,C)::(11,B)::(54,A)::(53,z)::(44,y)::(52,x)::(51,w)::(50,v)::(49,u)::(48,t)::(47,s)::(46,r)::(45,q)::l) l = [(0,a),(1,b),(2,c),(4,d),(5,e),(6,f),(7,g),(8,h),(9,i),(10,j),(11,B),(12,C),(14,n),(38,o),(56,p)] := by intros; rfl
    refine R_nil (tr ..) ?_; clear tr
    refine then_n ?_
    refine at_seq rfl ?_
    refine at_seq rfl ?_
    refine rg rfl ?_
    refine Rq ?_
    refine Rq ?_
    have tr : ∀ a b c d e f g h i j k m n o p q r : AV, let l := lc_rdiv_ok a b c d e f g h i j k m n o p; trim ((56,r)::(55,q)::l) l = [(0,a),(1,b),(2,c),(4,d),(5,e),(6,f),(7,g),(8,h),(9,i),(10,j),(11,k),(12,m),(14,n),(38,o),(56,r)] := by intros; rfl
    refine R_nil (tr ..) ?_; clear tr
    refine then_n ?_
    refine cdd (fun h5 => ?_) (fun h5 => ?_)
    ·
     try simp only [decide_eq_true_eq, decide_eq_false_iff_not, decide_eq_decide, Bool.not_eq_true', Bool.not_eq_false', beq_iff_eq, beq_eq_false_iff_ne, ne_eq, Bool.and_eq_true, Bool.and_eq_false_iff, decide_not] at h5
     refine at_seq rfl ?_
     refine rg rfl ?_
     have hF := fS_2f (n := x / n) (by assumption)
     refine Rq ?_
     refine R_store ty24 (by simp (disch := first | omega | (simp only [List.length_map, List.length_append, List.length_set, List.length_cons, List.length_nil]; omega)) only [go_sem, ↓reduceIte, Nat.reduceEqDiff, reduceCtorEq]; rfl) (by simp (disch := first | omega | (simp only [List.length_map, List.length_append, List.length_set, List.length_cons, List.length_nil]; omega)) only [go_sem, ↓reduceIte, Nat.reduceEqDiff, reduceCtorEq]; rfl) (by simp (disch := first | omega | (simp only [List.length_map, List.length_append, List.length_set, List.length_cons, List.length_nil]; omega)) only [go_sem, ↓reduceIte, Nat.reduceEqDiff, reduceCtorEq]; rfl) (by simp) (by rfl) (by simp (disch := first | omega | (simp only [List.length_map, List.length_append, List.length_set, List.length_cons, List.length_nil]; omega)) only [go_sem, ↓reduceIte, Nat.reduceEqDiff, reduceCtorEq]; rfl) ?_
     refine Rq ?_
     refine Rq ?_
     have tr : ∀ a b c d e f g h i j k m n o p q r s : AV, let l := lc_rdiv_ok a b c d e f g h i j k m n o p; trim ((6,s)::(5,r)::(57,q)::l) l = [(0,a),(1,b),(2,c),(4,d),(5,r),(6,s),(7,g),(8,h),(9,i),(10,j),(11,k),(12,m),(14,n),(38,o),(56,p)] := by intros; rfl
     refine R_nil (tr ..) ?_; clear tr
     refine then_n ?_
     refine at_ret rfl ?_
     refine then_r ?_
     first | (refine fin_pure (rs := [.cell 4 24, .tmp 5, .tmp 6]) rfl (by simp (disch := first | omega | (simp only [List.length_map, List.length_append, List.length_set, List.length_cons, List.length_nil]; omega)) only [go_sem, ↓reduceIte, Nat.reduceEqDiff, reduceCtorEq] <;> rfl) (by simp (disch := first | omega | (simp only [List.length_map, List.length_append, List.length_set, List.length_cons, List.length_nil]; omega)) only [go_sem, ↓reduceIte, Nat.reduceEqDiff, reduceCtorEq] <;> rfl) ?_; refine ⟨?_, rfl⟩; rw [dvS, if_pos (by omega)]; exact tupD rfl rfl rfl rfl; done) | (refine fin_pure (rs := [.cell 4 24, .tmp 5, .tmp 6]) rfl (by simp (disch := first | omega | (simp only [List.length_map, List.length_append, List.length_set, List.length_cons, List.length_nil]; omega)) only [go_sem, ↓reduceIte, Nat.reduceEqDiff, reduceCtorEq] <;> rfl) (by simp (disch := first | omega | (simp only [List.length_map, List.length_append, List.length_set, List.length_cons, List.length_nil]; omega)) only [go_sem, ↓reduceIte, Nat.reduceEqDiff, reduceCtorEq] <;> rfl) ?_; refine ⟨?_, rfl⟩; rw [dvS, if_neg (by omega), if_neg hF]; exact tupD rfl rfl rfl rfl; done) | (refine fin_pure (rs := [.cell 4 24, .tmp 5, .tmp 6]) rfl (by simp (disch := first | omega | (simp only [List.length_map, List.length_append, List.length_set, List.length_cons, List.length_nil]; omega)) only [go_sem, ↓reduceIte, Nat.reduceEqDiff, reduceCtorEq] <;> rfl) (by simp (disch := first | omega | (simp only [List.length_map, List.length_append, List.length_set, List.length_cons, List.length_nil]; omega)) only [go_sem, ↓reduceIte, Nat.reduceEqDiff, reduceCtorEq] <;> rfl) ?_; refine ⟨?_, rfl⟩; rw [dvS, if_neg (by omega), if_pos hF, fS_y hF]; exact tupD rfl rfl (show _ = x % n by omega) rfl; done)
    ·
     try simp only [decide_eq_true_eq, decide_eq_false_iff_not, decide_eq_decide, Bool.not_eq_true', Bool.not_eq_false', beq_iff_eq, beq_eq_false_iff_ne, ne_eq, Bool.and_eq_true, Bool.and_eq_false_iff, decide_not] at h5
     refine at_skip rfl ?_
     refine then_n ?_
     refine at_seq rfl ?_
     refine rg rfl ?_
     have hF := fS_2t (n := x / n) (by assumption)
     refine Rq ?_
     refine Rq ?_
     refine R_store ty24 (by simp (disch := first | omega | (simp only [List.length_map, List.length_append, List.length_set, List.length_cons, List.length_nil]; omega)) only [go_sem, ↓reduceIte, Nat.reduceEqDiff, reduceCtorEq]; rfl) (by simp (disch := first | omega | (simp only [List.length_map, List.length_append, List.length_set, List.length_cons, List.length_nil]; omega)) only [go_sem, ↓reduceIte, Nat.reduceEqDiff, reduceCtorEq]; rfl) (by simp (disch := first | omega | (simp only [List.length_map, List.length_append, List.length_set, List.length_cons, List.length_nil]; omega)) only [go_sem, ↓reduceIte, Nat.reduceEqDiff, reduceCtorEq]; rfl) (by simp) (by rfl) (by simp (disch := first | omega | (simp only [List.length_map, List.length_append, List.length_set, List.length_cons, List.length_nil]; omega)) only [go_sem, ↓reduceIte, Nat.reduceEqDiff, reduceCtorEq]; rfl) ?_
     refine Rq ?_
     refine Rq ?_
     have tr : ∀ a b c d e f g h i j k m n o p q r s t : AV, let l := lc_rdiv_ok a b c d e f g h i j k m n o p; trim ((6,t)::(5,s)::(59,r)::(58,q)::l) l = [(0,a),(1,b),(2,c),(4,d),(5,s),(6,t),(7,g),(8,h),(9,i),(10,j),(11,k),(12,m),(14,n),(38,o),(56,p)] := by intros; rfl
     refine R_nil (tr ..) ?_; clear tr
     refine then_n ?_
     refine at_ret rfl ?_
     first | (refine fin_pure (rs := [.cell 4 24, .tmp 5, .tmp 6]) rfl (by simp (disch := first | omega | (simp only [List.length_map, List.length_append, List.length_set, List.length_cons, List.length_nil]; omega)) only [go_sem, ↓reduceIte, Nat.reduceEqDiff, reduceCtorEq] <;> rfl) (by simp (disch := first | omega | (simp only [List.length_map, List.length_append, List.length_set, List.length_cons, List.length_nil]; omega)) only [go_sem, ↓reduceIte, Nat.reduceEqDiff, reduceCtorEq] <;> rfl) ?_; refine ⟨?_, rfl⟩; rw [dvS, if_pos (by omega)]; exact tupD rfl rfl rfl rfl; done) | (refine fin_pure (rs := [.cell 4 24, .tmp 5, .tmp 6]) rfl (by simp (disch := first | omega | (simp only [List.length_map, List.length_append, List.length_set, List.length_cons, List.length_nil]; omega)) only [go_sem, ↓reduceIte, Nat.reduceEqDiff, reduceCtorEq] <;> rfl) (by simp (disch := first | omega | (simp only [List.length_map, List.length_append, List.length_set, List.length_cons, List.length_nil]; omega)) only [go_sem, ↓reduceIte, Nat.reduceEqDiff, reduceCtorEq] <;> rfl) ?_; refine ⟨?_, rfl⟩; rw [dvS, if_neg (by omega), if_neg hF]; exact tupD rfl rfl rfl rfl; done) | (refine fin_pure (rs := [.cell 4 24, .tmp 5, .tmp 6]) rfl (by simp (disch := first | omega | (simp only [List.length_map, List.length_append, List.length_set, List.length_cons, List.length_nil]; omega)) only [go_sem, ↓reduceIte, Nat.reduceEqDiff, reduceCtorEq] <;> rfl) (by simp (disch := first | omega | (simp only [List.length_map, List.length_append, List.length_set, List.length_cons, List.length_nil]; omega)) only [go_sem, ↓reduceIte, Nat.reduceEqDiff, reduceCtorEq] <;> rfl) ?_; refine ⟨?_, rfl⟩; rw [dvS, if_neg (by omega), if_pos hF, fS_y hF]; exact tupD rfl rfl (show _ = x % n by omega) rfl; done)
  ·
   try simp only [decide_eq_true_eq, decide_eq_false_iff_not, decide_eq_decide, Bool.not_eq_true', Bool.not_eq_false', beq_iff_eq, beq_eq_false_iff_ne, ne_eq, Bool.and_eq_true, Bool.and_eq_false_iff, decide_not] at h2
   refine Rn ?_
   refine Rn ?_
   refine Rq ?_
   have tr : ∀ a b c d e f g h i j k m n o p q r s t u v w : AV, let l := lc_rdiv_ok a b c d e f g h i j k m n o p; trim ((38,w)::(37,v)::(36,u)::(35,t)::(34,s)::(33,r)::(32,q)::l) l = [(0,a),(1,b),(2,c),(4,d),(5,e),(6,f),(7,g),(8,h),(9,i),(10,j),(11,k),(12,m),(14,n),(38,w),(56,p)] := by intros; rfl
   refine R_nil (tr ..) ?_; clear tr
   refine then_n ?_
   refine cdf ?_
   refine at_skip rfl ?_
   refine then_n ?_
   refine at_seq rfl ?_
   refine rg rfl ?_
   obtain ⟨hsg, hrs⟩ := dv_pos (x := x) (n := n) (Q := Q) (r := R) (by omega) hM9 (by omega) (by omega) (by omega)
   have hQ8 : (0 : Int) ≤ (Q : Int) ∧ (Q : Int) ≤ 340282366920938463463374607431768211455 := by omega
   refine Rq ?_
   refine Rq ?_
   refine Rq ?_
   refine Rq ?_
   refine Rq ?_
   refine Rq ?_
   refine Rq ?_
   refine Rcall ?_
   refine ACall_eq (rof2_ok _ _ _ hQ8 _) ?_
   rw [show decide (x / 18446744073709551616 < 0) = decide (x < 0) by rw [decide_eq_decide]; omega, hsg]
   refine Rq ?_
   refine Rq ?_
   refine Rq ?_
   refine R_alloc (by simp (disch := first | omega | (simp only [List.length_map, List.length_append, List.length_set, List.length_cons, List.length_nil]; omega)) only [go_sem, ↓reduceIte, Nat.reduceEqDiff, reduceCtorEq]; rfl) rfl (by simp only [List.map_cons, List.map_nil]; rfl) ?_
   refine R_store ty24 (by simp (disch := first | omega | (simp only [List.length_map, List.length_append, List.length_set, List.length_cons, List.length_nil]; omega)) only [go_sem, ↓reduceIte, Nat.reduceEqDiff, reduceCtorEq]; rfl) (by simp (disch := first | omega | (simp only [List.length_map, List.length_append, List.length_set, List.length_cons, List.length_nil]; omega)) only [go_sem, ↓reduceIte, Nat.reduceEqDiff, reduceCtorEq]; rfl) (by simp (disch := first | omega | (simp only [List.length_map, List.length_append, List.length_set, List.length_cons, List.length_nil]; omega)) only [go_sem, ↓reduceIte, Nat.reduceEqDiff, reduceCtorEq]; rfl) (by simp) (by rfl) (by simp (disch := first | omega | (simp only [List.length_map, List.length_append, List.length_set, List.length_cons, List.length_nil]; omega)) only [go_sem, ↓reduceIte, Nat.reduceEqDiff, reduceCtorEq]; rfl) ?_
   refine Rq ?_
   have tr : ∀ a b c d e f g h i j k m n o p q r s t u v w x y z A B C : AV, let l := lc_rdiv_ok a b c d e f g h i j k m n o p; trim ((12,C)::(11,B)::(54,A)::(53,z)::(44,y)::(52,x)::(51,w)::(50,v)::(49,u)::(48,t)::(47,s)::(46,r)::(45,q)::l) l = [(0,a),(1,b),(2,c),(4,d),(5,e),(6,f),(7,g),(8,h),(9,i),(10,j),(11,B),(12,C),(14,n),(38,o),(56,p)] := by intros; rfl
   refine R_nil (tr ..) ?_; clear tr
   refine then_n ?_
   refine at_seq rfl ?_
   refine at_seq rfl ?_
   refine rg rfl ?_
   refine Rq ?_
   refine Rq ?_
   have tr : ∀ a b c d e f g h i j k m n o p q r : AV, let l := lc_rdiv_ok a b c d e f g h i j k m n o p; trim ((56,r)::(55,q)::l) l = [(0,a),(1,b),(2,c),(4,d),(5,e),(6,f),(7,g),(8,h),(9,i),(10,j),(11,k),(12,m),(14,n),(38,o),(56,r)] := by intros; rfl
   refine R_nil (tr ..) ?_; clear tr
   refine then_n ?_
   refine cdd (fun h6 => ?_) (fun h6 => ?_)
   ·
    try simp only [decide_eq_true_eq, decide_eq_false_iff_not, decide_eq_decide, Bool.not_eq_true', Bool.not_eq_false', beq_iff_eq, beq_eq_false_iff_ne, ne_eq, Bool.and_eq_true, Bool.and_eq_false_iff, decide_not] at h6
    refine at_seq rfl ?_
    refine rg rfl ?_
    have hF := fS_2f (n := x / n) (by assumption)
    refine Rq ?_
    refine R_store ty24 (by simp (disch := first | omega | (simp only [List.length_map, List.length_append, List.length_set, List.length_cons, List.length_nil]; omega)) only [go_sem, ↓reduceIte, Nat.reduceEqDiff, reduceCtorEq]; rfl) (by simp (disch := first | omega | (simp only [List.length_map, List.length_append, List.length_set, List.length_cons, List.length_nil]; omega)) only [go_sem, ↓reduceIte, Nat.reduceEqDiff, reduceCtorEq]; rfl) (by simp (disch := first | omega | (simp only [List.length_map, List.length_append, List.length_set, List.length_cons, List.length_nil]; omega)) only [go_sem, ↓reduceIte, Nat.reduceEqDiff, reduceCtorEq]; rfl) (by simp) (by rfl) (by simp (disch := first | omega | (simp only [List.length_map, List.length_append, List.length_set, List.length_cons, List.length_nil]; omega)) only [go_sem, ↓reduceIte, Nat.reduceEqDiff, reduceCtorEq]; rfl) ?_
    refine Rq ?_
    refine Rq ?_
    have tr : ∀ a b c d e f g h i j k m n o p q r s : AV, let l := lc_rdiv_ok a b c d e f g h i j k m n o p; trim ((6,s)::(5,r)::(57,q)::l) l = [(0,a),(1,b),(2,c),(4,d),(5,r),(6,s),(7,g),(8,h),(9,i),(10,j),(11,k),(12,m),(14,n),(38,o),(56,p)] := by intros; rfl
    refine R_nil (tr ..) ?_; clear tr
    refine then_n ?_
    refine at_ret rfl ?_
    refine then_r ?_
    first | (refine fin_pure (rs := [.cell 4 24, .tmp 5, .tmp 6]) rfl (by simp (disch := first | omega | (simp only [List.length_map, List.length_append, List.length_set, List.length_cons, List.length_nil]; omega)) only [go_sem, ↓reduceIte, Nat.reduceEqDiff, reduceCtorEq] <;> rfl) (by simp (disch := first | omega | (simp only [List.length_map, List.length_append, List.length_set, List.length_cons, List.length_nil]; omega)) only [go_sem, ↓reduceIte, Nat.reduceEqDiff, reduceCtorEq] <;> rfl) ?_; refine ⟨?_, rfl⟩; rw [dvS, if_pos (by omega)]; exact tupD rfl rfl rfl rfl; done) | (refine fin_pure (rs := [.cell 4 24, .tmp 5, .tmp 6]) rfl (by simp (disch := first | omega | (simp only [List.length_map, List.length_append, List.length_set, List.length_cons, List.length_nil]; omega)) only [go_sem, ↓reduceIte, Nat.reduceEqDiff, reduceCtorEq] <;> rfl) (by simp (disch := first | omega | (simp only [List.length_map, List.length_append, List.length_set, List.length_cons, List.length_nil]; omega)) only [go_sem, ↓reduceIte, Nat.reduceEqDiff, reduceCtorEq] <;> rfl) ?_; refine ⟨?_, rfl⟩; rw [dvS, if_neg (by omega), if_neg hF]; exact tupD rfl rfl rfl rfl; done) | (refine fin_pure (rs := [.cell 4 24, .tmp 5, .tmp 6]) rfl (by simp (disch := first | omega | (simp only [List.length_map, List.length_append, List.length_set, List.length_cons, List.length_nil]; omega)) only [go_sem, ↓reduceIte, Nat.reduceEqDiff, reduceCtorEq] <;> rfl) (by simp (disch := first | omega | (simp only [List.length_map, List.length_append, List.length_set, List.length_cons, List.length_nil]; omega)) only [go_sem, ↓reduceIte, Nat.reduceEqDiff, reduceCtorEq] <;> rfl) ?_; refine ⟨?_, rfl⟩; rw [dvS, if_neg (by omega), if_pos hF, fS_y hF]; exact tupD rfl rfl (show _ = x % n by omega) rfl; done)
   ·
    try simp only [decide_eq_true_eq, decide_eq_false_iff_not, decide_eq_decide, Bool.not_eq_true', Bool.not_eq_false', beq_iff_eq, beq_eq_false_iff_ne, ne_eq, Bool.and_eq_true, Bool.and_eq_false_iff, decide_not] at h6
    refine at_skip rfl ?_
    refine then_n ?_
    refine at_seq rfl ?_
    refine rg rfl ?_
    have hF := fS_2t (n := x / n) (by assumption)
    refine Rq ?_
    refine Rq ?_
    refine R_store ty24 (by simp (disch := first | omega | (simp only [List.length_map, List.length_append, List.length_set, List.length_cons, List.length_nil]; omega)) only [go_sem, ↓reduceIte, Nat.reduceEqDiff, reduceCtorEq]; rfl) (by simp (disch := first | omega | (simp only [List.length_map, List.length_append, List.length_set, List.length_cons, List.length_nil]; omega)) only [go_sem, ↓reduceIte, Nat.reduceEqDiff, reduceCtorEq]; rfl) (by simp (disch := first | omega | (simp only [List.length_map, List.length_append, List.length_set, List.length_cons, List.length_nil]; omega)) only [go_sem, ↓reduceIte, Nat.reduceEqDiff, reduceCtorEq]; rfl) (by simp) (by rfl) (by simp (disch := first | omega | (simp only [List.length_map, List.length_append, List.length_set, List.length_cons, List.length_nil]; omega)) only [go_sem, ↓reduceIte, Nat.reduceEqDiff, reduceCtorEq]; rfl) ?_
    refine Rq ?_
    refine Rq ?_
    have tr : ∀ a b c d e f g h i j k m n o p q r s t : AV, let l := lc_rdiv_ok a b c d e f g h i j k m n o p; trim ((6,t)::(5,s)::(59,r)::(58,q)::l) l = [(0,a),(1,b),(2,c),(4,d),(5,s),(6,t),(7,g),(8,h),(9,i),(10,j),(11,k),(12,m),(14,n),(38,o),(56,p)] := by intros; rfl
    refine R_nil (tr ..) ?_; clear tr
    refine then_n ?_
    refine at_ret rfl ?_
    first | (refine fin_pure (rs := [.cell 4 24, .tmp 5, .tmp 6]) rfl (by simp (disch := first | omega | (simp only [List.length_map, List.length_append, List.length_set, List.length_cons, List.length_nil]; omega)) only [go_sem, ↓reduceIte, Nat.reduceEqDiff, reduceCtorEq] <;> rfl) (by simp (disch := first | omega | (simp only [List.length_map, List.length_append, List.length_set, List.length_cons, List.length_nil]; omega)) only [go_sem, ↓reduceIte, Nat.reduceEqDiff, reduceCtorEq] <;> rfl) ?_; refine ⟨?_, rfl⟩; rw [dvS, if_pos (by omega)]; exact tupD rfl rfl rfl rfl; done) | (refine fin_pure (rs := [.cell 4 24, .tmp 5, .tmp 6]) rfl (by simp (disch := first | omega | (simp only [List.length_map, List.length_append, List.length_set, List.length_cons, List.length_nil]; omega)) only [go_sem, ↓reduceIte, Nat.reduceEqDiff, reduceCtorEq] <;> rfl) (by simp (disch := first | omega | (simp only [List.length_map, List.length_append, List.length_set, List.length_cons, List.length_nil]; omega)) only [go_sem, ↓reduceIte, Nat.reduceEqDiff, reduceCtorEq] <;> rfl) ?_; refine ⟨?_, rfl⟩; rw [dvS, if_neg (by omega), if_neg hF]; exact tupD rfl rfl rfl rfl; done) | (refine fin_pure (rs := [.cell 4 24, .tmp 5, .tmp 6]) rfl (by simp (disch := first | omega | (simp only [List.length_map, List.length_append, List.length_set, List.length_cons, List.length_nil]; omega)) only [go_sem, ↓reduceIte, Nat.reduceEqDiff, reduceCtorEq] <;> rfl) (by simp (disch := first | omega | (simp only [List.length_map, List.length_append, List.length_set, List.length_cons, List.length_nil]; omega)) only [go_sem, ↓reduceIte, Nat.reduceEqDiff, reduceCtorEq] <;> rfl) ?_; refine ⟨?_, rfl⟩; rw [dvS, if_neg (by omega), if_pos hF, fS_y hF]; exact tupD rfl rfl (show _ = x % n by omega) rfl; done)

end Go.Proofs.YtokhmkkifmhfmaaDoor
