/-
  Walks of chapter 51. The steps are written by program (walk.py).
-/
import Derived.Test.YtfnapmdedmbdbaaDoorQD
import Derived.Test.YtfnapmdedmbdbaaDoorQB
import Derived.Test.YtfnapmdedmbdbaaDoorAw
set_option linter.unusedSimpArgs false
set_option linter.unusedVariables false
set_option maxHeartbeats 1000000
set_option maxRecDepth 20000
namespace Go.Proofs.YtfnapmdedmbdbaaDoor
open Go Go.Am
abbrev lc_porders_ok (a b c d e f g h i j k m n o p q : AV) : Env := [(0,a),(1,b),(2,c),(3,d),(4,e),(5,f),(6,g),(8,h),(10,i),(12,j),(16,k),(17,m),(18,n),(19,o),(28,p),(45,q)]
theorem porders_ok (lim : Nat) (H : Heap) (x y z : St) : ACall sig lim 4 [stA x, stA y, stA z] H fun r _ => r = .v (.bool true) := by
 refine ACall_pure (fa := fa4) rfl rfl rfl rfl ?_
 have tr : ∀ a0 a1 a2 : AV, env0 fa4.keep [a0, a1, a2] = [(0,a0),(1,a1),(2,a2),(3,.any),(4,.any),(5,.any),(6,.any),(8,.any),(10,.any),(12,.any),(16,.any),(17,.any),(18,.any),(19,.any),(28,.any),(45,.any)] := fun a0 a1 a2 => rfl
 refine W_to (tr _ _ _) ?_; clear tr
 refine at_seq rfl ?_
 refine rg rfl ?_
 refine R_box rfl (by simp (disch := first | omega | (simp only [List.length_map, List.length_append, List.length_set, List.length_cons, List.length_nil]; omega)) only [go_sem, ↓reduceIte, Nat.reduceEqDiff, reduceCtorEq]; rfl) rfl rfl ?_
 refine R_box rfl (by simp (disch := first | omega | (simp only [List.length_map, List.length_append, List.length_set, List.length_cons, List.length_nil]; omega)) only [go_sem, ↓reduceIte, Nat.reduceEqDiff, reduceCtorEq]; rfl) rfl rfl ?_
 refine R_box rfl (by simp (disch := first | omega | (simp only [List.length_map, List.length_append, List.length_set, List.length_cons, List.length_nil]; omega)) only [go_sem, ↓reduceIte, Nat.reduceEqDiff, reduceCtorEq]; rfl) rfl rfl ?_
 refine Rq ?_
 have tr : ∀ a b c d e f g h i j k m n o p q r s t u : AV, let l := lc_porders_ok a b c d e f g h i j k m n o p q; trim ((6,u)::(5,t)::(4,s)::(3,r)::l) l = [(0,a),(1,b),(2,c),(3,r),(4,s),(5,t),(6,u),(8,h),(10,i),(12,j),(16,k),(17,m),(18,n),(19,o),(28,p),(45,q)] := by intros; rfl
 refine R_nil (tr ..) ?_; clear tr
 refine then_n ?_
 refine at_seq rfl ?_
 refine at_seq rfl ?_
 refine rg rfl ?_
 refine Rcall ?_
 refine ACall_eval 400 (awake51 _ _) ?_
 refine Rq ?_
 have tr : ∀ a b c d e f g h i j k m n o p q r s : AV, let l := lc_porders_ok a b c d e f g h i j k m n o p q; trim ((12,s)::(11,r)::l) l = [(0,a),(1,b),(2,c),(3,d),(4,e),(5,f),(6,g),(8,h),(10,i),(12,s),(16,k),(17,m),(18,n),(19,o),(28,p),(45,q)] := by intros; rfl
 refine R_nil (tr ..) ?_; clear tr
 refine then_n ?_
 refine cdf ?_
 refine at_skip rfl ?_
 refine then_n ?_
 refine at_seq rfl ?_
 refine at_seq rfl ?_
 refine rg rfl ?_
 refine Rq ?_
 refine Rq ?_
 refine Rq ?_
 refine R_buildSlice (bs27 _ _ _ _ _ _ x y z (by simp (disch := first | omega | (simp only [List.length_map, List.length_append, List.length_set, List.length_cons, List.length_nil]; omega)) only [go_sem, ↓reduceIte, Nat.reduceEqDiff, reduceCtorEq] <;> rfl) (by simp (disch := first | omega | (simp only [List.length_map, List.length_append, List.length_set, List.length_cons, List.length_nil]; omega)) only [go_sem, ↓reduceIte, Nat.reduceEqDiff, reduceCtorEq] <;> rfl) (by simp (disch := first | omega | (simp only [List.length_map, List.length_append, List.length_set, List.length_cons, List.length_nil]; omega)) only [go_sem, ↓reduceIte, Nat.reduceEqDiff, reduceCtorEq] <;> rfl) (n := H.length + 3) (by simp) (H2 := H ++ [some (stL x), some (stL y), some (stL z), some (S3 x y z)]) (by simp)) ?_
 refine Rq ?_
 refine Rq ?_
 have tr : ∀ a b c d e f g h i j k m n o p q r s t u v w : AV, let l := lc_porders_ok a b c d e f g h i j k m n o p q; trim ((18,w)::(17,v)::(16,u)::(15,t)::(14,s)::(13,r)::l) l = [(0,a),(1,b),(2,c),(3,d),(4,e),(5,f),(6,g),(8,h),(10,i),(12,j),(16,u),(17,v),(18,w),(19,o),(28,p),(45,q)] := by intros; rfl
 refine R_nil (tr ..) ?_; clear tr
 refine then_n ?_
 refine at_block rfl ?_
 refine loop_n rfl (fun mm kv H' => ∃ i : Nat, ∃ X : Heap, ∃ x6 x8 x10 x19 x28 : AV, (kv = [(6, x6), (8, x8), (10, x10), (18, AV.i (i : Int)), (19, x19), (28, x28)]) ∧ (mm = 3 - i) ∧ (H' = H ++ (some (stL x) :: some (stL y) :: some (stL z) :: some (S3 x y z) :: X)) ∧ (i ≤ 3) ∧ (∀ j, j < i → okS (g3 x y z j))) ⟨0, [], _, _, _, _, _, rfl, rfl, by rfl, by omega, by (intro j hj; omega)⟩ (by rfl) ?_
 rintro mm kv HO ⟨i, X, x6, x8, x10, x19, x28, rfl, rfl, hX, hi, hok⟩
 have tr : ∀ a b c d e f g h i j k m n o p q r s t u v w : AV, upd [(0,a),(1,b),(2,c),(3,d),(4,e),(5,f),(6,g),(8,h),(10,i),(12,j),(16,k),(17,m),(18,n),(19,o),(28,p),(45,q)] [(6,r),(8,s),(10,t),(18,u),(19,v),(28,w)] = [(0,a),(1,b),(2,c),(3,d),(4,e),(5,f),(6,r),(8,s),(10,t),(12,j),(16,k),(17,m),(18,u),(19,v),(28,w),(45,q)] := by intros; rfl
 refine W_to (tr ..) ?_; clear tr
 subst hX
 rw [show (H ++ [some (stL x)]).length = H.length + 1 by simp, show (H ++ [some (stL x)] ++ [some (stL y)]).length = H.length + 2 by simp]
 refine at_seq rfl ?_
 refine rg rfl ?_
 refine Rq ?_
 have tr : ∀ a b c d e f g h i j k m n o p q r : AV, let l := lc_porders_ok a b c d e f g h i j k m n o p q; trim ((19,r)::l) l = [(0,a),(1,b),(2,c),(3,d),(4,e),(5,f),(6,g),(8,h),(10,i),(12,j),(16,k),(17,m),(18,n),(19,r),(28,p),(45,q)] := by intros; rfl
 refine R_nil (tr ..) ?_; clear tr
 refine then_n ?_
 refine at_seq rfl ?_
 refine cdd (fun h1 => ?_) (fun h1 => ?_)
 ·
  try simp only [decide_eq_true_eq, decide_eq_false_iff_not, decide_eq_decide, Bool.not_eq_true', Bool.not_eq_false', beq_iff_eq, beq_eq_false_iff_ne, ne_eq, Bool.and_eq_true, Bool.and_eq_false_iff, decide_not] at h1
  refine at_skip rfl ?_
  refine then_n ?_
  refine at_seq rfl ?_
  refine at_block rfl ?_
  refine at_seq rfl ?_
  refine rg rfl ?_
  refine Rq ?_
  refine R_q (r := stA (g3 x y z i)) rfl (by have h : i = 0 ∨ i = 1 ∨ i = 2 := (by omega); rcases h with rfl | rfl | rfl <;> (simp (disch := first | omega | (simp only [List.length_map, List.length_append, List.length_set, List.length_cons, List.length_nil]; omega)) only [go_sem, ↓reduceIte, Nat.reduceEqDiff, reduceCtorEq, hgx]; rfl)) ?_
  refine R_alloc (by simp (disch := first | omega | (simp only [List.length_map, List.length_append, List.length_set, List.length_cons, List.length_nil]; omega)) only [go_sem, ↓reduceIte, Nat.reduceEqDiff, reduceCtorEq]; rfl) rfl (by simp only [List.map_cons, List.map_nil]; rfl) ?_
  refine R_store ty23 (by simp (disch := first | omega | (simp only [List.length_map, List.length_append, List.length_set, List.length_cons, List.length_nil]; omega)) only [go_sem, ↓reduceIte, Nat.reduceEqDiff, reduceCtorEq]; rfl) (by simp (disch := first | omega | (simp only [List.length_map, List.length_append, List.length_set, List.length_cons, List.length_nil]; omega)) only [go_sem, ↓reduceIte, Nat.reduceEqDiff, reduceCtorEq]; rfl) (by simp (disch := first | omega | (simp only [List.length_map, List.length_append, List.length_set, List.length_cons, List.length_nil]; omega)) only [go_sem, ↓reduceIte, Nat.reduceEqDiff, reduceCtorEq]; rfl) (by simp) (by rfl) (by simp (disch := first | omega | (simp only [List.length_map, List.length_append, List.length_set, List.length_cons, List.length_nil]; omega)) only [go_sem, ↓reduceIte, Nat.reduceEqDiff, reduceCtorEq]; rfl) ?_
  have tr : ∀ a b c d e f g h i j k m n o p q r s t : AV, let l := lc_porders_ok a b c d e f g h i j k m n o p q; trim ((8,t)::(21,s)::(20,r)::l) l = [(0,a),(1,b),(2,c),(3,d),(4,e),(5,f),(6,g),(8,t),(10,i),(12,j),(16,k),(17,m),(18,n),(19,o),(28,p),(45,q)] := by intros; rfl
  refine R_nil (tr ..) ?_; clear tr
  refine then_n ?_
  refine at_seq rfl ?_
  refine rg rfl ?_
  refine Rq ?_
  refine Rcall ?_
  refine ACall_eq (prate_ok _ _ _ 6 (by omega)) ?_
  refine Rq ?_
  refine Rq ?_
  refine Rq ?_
  refine Rq ?_
  refine Rq ?_
  have tr : ∀ a b c d e f g h i j k m n o p q r s t u v w x : AV, let l := lc_porders_ok a b c d e f g h i j k m n o p q; trim ((10,x)::(9,w)::(26,v)::(25,u)::(22,t)::(24,s)::(23,r)::l) l = [(0,a),(1,b),(2,c),(3,d),(4,e),(5,f),(6,g),(8,h),(10,x),(12,j),(16,k),(17,m),(18,n),(19,o),(28,p),(45,q)] := by intros; rfl
  refine R_nil (tr ..) ?_; clear tr
  refine then_n ?_
  refine at_seq rfl ?_
  refine rg rfl ?_
  refine Rq ?_
  refine Rq ?_
  have tr : ∀ a b c d e f g h i j k m n o p q r s : AV, let l := lc_porders_ok a b c d e f g h i j k m n o p q; trim ((28,s)::(27,r)::l) l = [(0,a),(1,b),(2,c),(3,d),(4,e),(5,f),(6,g),(8,h),(10,i),(12,j),(16,k),(17,m),(18,n),(19,o),(28,s),(45,q)] := by intros; rfl
  refine R_nil (tr ..) ?_; clear tr
  refine then_n ?_
  refine cdd (fun h2 => ?_) (fun h2 => ?_)
  ·
   try simp only [decide_eq_true_eq, decide_eq_false_iff_not, decide_eq_decide, Bool.not_eq_true', Bool.not_eq_false', beq_iff_eq, beq_eq_false_iff_ne, ne_eq, Bool.and_eq_true, Bool.and_eq_false_iff, decide_not] at h2
   refine at_seq rfl ?_
   refine rg rfl ?_
   refine Rq ?_
   have tr : ∀ a b c d e f g h i j k m n o p q r : AV, let l := lc_porders_ok a b c d e f g h i j k m n o p q; trim ((6,r)::l) l = [(0,a),(1,b),(2,c),(3,d),(4,e),(5,f),(6,r),(8,h),(10,i),(12,j),(16,k),(17,m),(18,n),(19,o),(28,p),(45,q)] := by intros; rfl
   refine R_nil (tr ..) ?_; clear tr
   refine then_n ?_
   refine at_ret rfl ?_
   refine blk_r ?_
   refine then_r ?_
   refine then_r ?_
   refine blk_r ?_
   refine then_r ?_
   refine fpure ?_
   first | rfl | exact congrArg (fun b => AV.v (.bool b)) (decide_eq_true (cmS_trans hx hy hz (by omega) (by omega))) | (simp; done) | (exfalso; exact absurd trivial (by assumption))
  ·
   try simp only [decide_eq_true_eq, decide_eq_false_iff_not, decide_eq_decide, Bool.not_eq_true', Bool.not_eq_false', beq_iff_eq, beq_eq_false_iff_ne, ne_eq, Bool.and_eq_true, Bool.and_eq_false_iff, decide_not] at h2
   refine at_skip rfl ?_
   refine blk_n ?_
   refine then_n ?_
   refine rg rfl ?_
   have hin : okS (g3 x y z i) := (rtS_err (by first | assumption | (simp_all; done) | omega)).1
   refine Rq ?_
   refine Rq ?_
   have tr : ∀ a b c d e f g h i j k m n o p q r s : AV, let l := lc_porders_ok a b c d e f g h i j k m n o p q; trim ((18,s)::(29,r)::l) l = [(0,a),(1,b),(2,c),(3,d),(4,e),(5,f),(6,g),(8,h),(10,i),(12,j),(16,k),(17,m),(18,s),(19,o),(28,p),(45,q)] := by intros; rfl
   refine R_nil (tr ..) ?_; clear tr
   refine then_n ?_
   exact ⟨_, _, ⟨i + 1, _, _, _, _, _, _, rfl, rfl, by (simp; rfl), by omega, by (intro j hj; rcases Nat.lt_succ_iff_lt_or_eq.mp hj with h | rfl; exact hok j h; exact hin)⟩, by rfl, by omega⟩
 ·
  try simp only [decide_eq_true_eq, decide_eq_false_iff_not, decide_eq_decide, Bool.not_eq_true', Bool.not_eq_false', beq_iff_eq, beq_eq_false_iff_ne, ne_eq, Bool.and_eq_true, Bool.and_eq_false_iff, decide_not] at h1
  refine at_exit rfl ?_
  refine then_x ?_
  refine then_x ?_
  refine blk_x ?_
  refine then_n ?_
  refine at_seq rfl ?_
  refine at_seq rfl ?_
  refine rg rfl ?_
  obtain rfl : i = 3 := by omega
  obtain ⟨hx, hy, hz⟩ := g3_all hok
  refine Rq ?_
  refine Rq ?_
  refine Rcall ?_
  refine ACall_eq (crate_ok _ _ _ _) ?_
  refine Rq ?_
  refine Rq ?_
  refine Rp_split (fun h3 => ?_) (fun h3 => ?_)
  ·
   try simp only [decide_eq_true_eq, decide_eq_false_iff_not, decide_eq_decide, Bool.not_eq_true', Bool.not_eq_false', beq_iff_eq, beq_eq_false_iff_ne, ne_eq, Bool.and_eq_true, Bool.and_eq_false_iff, decide_not] at h3
   refine Ry ?_
   refine Rq ?_
   refine Ry ?_
   refine Rq ?_
   refine Ry ?_
   refine Rcall ?_
   refine ACall_eq (crate_ok _ _ _ _) ?_
   refine Ry ?_
   refine Rq ?_
   refine Rq ?_
   refine Rq ?_
   refine Rp_split (fun h4 => ?_) (fun h4 => ?_)
   ·
    try simp only [decide_eq_true_eq, decide_eq_false_iff_not, decide_eq_decide, Bool.not_eq_true', Bool.not_eq_false', beq_iff_eq, beq_eq_false_iff_ne, ne_eq, Bool.and_eq_true, Bool.and_eq_false_iff, decide_not] at h4
    refine Ry ?_
    refine Rq ?_
    refine Ry ?_
    refine Rq ?_
    refine Ry ?_
    refine Rcall ?_
    refine ACall_eq (crate_ok _ _ _ _) ?_
    refine Ry ?_
    refine Rq ?_
    refine Rq ?_
    have tr : ∀ a b c d e f g h i j k m n o p q r s t u v w x y z A B C D E F G : AV, let l := lc_porders_ok a b c d e f g h i j k m n o p q; trim ((45,G)::(44,F)::(43,E)::(42,D)::(41,C)::(40,B)::(39,A)::(38,z)::(37,y)::(36,x)::(35,w)::(34,v)::(33,u)::(32,t)::(31,s)::(30,r)::l) l = [(0,a),(1,b),(2,c),(3,d),(4,e),(5,f),(6,g),(8,h),(10,i),(12,j),(16,k),(17,m),(18,n),(19,o),(28,p),(45,G)] := by intros; rfl
    refine R_nil (tr ..) ?_; clear tr
    refine then_n ?_
    refine cdd (fun h5 => ?_) (fun h5 => ?_)
    ·
     try simp only [decide_eq_true_eq, decide_eq_false_iff_not, decide_eq_decide, Bool.not_eq_true', Bool.not_eq_false', beq_iff_eq, beq_eq_false_iff_ne, ne_eq, Bool.and_eq_true, Bool.and_eq_false_iff, decide_not] at h5
     refine at_seq rfl ?_
     refine rg rfl ?_
     exfalso; have h9 := crS_le hx hy hz (by omega) (by omega); omega
    ·
     try simp only [decide_eq_true_eq, decide_eq_false_iff_not, decide_eq_decide, Bool.not_eq_true', Bool.not_eq_false', beq_iff_eq, beq_eq_false_iff_ne, ne_eq, Bool.and_eq_true, Bool.and_eq_false_iff, decide_not] at h5
     refine at_skip rfl ?_
     refine then_n ?_
     refine at_seq rfl ?_
     refine rg rfl ?_
     refine Rq ?_
     refine Rq ?_
     refine Rcall ?_
     refine ACall_eq (comp_ok _ _ _ _) ?_
     refine Rq ?_
     refine Rq ?_
     refine Rp_split (fun h6 => ?_) (fun h6 => ?_)
     ·
      try simp only [decide_eq_true_eq, decide_eq_false_iff_not, decide_eq_decide, Bool.not_eq_true', Bool.not_eq_false', beq_iff_eq, beq_eq_false_iff_ne, ne_eq, Bool.and_eq_true, Bool.and_eq_false_iff, decide_not] at h6
      refine Rn ?_
      refine Rn ?_
      refine Rn ?_
      refine Rn ?_
      refine Rq ?_
      refine Rq ?_
      refine Rn ?_
      refine Rn ?_
      refine Rn ?_
      refine Rn ?_
      refine Rq ?_
      refine Rq ?_
      have tr : ∀ a b c d e f g h i j k m n o p q r s t u v w x y z A B C D E F G H : AV, let l := lc_porders_ok a b c d e f g h i j k m n o p q; trim ((6,H)::(61,G)::(60,F)::(59,E)::(58,D)::(57,C)::(56,B)::(55,A)::(54,z)::(53,y)::(52,x)::(51,w)::(50,v)::(49,u)::(48,t)::(47,s)::(46,r)::l) l = [(0,a),(1,b),(2,c),(3,d),(4,e),(5,f),(6,H),(8,h),(10,i),(12,j),(16,k),(17,m),(18,n),(19,o),(28,p),(45,q)] := by intros; rfl
      refine R_nil (tr ..) ?_; clear tr
      refine then_n ?_
      refine at_ret rfl ?_
      refine fpure ?_
      first | rfl | exact congrArg (fun b => AV.v (.bool b)) (decide_eq_true (cmS_trans hx hy hz (by omega) (by omega))) | (simp; done) | (exfalso; exact absurd trivial (by assumption))
     ·
      try simp only [decide_eq_true_eq, decide_eq_false_iff_not, decide_eq_decide, Bool.not_eq_true', Bool.not_eq_false', beq_iff_eq, beq_eq_false_iff_ne, ne_eq, Bool.and_eq_true, Bool.and_eq_false_iff, decide_not] at h6
      refine Ry ?_
      refine Rq ?_
      refine Ry ?_
      refine Rq ?_
      refine Ry ?_
      refine Rcall ?_
      refine ACall_eq (comp_ok _ _ _ _) ?_
      refine Ry ?_
      refine Rq ?_
      refine Rq ?_
      refine Rq ?_
      refine Rp_split (fun h7 => ?_) (fun h7 => ?_)
      ·
       try simp only [decide_eq_true_eq, decide_eq_false_iff_not, decide_eq_decide, Bool.not_eq_true', Bool.not_eq_false', beq_iff_eq, beq_eq_false_iff_ne, ne_eq, Bool.and_eq_true, Bool.and_eq_false_iff, decide_not] at h7
       refine Rn ?_
       refine Rn ?_
       refine Rn ?_
       refine Rn ?_
       refine Rq ?_
       refine Rq ?_
       have tr : ∀ a b c d e f g h i j k m n o p q r s t u v w x y z A B C D E F G H : AV, let l := lc_porders_ok a b c d e f g h i j k m n o p q; trim ((6,H)::(61,G)::(60,F)::(59,E)::(58,D)::(57,C)::(56,B)::(55,A)::(54,z)::(53,y)::(52,x)::(51,w)::(50,v)::(49,u)::(48,t)::(47,s)::(46,r)::l) l = [(0,a),(1,b),(2,c),(3,d),(4,e),(5,f),(6,H),(8,h),(10,i),(12,j),(16,k),(17,m),(18,n),(19,o),(28,p),(45,q)] := by intros; rfl
       refine R_nil (tr ..) ?_; clear tr
       refine then_n ?_
       refine at_ret rfl ?_
       refine fpure ?_
       first | rfl | exact congrArg (fun b => AV.v (.bool b)) (decide_eq_true (cmS_trans hx hy hz (by omega) (by omega))) | (simp; done) | (exfalso; exact absurd trivial (by assumption))
      ·
       try simp only [decide_eq_true_eq, decide_eq_false_iff_not, decide_eq_decide, Bool.not_eq_true', Bool.not_eq_false', beq_iff_eq, beq_eq_false_iff_ne, ne_eq, Bool.and_eq_true, Bool.and_eq_false_iff, decide_not] at h7
       refine Ry ?_
       refine Rq ?_
       refine Ry ?_
       refine Rq ?_
       refine Ry ?_
       refine Rcall ?_
       refine ACall_eq (comp_ok _ _ _ _) ?_
       refine Ry ?_
       refine Rq ?_
       refine Rq ?_
       refine Rq ?_
       have tr : ∀ a b c d e f g h i j k m n o p q r s t u v w x y z A B C D E F G H : AV, let l := lc_porders_ok a b c d e f g h i j k m n o p q; trim ((6,H)::(61,G)::(60,F)::(59,E)::(58,D)::(57,C)::(56,B)::(55,A)::(54,z)::(53,y)::(52,x)::(51,w)::(50,v)::(49,u)::(48,t)::(47,s)::(46,r)::l) l = [(0,a),(1,b),(2,c),(3,d),(4,e),(5,f),(6,H),(8,h),(10,i),(12,j),(16,k),(17,m),(18,n),(19,o),(28,p),(45,q)] := by intros; rfl
       refine R_nil (tr ..) ?_; clear tr
       refine then_n ?_
       refine at_ret rfl ?_
       refine fpure ?_
       first | rfl | exact congrArg (fun b => AV.v (.bool b)) (decide_eq_true (cmS_trans hx hy hz (by omega) (by omega))) | (simp; done) | (exfalso; exact absurd trivial (by assumption))
   ·
    try simp only [decide_eq_true_eq, decide_eq_false_iff_not, decide_eq_decide, Bool.not_eq_true', Bool.not_eq_false', beq_iff_eq, beq_eq_false_iff_ne, ne_eq, Bool.and_eq_true, Bool.and_eq_false_iff, decide_not] at h4
    refine Rn ?_
    refine Rn ?_
    refine Rn ?_
    refine Rn ?_
    refine Rq ?_
    have tr : ∀ a b c d e f g h i j k m n o p q r s t u v w x y z A B C D E F G : AV, let l := lc_porders_ok a b c d e f g h i j k m n o p q; trim ((45,G)::(44,F)::(43,E)::(42,D)::(41,C)::(40,B)::(39,A)::(38,z)::(37,y)::(36,x)::(35,w)::(34,v)::(33,u)::(32,t)::(31,s)::(30,r)::l) l = [(0,a),(1,b),(2,c),(3,d),(4,e),(5,f),(6,g),(8,h),(10,i),(12,j),(16,k),(17,m),(18,n),(19,o),(28,p),(45,G)] := by intros; rfl
    refine R_nil (tr ..) ?_; clear tr
    refine then_n ?_
    refine cdf ?_
    refine at_skip rfl ?_
    refine then_n ?_
    refine at_seq rfl ?_
    refine rg rfl ?_
    refine Rq ?_
    refine Rq ?_
    refine Rcall ?_
    refine ACall_eq (comp_ok _ _ _ _) ?_
    refine Rq ?_
    refine Rq ?_
    refine Rp_split (fun h8 => ?_) (fun h8 => ?_)
    ·
     try simp only [decide_eq_true_eq, decide_eq_false_iff_not, decide_eq_decide, Bool.not_eq_true', Bool.not_eq_false', beq_iff_eq, beq_eq_false_iff_ne, ne_eq, Bool.and_eq_true, Bool.and_eq_false_iff, decide_not] at h8
     refine Rn ?_
     refine Rn ?_
     refine Rn ?_
     refine Rn ?_
     refine Rq ?_
     refine Rq ?_
     refine Rn ?_
     refine Rn ?_
     refine Rn ?_
     refine Rn ?_
     refine Rq ?_
     refine Rq ?_
     have tr : ∀ a b c d e f g h i j k m n o p q r s t u v w x y z A B C D E F G H : AV, let l := lc_porders_ok a b c d e f g h i j k m n o p q; trim ((6,H)::(61,G)::(60,F)::(59,E)::(58,D)::(57,C)::(56,B)::(55,A)::(54,z)::(53,y)::(52,x)::(51,w)::(50,v)::(49,u)::(48,t)::(47,s)::(46,r)::l) l = [(0,a),(1,b),(2,c),(3,d),(4,e),(5,f),(6,H),(8,h),(10,i),(12,j),(16,k),(17,m),(18,n),(19,o),(28,p),(45,q)] := by intros; rfl
     refine R_nil (tr ..) ?_; clear tr
     refine then_n ?_
     refine at_ret rfl ?_
     refine fpure ?_
     first | rfl | exact congrArg (fun b => AV.v (.bool b)) (decide_eq_true (cmS_trans hx hy hz (by omega) (by omega))) | (simp; done) | (exfalso; exact absurd trivial (by assumption))
    ·
     try simp only [decide_eq_true_eq, decide_eq_false_iff_not, decide_eq_decide, Bool.not_eq_true', Bool.not_eq_false', beq_iff_eq, beq_eq_false_iff_ne, ne_eq, Bool.and_eq_true, Bool.and_eq_false_iff, decide_not] at h8
     refine Ry ?_
     refine Rq ?_
     refine Ry ?_
     refine Rq ?_
     refine Ry ?_
     refine Rcall ?_
     refine ACall_eq (comp_ok _ _ _ _) ?_
     refine Ry ?_
     refine Rq ?_
     refine Rq ?_
     refine Rq ?_
     refine Rp_split (fun h9 => ?_) (fun h9 => ?_)
     ·
      try simp only [decide_eq_true_eq, decide_eq_false_iff_not, decide_eq_decide, Bool.not_eq_true', Bool.not_eq_false', beq_iff_eq, beq_eq_false_iff_ne, ne_eq, Bool.and_eq_true, Bool.and_eq_false_iff, decide_not] at h9
      refine Rn ?_
      refine Rn ?_
      refine Rn ?_
      refine Rn ?_
      refine Rq ?_
      refine Rq ?_
      have tr : ∀ a b c d e f g h i j k m n o p q r s t u v w x y z A B C D E F G H : AV, let l := lc_porders_ok a b c d e f g h i j k m n o p q; trim ((6,H)::(61,G)::(60,F)::(59,E)::(58,D)::(57,C)::(56,B)::(55,A)::(54,z)::(53,y)::(52,x)::(51,w)::(50,v)::(49,u)::(48,t)::(47,s)::(46,r)::l) l = [(0,a),(1,b),(2,c),(3,d),(4,e),(5,f),(6,H),(8,h),(10,i),(12,j),(16,k),(17,m),(18,n),(19,o),(28,p),(45,q)] := by intros; rfl
      refine R_nil (tr ..) ?_; clear tr
      refine then_n ?_
      refine at_ret rfl ?_
      refine fpure ?_
      first | rfl | exact congrArg (fun b => AV.v (.bool b)) (decide_eq_true (cmS_trans hx hy hz (by omega) (by omega))) | (simp; done) | (exfalso; exact absurd trivial (by assumption))
     ·
      try simp only [decide_eq_true_eq, decide_eq_false_iff_not, decide_eq_decide, Bool.not_eq_true', Bool.not_eq_false', beq_iff_eq, beq_eq_false_iff_ne, ne_eq, Bool.and_eq_true, Bool.and_eq_false_iff, decide_not] at h9
      refine Ry ?_
      refine Rq ?_
      refine Ry ?_
      refine Rq ?_
      refine Ry ?_
      refine Rcall ?_
      refine ACall_eq (comp_ok _ _ _ _) ?_
      refine Ry ?_
      refine Rq ?_
      refine Rq ?_
      refine Rq ?_
      have tr : ∀ a b c d e f g h i j k m n o p q r s t u v w x y z A B C D E F G H : AV, let l := lc_porders_ok a b c d e f g h i j k m n o p q; trim ((6,H)::(61,G)::(60,F)::(59,E)::(58,D)::(57,C)::(56,B)::(55,A)::(54,z)::(53,y)::(52,x)::(51,w)::(50,v)::(49,u)::(48,t)::(47,s)::(46,r)::l) l = [(0,a),(1,b),(2,c),(3,d),(4,e),(5,f),(6,H),(8,h),(10,i),(12,j),(16,k),(17,m),(18,n),(19,o),(28,p),(45,q)] := by intros; rfl
      refine R_nil (tr ..) ?_; clear tr
      refine then_n ?_
      refine at_ret rfl ?_
      refine fpure ?_
      first | rfl | exact congrArg (fun b => AV.v (.bool b)) (decide_eq_true (cmS_trans hx hy hz (by omega) (by omega))) | (simp; done) | (exfalso; exact absurd trivial (by assumption))
  ·
   try simp only [decide_eq_true_eq, decide_eq_false_iff_not, decide_eq_decide, Bool.not_eq_true', Bool.not_eq_false', beq_iff_eq, beq_eq_false_iff_ne, ne_eq, Bool.and_eq_true, Bool.and_eq_false_iff, decide_not] at h3
   refine Rn ?_
   refine Rn ?_
   refine Rn ?_
   refine Rn ?_
   refine Rq ?_
   refine Rq ?_
   refine Rn ?_
   refine Rn ?_
   refine Rn ?_
   refine Rn ?_
   refine Rq ?_
   have tr : ∀ a b c d e f g h i j k m n o p q r s t u v w x y z A B C D E F G : AV, let l := lc_porders_ok a b c d e f g h i j k m n o p q; trim ((45,G)::(44,F)::(43,E)::(42,D)::(41,C)::(40,B)::(39,A)::(38,z)::(37,y)::(36,x)::(35,w)::(34,v)::(33,u)::(32,t)::(31,s)::(30,r)::l) l = [(0,a),(1,b),(2,c),(3,d),(4,e),(5,f),(6,g),(8,h),(10,i),(12,j),(16,k),(17,m),(18,n),(19,o),(28,p),(45,G)] := by intros; rfl
   refine R_nil (tr ..) ?_; clear tr
   refine then_n ?_
   refine cdf ?_
   refine at_skip rfl ?_
   refine then_n ?_
   refine at_seq rfl ?_
   refine rg rfl ?_
   refine Rq ?_
   refine Rq ?_
   refine Rcall ?_
   refine ACall_eq (comp_ok _ _ _ _) ?_
   refine Rq ?_
   refine Rq ?_
   refine Rp_split (fun h10 => ?_) (fun h10 => ?_)
   ·
    try simp only [decide_eq_true_eq, decide_eq_false_iff_not, decide_eq_decide, Bool.not_eq_true', Bool.not_eq_false', beq_iff_eq, beq_eq_false_iff_ne, ne_eq, Bool.and_eq_true, Bool.and_eq_false_iff, decide_not] at h10
    refine Rn ?_
    refine Rn ?_
    refine Rn ?_
    refine Rn ?_
    refine Rq ?_
    refine Rq ?_
    refine Rn ?_
    refine Rn ?_
    refine Rn ?_
    refine Rn ?_
    refine Rq ?_
    refine Rq ?_
    have tr : ∀ a b c d e f g h i j k m n o p q r s t u v w x y z A B C D E F G H : AV, let l := lc_porders_ok a b c d e f g h i j k m n o p q; trim ((6,H)::(61,G)::(60,F)::(59,E)::(58,D)::(57,C)::(56,B)::(55,A)::(54,z)::(53,y)::(52,x)::(51,w)::(50,v)::(49,u)::(48,t)::(47,s)::(46,r)::l) l = [(0,a),(1,b),(2,c),(3,d),(4,e),(5,f),(6,H),(8,h),(10,i),(12,j),(16,k),(17,m),(18,n),(19,o),(28,p),(45,q)] := by intros; rfl
    refine R_nil (tr ..) ?_; clear tr
    refine then_n ?_
    refine at_ret rfl ?_
    refine fpure ?_
    first | rfl | exact congrArg (fun b => AV.v (.bool b)) (decide_eq_true (cmS_trans hx hy hz (by omega) (by omega))) | (simp; done) | (exfalso; exact absurd trivial (by assumption))
   ·
    try simp only [decide_eq_true_eq, decide_eq_false_iff_not, decide_eq_decide, Bool.not_eq_true', Bool.not_eq_false', beq_iff_eq, beq_eq_false_iff_ne, ne_eq, Bool.and_eq_true, Bool.and_eq_false_iff, decide_not] at h10
    refine Ry ?_
    refine Rq ?_
    refine Ry ?_
    refine Rq ?_
    refine Ry ?_
    refine Rcall ?_
    refine ACall_eq (comp_ok _ _ _ _) ?_
    refine Ry ?_
    refine Rq ?_
    refine Rq ?_
    refine Rq ?_
    refine Rp_split (fun h11 => ?_) (fun h11 => ?_)
    ·
     try simp only [decide_eq_true_eq, decide_eq_false_iff_not, decide_eq_decide, Bool.not_eq_true', Bool.not_eq_false', beq_iff_eq, beq_eq_false_iff_ne, ne_eq, Bool.and_eq_true, Bool.and_eq_false_iff, decide_not] at h11
     refine Rn ?_
     refine Rn ?_
     refine Rn ?_
     refine Rn ?_
     refine Rq ?_
     refine Rq ?_
     have tr : ∀ a b c d e f g h i j k m n o p q r s t u v w x y z A B C D E F G H : AV, let l := lc_porders_ok a b c d e f g h i j k m n o p q; trim ((6,H)::(61,G)::(60,F)::(59,E)::(58,D)::(57,C)::(56,B)::(55,A)::(54,z)::(53,y)::(52,x)::(51,w)::(50,v)::(49,u)::(48,t)::(47,s)::(46,r)::l) l = [(0,a),(1,b),(2,c),(3,d),(4,e),(5,f),(6,H),(8,h),(10,i),(12,j),(16,k),(17,m),(18,n),(19,o),(28,p),(45,q)] := by intros; rfl
     refine R_nil (tr ..) ?_; clear tr
     refine then_n ?_
     refine at_ret rfl ?_
     refine fpure ?_
     first | rfl | exact congrArg (fun b => AV.v (.bool b)) (decide_eq_true (cmS_trans hx hy hz (by omega) (by omega))) | (simp; done) | (exfalso; exact absurd trivial (by assumption))
    ·
     try simp only [decide_eq_true_eq, decide_eq_false_iff_not, decide_eq_decide, Bool.not_eq_true', Bool.not_eq_false', beq_iff_eq, beq_eq_false_iff_ne, ne_eq, Bool.and_eq_true, Bool.and_eq_false_iff, decide_not] at h11
     refine Ry ?_
     refine Rq ?_
     refine Ry ?_
     refine Rq ?_
     refine Ry ?_
     refine Rcall ?_
     refine ACall_eq (comp_ok _ _ _ _) ?_
     refine Ry ?_
     refine Rq ?_
     refine Rq ?_
     refine Rq ?_
     have tr : ∀ a b c d e f g h i j k m n o p q r s t u v w x y z A B C D E F G H : AV, let l := lc_porders_ok a b c d e f g h i j k m n o p q; trim ((6,H)::(61,G)::(60,F)::(59,E)::(58,D)::(57,C)::(56,B)::(55,A)::(54,z)::(53,y)::(52,x)::(51,w)::(50,v)::(49,u)::(48,t)::(47,s)::(46,r)::l) l = [(0,a),(1,b),(2,c),(3,d),(4,e),(5,f),(6,H),(8,h),(10,i),(12,j),(16,k),(17,m),(18,n),(19,o),(28,p),(45,q)] := by intros; rfl
     refine R_nil (tr ..) ?_; clear tr
     refine then_n ?_
     refine at_ret rfl ?_
     refine fpure ?_
     first | rfl | exact congrArg (fun b => AV.v (.bool b)) (decide_eq_true (cmS_trans hx hy hz (by omega) (by omega))) | (simp; done) | (exfalso; exact absurd trivial (by assumption))

end Go.Proofs.YtfnapmdedmbdbaaDoor
