/-
  Walks of chapter 55. The steps are written by program (walk.py).
-/
import Derived.Test.YtcnleglfdnhagaaNA
set_option linter.unusedSimpArgs false
set_option linter.unusedVariables false
set_option maxHeartbeats 1000000
set_option maxRecDepth 20000
namespace Go.Proofs.Ytcnleglfdnhagaa
open Go Go.Am
abbrev lc_may_ok (a b c d e : AV) : Env := [(0,a),(1,b),(2,c),(3,d),(4,e)]
theorem may_ok (lim : Nat) (H : Heap) (x : Du) (y : Um) (hl : y.ds.length ≤ 1000000) : ACall sig lim 22 [.agg (duC x), .agg (umC y)] H fun r H' => r = .v (.bool (mayB x y)) ∧ H' = H := by
 refine ACall_pure (fa := fa22) rfl rfl rfl rfl ?_
 have tr : ∀ a0 a1 : AV, env0 fa22.keep [a0, a1] = [(0,a0),(1,a1),(2,.any),(3,.any),(4,.any)] := fun a0 a1 => rfl
 refine W_to (tr _ _) ?_; clear tr
 refine at_seq rfl ?_
 refine rg rfl ?_
 refine R_box rfl (by simp (disch := first | omega | (simp only [List.length_map, List.length_append, List.length_set, List.length_cons, List.length_nil]; omega)) only [go_sem, ↓reduceIte, Nat.reduceEqDiff, reduceCtorEq]; rfl) rfl rfl ?_
 refine R_box rfl (by simp (disch := first | omega | (simp only [List.length_map, List.length_append, List.length_set, List.length_cons, List.length_nil]; omega)) only [go_sem, ↓reduceIte, Nat.reduceEqDiff, reduceCtorEq]; rfl) rfl rfl ?_
 refine Rq ?_
 have tr : ∀ a b c d e f g h : AV, let l := lc_may_ok a b c d e; trim ((4,h)::(3,g)::(2,f)::l) l = [(0,a),(1,b),(2,f),(3,g),(4,h)] := by intros; rfl
 refine R_nil (tr ..) ?_; clear tr
 refine then_n ?_
 refine at_seq rfl ?_
 refine rg rfl ?_
 refine Rq ?_
 refine Rq ?_
 refine Rq ?_
 refine Rq ?_
 refine Rcall ?_
 refine ACall_eq (cont64 _ _ y.ds x.dy hl) ?_
 refine Rq ?_
 refine Rp_split (fun h1 => ?_) (fun h1 => ?_)
 ·
  try simp only [decide_eq_true_eq, decide_eq_false_iff_not, Bool.not_eq_true', Bool.not_eq_false', beq_iff_eq, beq_eq_false_iff_ne, ne_eq] at h1
  refine Ry ?_
  refine Rq ?_
  refine Ry ?_
  refine Rq ?_
  refine Ry ?_
  refine Rq ?_
  refine Ry ?_
  refine Rq ?_
  refine Rp_split (fun h2 => ?_) (fun h2 => ?_)
  ·
   try simp only [decide_eq_true_eq, decide_eq_false_iff_not, Bool.not_eq_true', Bool.not_eq_false', beq_iff_eq, beq_eq_false_iff_ne, ne_eq] at h2
   refine Rn ?_
   refine Rn ?_
   refine Rn ?_
   refine Rn ?_
   refine Rn ?_
   refine Rn ?_
   refine Ru ?_
   refine Ru ?_
   refine Ru ?_
   refine Ru ?_
   refine Ru ?_
   refine Rn ?_
   refine Ry ?_
   refine Rq ?_
   refine Rq ?_
   refine Rq ?_
   have tr : ∀ a b c d e f g h i j k m n o p q r s t u v w x y z A B C D E : AV, let l := lc_may_ok a b c d e; trim ((4,E)::(28,D)::(27,C)::(26,B)::(25,A)::(24,z)::(23,y)::(22,x)::(21,w)::(20,v)::(19,u)::(18,t)::(17,s)::(16,r)::(15,q)::(14,p)::(13,o)::(12,n)::(11,m)::(10,k)::(9,j)::(8,i)::(7,h)::(6,g)::(5,f)::l) l = [(0,a),(1,b),(2,c),(3,d),(4,E)] := by intros; rfl
   refine R_nil (tr ..) ?_; clear tr
   refine then_n ?_
   refine at_ret rfl ?_
   refine fpure ?_
   refine ⟨?_, rfl⟩
   refine congrArg (fun b => AV.v (.bool b)) ?_
   unfold mayB eqB
   first | rfl | (simp_all <;> fail) | (rw [Bool.eq_iff_iff]; simp_all <;> fail) | (rw [Bool.eq_iff_iff]; simp_all; intro h8 h9; simp_all) | (cases h8 : (y.tm.toList == x.aw.toList) <;> simp_all)
  ·
   try simp only [decide_eq_true_eq, decide_eq_false_iff_not, Bool.not_eq_true', Bool.not_eq_false', beq_iff_eq, beq_eq_false_iff_ne, ne_eq] at h2
   refine Ry ?_
   refine Rq ?_
   refine Ry ?_
   refine Rq ?_
   refine Ry ?_
   refine Rq ?_
   refine Ry ?_
   refine Rq ?_
   refine Ry ?_
   refine Rq ?_
   refine Ry ?_
   refine Rq ?_
   refine Rp_split (fun h3 => ?_) (fun h3 => ?_)
   ·
    try simp only [decide_eq_true_eq, decide_eq_false_iff_not, Bool.not_eq_true', Bool.not_eq_false', beq_iff_eq, beq_eq_false_iff_ne, ne_eq] at h3
    refine Ry ?_
    refine Rq ?_
    refine Ry ?_
    refine Rq ?_
    refine Ry ?_
    refine Rq ?_
    refine Ry ?_
    refine Rq ?_
    refine Ry ?_
    refine Rq ?_
    refine Ry ?_
    refine Rq ?_
    refine Ry ?_
    refine Rq ?_
    refine Rq ?_
    refine Rq ?_
    have tr : ∀ a b c d e f g h i j k m n o p q r s t u v w x y z A B C D E : AV, let l := lc_may_ok a b c d e; trim ((4,E)::(28,D)::(27,C)::(26,B)::(25,A)::(24,z)::(23,y)::(22,x)::(21,w)::(20,v)::(19,u)::(18,t)::(17,s)::(16,r)::(15,q)::(14,p)::(13,o)::(12,n)::(11,m)::(10,k)::(9,j)::(8,i)::(7,h)::(6,g)::(5,f)::l) l = [(0,a),(1,b),(2,c),(3,d),(4,E)] := by intros; rfl
    refine R_nil (tr ..) ?_; clear tr
    refine then_n ?_
    refine at_ret rfl ?_
    refine fpure ?_
    refine ⟨?_, rfl⟩
    refine congrArg (fun b => AV.v (.bool b)) ?_
    unfold mayB eqB
    first | rfl | (simp_all <;> fail) | (rw [Bool.eq_iff_iff]; simp_all <;> fail) | (rw [Bool.eq_iff_iff]; simp_all; intro h8 h9; simp_all) | (cases h8 : (y.tm.toList == x.aw.toList) <;> simp_all)
   ·
    try simp only [decide_eq_true_eq, decide_eq_false_iff_not, Bool.not_eq_true', Bool.not_eq_false', beq_iff_eq, beq_eq_false_iff_ne, ne_eq] at h3
    refine Rn ?_
    refine Rn ?_
    refine Rn ?_
    refine Rn ?_
    refine Rn ?_
    refine Ry ?_
    refine Rq ?_
    refine Ry ?_
    refine Rq ?_
    refine Rq ?_
    refine Rq ?_
    have tr : ∀ a b c d e f g h i j k m n o p q r s t u v w x y z A B C D E : AV, let l := lc_may_ok a b c d e; trim ((4,E)::(28,D)::(27,C)::(26,B)::(25,A)::(24,z)::(23,y)::(22,x)::(21,w)::(20,v)::(19,u)::(18,t)::(17,s)::(16,r)::(15,q)::(14,p)::(13,o)::(12,n)::(11,m)::(10,k)::(9,j)::(8,i)::(7,h)::(6,g)::(5,f)::l) l = [(0,a),(1,b),(2,c),(3,d),(4,E)] := by intros; rfl
    refine R_nil (tr ..) ?_; clear tr
    refine then_n ?_
    refine at_ret rfl ?_
    refine fpure ?_
    refine ⟨?_, rfl⟩
    refine congrArg (fun b => AV.v (.bool b)) ?_
    unfold mayB eqB
    first | rfl | (simp_all <;> fail) | (rw [Bool.eq_iff_iff]; simp_all <;> fail) | (rw [Bool.eq_iff_iff]; simp_all; intro h8 h9; simp_all) | (cases h8 : (y.tm.toList == x.aw.toList) <;> simp_all)
 ·
  try simp only [decide_eq_true_eq, decide_eq_false_iff_not, Bool.not_eq_true', Bool.not_eq_false', beq_iff_eq, beq_eq_false_iff_ne, ne_eq] at h1
  refine Rn ?_
  refine Rn ?_
  refine Rn ?_
  refine Rn ?_
  refine Ru ?_
  refine Ru ?_
  refine Ru ?_
  refine Ru ?_
  refine Ru ?_
  refine Ru ?_
  refine Ru ?_
  refine Ru ?_
  refine Ru ?_
  refine Ru ?_
  refine Ru ?_
  refine Ru ?_
  refine Rn ?_
  refine Rq ?_
  refine Rq ?_
  have tr : ∀ a b c d e f g h i j k m n o p q r s t u v w x y z A B C D E : AV, let l := lc_may_ok a b c d e; trim ((4,E)::(28,D)::(27,C)::(26,B)::(25,A)::(24,z)::(23,y)::(22,x)::(21,w)::(20,v)::(19,u)::(18,t)::(17,s)::(16,r)::(15,q)::(14,p)::(13,o)::(12,n)::(11,m)::(10,k)::(9,j)::(8,i)::(7,h)::(6,g)::(5,f)::l) l = [(0,a),(1,b),(2,c),(3,d),(4,E)] := by intros; rfl
  refine R_nil (tr ..) ?_; clear tr
  refine then_n ?_
  refine at_ret rfl ?_
  refine fpure ?_
  refine ⟨?_, rfl⟩
  refine congrArg (fun b => AV.v (.bool b)) ?_
  unfold mayB eqB
  first | rfl | (simp_all <;> fail) | (rw [Bool.eq_iff_iff]; simp_all <;> fail) | (rw [Bool.eq_iff_iff]; simp_all; intro h8 h9; simp_all) | (cases h8 : (y.tm.toList == x.aw.toList) <;> simp_all)

abbrev lc_duties_ok (a b c d e f g h i j k m : AV) : Env := [(0,a),(2,b),(3,c),(4,d),(5,e),(6,f),(7,g),(8,h),(12,i),(27,j),(38,k),(44,m)]
theorem duties_ok (lim : Nat) (H : Heap) (l : List Du) (hl : l.length ≤ 1000000) (hs : ∀ u, (gt l u).ho.size ≤ 9223372036854775807 ∧ (gt l u).aw.size ≤ 9223372036854775807) : ACall sig lim 18 [dusAV l] H fun r H' => r = AV.i (ferr (duE l) l.length) ∧ H' = H := by
 refine ACall_pure (fa := fa18) rfl rfl rfl rfl ?_
 have tr : ∀ a0 : AV, env0 fa18.keep [a0] = [(0,a0),(2,.any),(3,.any),(4,.any),(5,.any),(6,.any),(7,.any),(8,.any),(12,.any),(27,.any),(38,.any),(44,.any)] := fun a0 => rfl
 refine W_to (tr _) ?_; clear tr
 refine at_seq rfl ?_
 refine rg rfl ?_
 refine Rq ?_
 have tr : ∀ a b c d e f g h i j k m n : AV, let l := lc_duties_ok a b c d e f g h i j k m; trim ((2,n)::l) l = [(0,a),(2,n),(3,c),(4,d),(5,e),(6,f),(7,g),(8,h),(12,i),(27,j),(38,k),(44,m)] := by intros; rfl
 refine R_nil (tr ..) ?_; clear tr
 refine then_n ?_
 refine at_seq rfl ?_
 refine at_seq rfl ?_
 refine rg rfl ?_
 refine Rq ?_
 refine Rq ?_
 refine Rq ?_
 have tr : ∀ a b c d e f g h i j k m n o p : AV, let l := lc_duties_ok a b c d e f g h i j k m; trim ((7,p)::(6,o)::(5,n)::l) l = [(0,a),(2,b),(3,c),(4,d),(5,n),(6,o),(7,p),(8,h),(12,i),(27,j),(38,k),(44,m)] := by intros; rfl
 refine R_nil (tr ..) ?_; clear tr
 refine then_n ?_
 refine at_block rfl ?_
 refine loop_n rfl (fun mm kv H' => ∃ i : Nat, ∃ X : Heap, ∃ x2 x3 x4 x8 x12 x27 x38 x44 : AV, (kv = [(2, x2), (3, x3), (4, x4), (7, AV.i (i : Int)), (8, x8), (12, x12), (27, x27), (38, x38), (44, x44)]) ∧ (mm = l.length - i) ∧ (H' = H ++ X) ∧ (i ≤ l.length) ∧ (ferr (duE l) i = 0)) ⟨0, [], _, _, _, _, _, _, _, _, rfl, rfl, by simp, by omega, by rfl⟩ (by rfl) ?_
 rintro mm kv HO ⟨i, X, x2, x3, x4, x8, x12, x27, x38, x44, rfl, rfl, hX, hi, hf⟩
 have tr : ∀ a b c d e f g h i j k m n o p q r s t u v : AV, upd [(0,a),(2,b),(3,c),(4,d),(5,e),(6,f),(7,g),(8,h),(12,i),(27,j),(38,k),(44,m)] [(2,n),(3,o),(4,p),(7,q),(8,r),(12,s),(27,t),(38,u),(44,v)] = [(0,a),(2,n),(3,o),(4,p),(5,e),(6,f),(7,q),(8,r),(12,s),(27,t),(38,u),(44,v)] := by intros; rfl
 refine W_to (tr ..) ?_; clear tr
 subst hX
 refine at_seq rfl ?_
 refine rg rfl ?_
 refine Rq ?_
 have tr : ∀ a b c d e f g h i j k m n : AV, let l := lc_duties_ok a b c d e f g h i j k m; trim ((8,n)::l) l = [(0,a),(2,b),(3,c),(4,d),(5,e),(6,f),(7,g),(8,n),(12,i),(27,j),(38,k),(44,m)] := by intros; rfl
 refine R_nil (tr ..) ?_; clear tr
 refine then_n ?_
 refine at_seq rfl ?_
 refine cdd (fun h1 => ?_) (fun h1 => ?_)
 ·
  try simp only [decide_eq_true_eq, decide_eq_false_iff_not, Bool.not_eq_true', Bool.not_eq_false', beq_iff_eq, beq_eq_false_iff_ne, ne_eq] at h1
  refine at_skip rfl ?_
  refine then_n ?_
  refine at_seq rfl ?_
  refine at_block rfl ?_
  refine at_seq rfl ?_
  refine rg rfl ?_
  refine Rq ?_
  refine Rq ?_
  refine Rq ?_
  refine R_alloc (by simp (disch := first | omega | (simp only [List.length_map, List.length_append, List.length_set, List.length_cons, List.length_nil]; omega)) only [go_sem, ↓reduceIte, Nat.reduceEqDiff, reduceCtorEq]; rfl) rfl (by simp only [List.map_cons, List.map_nil]; rfl) ?_
  refine Rq ?_
  refine R_store ty32 (by simp (disch := first | omega | (simp only [List.length_map, List.length_append, List.length_set, List.length_cons, List.length_nil]; omega)) only [go_sem, ↓reduceIte, Nat.reduceEqDiff, reduceCtorEq]; rfl) (by simp (disch := first | omega | (simp only [List.length_map, List.length_append, List.length_set, List.length_cons, List.length_nil]; omega)) only [go_sem, ↓reduceIte, Nat.reduceEqDiff, reduceCtorEq]; rfl) (by simp (disch := first | omega | (simp only [List.length_map, List.length_append, List.length_set, List.length_cons, List.length_nil]; omega)) only [go_sem, ↓reduceIte, Nat.reduceEqDiff, reduceCtorEq]; rfl) (by simp) (by rfl) (by simp (disch := first | omega | (simp only [List.length_map, List.length_append, List.length_set, List.length_cons, List.length_nil]; omega)) only [go_sem, ↓reduceIte, Nat.reduceEqDiff, reduceCtorEq]; rfl) ?_
  have tr : ∀ a b c d e f g h i j k m n o p q r : AV, let l := lc_duties_ok a b c d e f g h i j k m; trim ((3,r)::(4,q)::(11,p)::(10,o)::(9,n)::l) l = [(0,a),(2,b),(3,r),(4,q),(5,e),(6,f),(7,g),(8,h),(12,i),(27,j),(38,k),(44,m)] := by intros; rfl
  refine R_nil (tr ..) ?_; clear tr
  refine then_n ?_
  refine at_block rfl ?_
  refine at_seq rfl ?_
  refine rg rfl ?_
  refine Rq ?_
  refine Rq ?_
  refine Rq ?_
  refine Rq ?_
  refine Rp_split (fun h2 => ?_) (fun h2 => ?_)
  ·
   try simp only [decide_eq_true_eq, decide_eq_false_iff_not, Bool.not_eq_true', Bool.not_eq_false', beq_iff_eq, beq_eq_false_iff_ne, ne_eq] at h2
   refine Rn ?_
   refine Rn ?_
   refine Rn ?_
   refine Rq ?_
   refine Rq ?_
   refine Rn ?_
   refine Rn ?_
   refine Rn ?_
   refine Rn ?_
   refine Rq ?_
   refine Rq ?_
   have tr : ∀ a b c d e f g h i j k m n o p q r s t u v w x y z A B : AV, let l := lc_duties_ok a b c d e f g h i j k m; trim ((12,B)::(26,A)::(25,z)::(24,y)::(23,x)::(22,w)::(21,v)::(20,u)::(19,t)::(18,s)::(17,r)::(16,q)::(15,p)::(14,o)::(13,n)::l) l = [(0,a),(2,b),(3,c),(4,d),(5,e),(6,f),(7,g),(8,h),(12,B),(27,j),(38,k),(44,m)] := by intros; rfl
   refine R_nil (tr ..) ?_; clear tr
   refine then_n ?_
   refine cdt ?_
   refine at_seq rfl ?_
   refine rg rfl ?_
   refine Rq ?_
   have tr : ∀ a b c d e f g h i j k m n : AV, let l := lc_duties_ok a b c d e f g h i j k m; trim ((2,n)::l) l = [(0,a),(2,n),(3,c),(4,d),(5,e),(6,f),(7,g),(8,h),(12,i),(27,j),(38,k),(44,m)] := by intros; rfl
   refine R_nil (tr ..) ?_; clear tr
   refine then_n ?_
   refine at_ret rfl ?_
   refine blk_r ?_
   refine blk_r ?_
   refine then_r ?_
   refine then_r ?_
   refine blk_r ?_
   refine then_r ?_
   first | (refine fpure ?_; refine ⟨?_, rfl⟩; rw [ferr_hit (u := i) (by omega) hf (e := 2) (duE_2 (by first | exact .inr (.inr (by assumption)) | exact .inl (by assumption) | exact .inr (.inl (by assumption)))) (by decide)]) | (refine fpure ?_; refine ⟨?_, rfl⟩; rw [ferr_hit (u := i) (by omega) hf (e := 5) (duE_5 h2f (by first | exact .inl (by assumption) | exact .inr (by assumption))) (by decide)]) | (refine fpure ?_; refine ⟨?_, rfl⟩; rw [ferr_hit (u := i) (by omega) hf (e := 1) (duE_1 h2f h5f (by assumption)) (by decide)]) | (refine fpure ?_; refine ⟨?_, rfl⟩; rw [ferr_hit (u := i) (by omega) hf (e := 8) (duE_8 h2f h5f h1f ⟨by omega, by omega⟩) (by decide)]) | (refine fpure ?_; refine ⟨?_, rfl⟩; rw [← show i = l.length by omega, hf])
  ·
   try simp only [decide_eq_true_eq, decide_eq_false_iff_not, Bool.not_eq_true', Bool.not_eq_false', beq_iff_eq, beq_eq_false_iff_ne, ne_eq] at h2
   refine Ry ?_
   refine Rq ?_
   refine Ry ?_
   refine Rq ?_
   refine Ry ?_
   refine Rq ?_
   refine Rq ?_
   refine Rq ?_
   refine Rp_split (fun h3 => ?_) (fun h3 => ?_)
   ·
    try simp only [decide_eq_true_eq, decide_eq_false_iff_not, Bool.not_eq_true', Bool.not_eq_false', beq_iff_eq, beq_eq_false_iff_ne, ne_eq] at h3
    refine Rn ?_
    refine Rn ?_
    refine Rn ?_
    refine Rn ?_
    refine Rq ?_
    refine Rq ?_
    have tr : ∀ a b c d e f g h i j k m n o p q r s t u v w x y z A B : AV, let l := lc_duties_ok a b c d e f g h i j k m; trim ((12,B)::(26,A)::(25,z)::(24,y)::(23,x)::(22,w)::(21,v)::(20,u)::(19,t)::(18,s)::(17,r)::(16,q)::(15,p)::(14,o)::(13,n)::l) l = [(0,a),(2,b),(3,c),(4,d),(5,e),(6,f),(7,g),(8,h),(12,B),(27,j),(38,k),(44,m)] := by intros; rfl
    refine R_nil (tr ..) ?_; clear tr
    refine then_n ?_
    refine cdt ?_
    refine at_seq rfl ?_
    refine rg rfl ?_
    refine Rq ?_
    have tr : ∀ a b c d e f g h i j k m n : AV, let l := lc_duties_ok a b c d e f g h i j k m; trim ((2,n)::l) l = [(0,a),(2,n),(3,c),(4,d),(5,e),(6,f),(7,g),(8,h),(12,i),(27,j),(38,k),(44,m)] := by intros; rfl
    refine R_nil (tr ..) ?_; clear tr
    refine then_n ?_
    refine at_ret rfl ?_
    refine blk_r ?_
    refine blk_r ?_
    refine then_r ?_
    refine then_r ?_
    refine blk_r ?_
    refine then_r ?_
    first | (refine fpure ?_; refine ⟨?_, rfl⟩; rw [ferr_hit (u := i) (by omega) hf (e := 2) (duE_2 (by first | exact .inr (.inr (by assumption)) | exact .inl (by assumption) | exact .inr (.inl (by assumption)))) (by decide)]) | (refine fpure ?_; refine ⟨?_, rfl⟩; rw [ferr_hit (u := i) (by omega) hf (e := 5) (duE_5 h2f (by first | exact .inl (by assumption) | exact .inr (by assumption))) (by decide)]) | (refine fpure ?_; refine ⟨?_, rfl⟩; rw [ferr_hit (u := i) (by omega) hf (e := 1) (duE_1 h2f h5f (by assumption)) (by decide)]) | (refine fpure ?_; refine ⟨?_, rfl⟩; rw [ferr_hit (u := i) (by omega) hf (e := 8) (duE_8 h2f h5f h1f ⟨by omega, by omega⟩) (by decide)]) | (refine fpure ?_; refine ⟨?_, rfl⟩; rw [← show i = l.length by omega, hf])
   ·
    try simp only [decide_eq_true_eq, decide_eq_false_iff_not, Bool.not_eq_true', Bool.not_eq_false', beq_iff_eq, beq_eq_false_iff_ne, ne_eq] at h3
    refine Ry ?_
    refine Rq ?_
    refine Ry ?_
    refine Rq ?_
    refine Ry ?_
    refine Rcall ?_
    refine ACall_eq (day_ok _ _ _) ?_
    refine Ry ?_
    refine Rq ?_
    refine Rq ?_
    refine Rq ?_
    have tr : ∀ a b c d e f g h i j k m n o p q r s t u v w x y z A B : AV, let l := lc_duties_ok a b c d e f g h i j k m; trim ((12,B)::(26,A)::(25,z)::(24,y)::(23,x)::(22,w)::(21,v)::(20,u)::(19,t)::(18,s)::(17,r)::(16,q)::(15,p)::(14,o)::(13,n)::l) l = [(0,a),(2,b),(3,c),(4,d),(5,e),(6,f),(7,g),(8,h),(12,B),(27,j),(38,k),(44,m)] := by intros; rfl
    refine R_nil (tr ..) ?_; clear tr
    refine then_n ?_
    refine cdd (fun h4 => ?_) (fun h4 => ?_)
    ·
     try simp only [decide_eq_true_eq, decide_eq_false_iff_not, Bool.not_eq_true', Bool.not_eq_false', beq_iff_eq, beq_eq_false_iff_ne, ne_eq] at h4
     refine at_seq rfl ?_
     refine rg rfl ?_
     refine Rq ?_
     have tr : ∀ a b c d e f g h i j k m n : AV, let l := lc_duties_ok a b c d e f g h i j k m; trim ((2,n)::l) l = [(0,a),(2,n),(3,c),(4,d),(5,e),(6,f),(7,g),(8,h),(12,i),(27,j),(38,k),(44,m)] := by intros; rfl
     refine R_nil (tr ..) ?_; clear tr
     refine then_n ?_
     refine at_ret rfl ?_
     refine blk_r ?_
     refine blk_r ?_
     refine then_r ?_
     refine then_r ?_
     refine blk_r ?_
     refine then_r ?_
     first | (refine fpure ?_; refine ⟨?_, rfl⟩; rw [ferr_hit (u := i) (by omega) hf (e := 2) (duE_2 (by first | exact .inr (.inr (by assumption)) | exact .inl (by assumption) | exact .inr (.inl (by assumption)))) (by decide)]) | (refine fpure ?_; refine ⟨?_, rfl⟩; rw [ferr_hit (u := i) (by omega) hf (e := 5) (duE_5 h2f (by first | exact .inl (by assumption) | exact .inr (by assumption))) (by decide)]) | (refine fpure ?_; refine ⟨?_, rfl⟩; rw [ferr_hit (u := i) (by omega) hf (e := 1) (duE_1 h2f h5f (by assumption)) (by decide)]) | (refine fpure ?_; refine ⟨?_, rfl⟩; rw [ferr_hit (u := i) (by omega) hf (e := 8) (duE_8 h2f h5f h1f ⟨by omega, by omega⟩) (by decide)]) | (refine fpure ?_; refine ⟨?_, rfl⟩; rw [← show i = l.length by omega, hf])
    ·
     try simp only [decide_eq_true_eq, decide_eq_false_iff_not, Bool.not_eq_true', Bool.not_eq_false', beq_iff_eq, beq_eq_false_iff_ne, ne_eq] at h4
     refine at_seq rfl ?_
     refine rg rfl ?_
     have h2f : ¬ ((gt l i).mt < 1 ∨ 1000000 < (gt l i).mt ∨ dayB (gt l i).dy = false) := by first | omega | simp_all
     refine Rq ?_
     refine Rq ?_
     refine Rcall ?_
     refine ACall_eq (name_ok28 _ _ _ (hs i).1) ?_
     refine Rq ?_
     refine Rq ?_
     refine Rp_split (fun h5 => ?_) (fun h5 => ?_)
     ·
      try simp only [decide_eq_true_eq, decide_eq_false_iff_not, Bool.not_eq_true', Bool.not_eq_false', beq_iff_eq, beq_eq_false_iff_ne, ne_eq] at h5
      refine Rn ?_
      refine Rn ?_
      refine Rn ?_
      refine Rn ?_
      refine Rq ?_
      refine Rq ?_
      have tr : ∀ a b c d e f g h i j k m n o p q r s t u v w x : AV, let l := lc_duties_ok a b c d e f g h i j k m; trim ((27,x)::(37,w)::(36,v)::(35,u)::(34,t)::(33,s)::(32,r)::(31,q)::(30,p)::(29,o)::(28,n)::l) l = [(0,a),(2,b),(3,c),(4,d),(5,e),(6,f),(7,g),(8,h),(12,i),(27,x),(38,k),(44,m)] := by intros; rfl
      refine R_nil (tr ..) ?_; clear tr
      refine then_n ?_
      refine cdt ?_
      refine at_seq rfl ?_
      refine rg rfl ?_
      refine Rq ?_
      have tr : ∀ a b c d e f g h i j k m n : AV, let l := lc_duties_ok a b c d e f g h i j k m; trim ((2,n)::l) l = [(0,a),(2,n),(3,c),(4,d),(5,e),(6,f),(7,g),(8,h),(12,i),(27,j),(38,k),(44,m)] := by intros; rfl
      refine R_nil (tr ..) ?_; clear tr
      refine then_n ?_
      refine at_ret rfl ?_
      refine blk_r ?_
      refine blk_r ?_
      refine then_r ?_
      refine then_r ?_
      refine blk_r ?_
      refine then_r ?_
      first | (refine fpure ?_; refine ⟨?_, rfl⟩; rw [ferr_hit (u := i) (by omega) hf (e := 2) (duE_2 (by first | exact .inr (.inr (by assumption)) | exact .inl (by assumption) | exact .inr (.inl (by assumption)))) (by decide)]) | (refine fpure ?_; refine ⟨?_, rfl⟩; rw [ferr_hit (u := i) (by omega) hf (e := 5) (duE_5 h2f (by first | exact .inl (by assumption) | exact .inr (by assumption))) (by decide)]) | (refine fpure ?_; refine ⟨?_, rfl⟩; rw [ferr_hit (u := i) (by omega) hf (e := 1) (duE_1 h2f h5f (by assumption)) (by decide)]) | (refine fpure ?_; refine ⟨?_, rfl⟩; rw [ferr_hit (u := i) (by omega) hf (e := 8) (duE_8 h2f h5f h1f ⟨by omega, by omega⟩) (by decide)]) | (refine fpure ?_; refine ⟨?_, rfl⟩; rw [← show i = l.length by omega, hf])
     ·
      try simp only [decide_eq_true_eq, decide_eq_false_iff_not, Bool.not_eq_true', Bool.not_eq_false', beq_iff_eq, beq_eq_false_iff_ne, ne_eq] at h5
      refine Ry ?_
      refine Rq ?_
      refine Ry ?_
      refine Rq ?_
      refine Ry ?_
      refine Rcall ?_
      refine ACall_eq (name_ok28 _ _ _ (hs i).2) ?_
      refine Ry ?_
      refine Rq ?_
      refine Rq ?_
      refine Rq ?_
      have tr : ∀ a b c d e f g h i j k m n o p q r s t u v w x : AV, let l := lc_duties_ok a b c d e f g h i j k m; trim ((27,x)::(37,w)::(36,v)::(35,u)::(34,t)::(33,s)::(32,r)::(31,q)::(30,p)::(29,o)::(28,n)::l) l = [(0,a),(2,b),(3,c),(4,d),(5,e),(6,f),(7,g),(8,h),(12,i),(27,x),(38,k),(44,m)] := by intros; rfl
      refine R_nil (tr ..) ?_; clear tr
      refine then_n ?_
      refine cdd (fun h6 => ?_) (fun h6 => ?_)
      ·
       try simp only [decide_eq_true_eq, decide_eq_false_iff_not, Bool.not_eq_true', Bool.not_eq_false', beq_iff_eq, beq_eq_false_iff_ne, ne_eq] at h6
       refine at_seq rfl ?_
       refine rg rfl ?_
       refine Rq ?_
       have tr : ∀ a b c d e f g h i j k m n : AV, let l := lc_duties_ok a b c d e f g h i j k m; trim ((2,n)::l) l = [(0,a),(2,n),(3,c),(4,d),(5,e),(6,f),(7,g),(8,h),(12,i),(27,j),(38,k),(44,m)] := by intros; rfl
       refine R_nil (tr ..) ?_; clear tr
       refine then_n ?_
       refine at_ret rfl ?_
       refine blk_r ?_
       refine blk_r ?_
       refine then_r ?_
       refine then_r ?_
       refine blk_r ?_
       refine then_r ?_
       first | (refine fpure ?_; refine ⟨?_, rfl⟩; rw [ferr_hit (u := i) (by omega) hf (e := 2) (duE_2 (by first | exact .inr (.inr (by assumption)) | exact .inl (by assumption) | exact .inr (.inl (by assumption)))) (by decide)]) | (refine fpure ?_; refine ⟨?_, rfl⟩; rw [ferr_hit (u := i) (by omega) hf (e := 5) (duE_5 h2f (by first | exact .inl (by assumption) | exact .inr (by assumption))) (by decide)]) | (refine fpure ?_; refine ⟨?_, rfl⟩; rw [ferr_hit (u := i) (by omega) hf (e := 1) (duE_1 h2f h5f (by assumption)) (by decide)]) | (refine fpure ?_; refine ⟨?_, rfl⟩; rw [ferr_hit (u := i) (by omega) hf (e := 8) (duE_8 h2f h5f h1f ⟨by omega, by omega⟩) (by decide)]) | (refine fpure ?_; refine ⟨?_, rfl⟩; rw [← show i = l.length by omega, hf])
      ·
       try simp only [decide_eq_true_eq, decide_eq_false_iff_not, Bool.not_eq_true', Bool.not_eq_false', beq_iff_eq, beq_eq_false_iff_ne, ne_eq] at h6
       refine at_seq rfl ?_
       refine rg rfl ?_
       have h5f : ¬ (nameS (gt l i).ho = false ∨ nameS (gt l i).aw = false) := by first | omega | simp_all
       refine Rq ?_
       refine Rq ?_
       refine Rq ?_
       refine Rq ?_
       refine Rq ?_
       refine Rq ?_
       have tr : ∀ a b c d e f g h i j k m n o p q r s : AV, let l := lc_duties_ok a b c d e f g h i j k m; trim ((38,s)::(43,r)::(42,q)::(41,p)::(40,o)::(39,n)::l) l = [(0,a),(2,b),(3,c),(4,d),(5,e),(6,f),(7,g),(8,h),(12,i),(27,j),(38,s),(44,m)] := by intros; rfl
       refine R_nil (tr ..) ?_; clear tr
       refine then_n ?_
       refine cdd (fun h7 => ?_) (fun h7 => ?_)
       ·
        try simp only [decide_eq_true_eq, decide_eq_false_iff_not, Bool.not_eq_true', Bool.not_eq_false', beq_iff_eq, beq_eq_false_iff_ne, ne_eq] at h7
        refine at_seq rfl ?_
        refine rg rfl ?_
        refine Rq ?_
        have tr : ∀ a b c d e f g h i j k m n : AV, let l := lc_duties_ok a b c d e f g h i j k m; trim ((2,n)::l) l = [(0,a),(2,n),(3,c),(4,d),(5,e),(6,f),(7,g),(8,h),(12,i),(27,j),(38,k),(44,m)] := by intros; rfl
        refine R_nil (tr ..) ?_; clear tr
        refine then_n ?_
        refine at_ret rfl ?_
        refine blk_r ?_
        refine blk_r ?_
        refine then_r ?_
        refine then_r ?_
        refine blk_r ?_
        refine then_r ?_
        first | (refine fpure ?_; refine ⟨?_, rfl⟩; rw [ferr_hit (u := i) (by omega) hf (e := 2) (duE_2 (by first | exact .inr (.inr (by assumption)) | exact .inl (by assumption) | exact .inr (.inl (by assumption)))) (by decide)]) | (refine fpure ?_; refine ⟨?_, rfl⟩; rw [ferr_hit (u := i) (by omega) hf (e := 5) (duE_5 h2f (by first | exact .inl (by assumption) | exact .inr (by assumption))) (by decide)]) | (refine fpure ?_; refine ⟨?_, rfl⟩; rw [ferr_hit (u := i) (by omega) hf (e := 1) (duE_1 h2f h5f (by assumption)) (by decide)]) | (refine fpure ?_; refine ⟨?_, rfl⟩; rw [ferr_hit (u := i) (by omega) hf (e := 8) (duE_8 h2f h5f h1f ⟨by omega, by omega⟩) (by decide)]) | (refine fpure ?_; refine ⟨?_, rfl⟩; rw [← show i = l.length by omega, hf])
       ·
        try simp only [decide_eq_true_eq, decide_eq_false_iff_not, Bool.not_eq_true', Bool.not_eq_false', beq_iff_eq, beq_eq_false_iff_ne, ne_eq] at h7
        refine at_seq rfl ?_
        refine rd rfl rfl ?_
        have h1f : ¬ (gt l i).ho.toList = (gt l i).aw.toList := by first | assumption | simp_all
        refine Qq ?_
        refine Qq ?_
        refine Qq ?_
        refine Qp_split (fun h8 => ?_) (fun h8 => ?_)
        ·
         try simp only [decide_eq_true_eq, decide_eq_false_iff_not, Bool.not_eq_true', Bool.not_eq_false', beq_iff_eq, beq_eq_false_iff_ne, ne_eq] at h8
         refine Qy ?_
         refine Qq ?_
         refine Qy ?_
         refine Qq ?_
         refine Qy ?_
         refine Qq ?_
         refine Qy ?_
         refine Qq ?_
         refine Qy ?_
         refine Qq ?_
         refine Qy ?_
         refine Qq ?_
         refine Qy ?_
         refine Qq ?_
         refine Qy ?_
         refine Q_q (r := AV.i (gt l (i - 1)).mt) rfl (by simp (disch := first | omega | (simp only [List.length_map, List.length_append, List.length_set, List.length_cons, List.length_nil]; omega)) only [go_sem, ↓reduceIte, Nat.reduceEqDiff, reduceCtorEq] <;> (rw [show ((i : Int) - 1).toNat = i - 1 by omega]; exact flatD0 l (i - 1) (by omega))) ?_
         refine Qy ?_
         refine Qq ?_
         refine Qq ?_
         refine Qq ?_
         refine Q_nil ?_
         have tr : ∀ a b c d e f g h i j k m n o p q r s t u v w x y z A : AV, let l := lc_duties_ok a b c d e f g h i j k m; trim ((44,A)::(57,z)::(56,y)::(55,x)::(54,w)::(53,v)::(52,u)::(51,t)::(50,s)::(49,r)::(48,q)::(47,p)::(46,o)::(45,n)::l) l = [(0,a),(2,b),(3,c),(4,d),(5,e),(6,f),(7,g),(8,h),(12,i),(27,j),(38,k),(44,A)] := by intros; rfl
         refine R_nil (tr ..) ?_; clear tr
         refine then_n ?_
         refine cdd (fun h9 => ?_) (fun h9 => ?_)
         ·
          try simp only [decide_eq_true_eq, decide_eq_false_iff_not, Bool.not_eq_true', Bool.not_eq_false', beq_iff_eq, beq_eq_false_iff_ne, ne_eq] at h9
          refine at_seq rfl ?_
          refine rg rfl ?_
          refine Rq ?_
          have tr : ∀ a b c d e f g h i j k m n : AV, let l := lc_duties_ok a b c d e f g h i j k m; trim ((2,n)::l) l = [(0,a),(2,n),(3,c),(4,d),(5,e),(6,f),(7,g),(8,h),(12,i),(27,j),(38,k),(44,m)] := by intros; rfl
          refine R_nil (tr ..) ?_; clear tr
          refine then_n ?_
          refine at_ret rfl ?_
          refine blk_r ?_
          refine blk_r ?_
          refine then_r ?_
          refine then_r ?_
          refine blk_r ?_
          refine then_r ?_
          first | (refine fpure ?_; refine ⟨?_, rfl⟩; rw [ferr_hit (u := i) (by omega) hf (e := 2) (duE_2 (by first | exact .inr (.inr (by assumption)) | exact .inl (by assumption) | exact .inr (.inl (by assumption)))) (by decide)]) | (refine fpure ?_; refine ⟨?_, rfl⟩; rw [ferr_hit (u := i) (by omega) hf (e := 5) (duE_5 h2f (by first | exact .inl (by assumption) | exact .inr (by assumption))) (by decide)]) | (refine fpure ?_; refine ⟨?_, rfl⟩; rw [ferr_hit (u := i) (by omega) hf (e := 1) (duE_1 h2f h5f (by assumption)) (by decide)]) | (refine fpure ?_; refine ⟨?_, rfl⟩; rw [ferr_hit (u := i) (by omega) hf (e := 8) (duE_8 h2f h5f h1f ⟨by omega, by omega⟩) (by decide)]) | (refine fpure ?_; refine ⟨?_, rfl⟩; rw [← show i = l.length by omega, hf])
         ·
          try simp only [decide_eq_true_eq, decide_eq_false_iff_not, Bool.not_eq_true', Bool.not_eq_false', beq_iff_eq, beq_eq_false_iff_ne, ne_eq] at h9
          refine at_skip rfl ?_
          refine blk_n ?_
          refine blk_n ?_
          refine then_n ?_
          refine rg rfl ?_
          refine Rq ?_
          refine Rq ?_
          have tr : ∀ a b c d e f g h i j k m n o : AV, let l := lc_duties_ok a b c d e f g h i j k m; trim ((7,o)::(58,n)::l) l = [(0,a),(2,b),(3,c),(4,d),(5,e),(6,f),(7,o),(8,h),(12,i),(27,j),(38,k),(44,m)] := by intros; rfl
          refine R_nil (tr ..) ?_; clear tr
          refine then_n ?_
          exact ⟨_, _, ⟨i + 1, X ++ [some (duC (gt l i))], _, _, _, _, _, _, _, _, rfl, rfl, by (first | (simp; done) | (simp; rfl)), by omega, by (exact ferr_ok hf (duE_0 h2f h5f h1f (by first | omega | (simp_all <;> fail) | (simp_all; omega))))⟩, by rfl, by omega⟩
        ·
         try simp only [decide_eq_true_eq, decide_eq_false_iff_not, Bool.not_eq_true', Bool.not_eq_false', beq_iff_eq, beq_eq_false_iff_ne, ne_eq] at h8
         refine Qn ?_
         refine Qn ?_
         refine Qn ?_
         refine Qn ?_
         refine Qn ?_
         refine Qn ?_
         refine Qn ?_
         refine Qn ?_
         refine Qn ?_
         refine Qq ?_
         refine Qq ?_
         refine Q_nil ?_
         have tr : ∀ a b c d e f g h i j k m n o p q r s t u v w x y z A : AV, let l := lc_duties_ok a b c d e f g h i j k m; trim ((44,A)::(57,z)::(56,y)::(55,x)::(54,w)::(53,v)::(52,u)::(51,t)::(50,s)::(49,r)::(48,q)::(47,p)::(46,o)::(45,n)::l) l = [(0,a),(2,b),(3,c),(4,d),(5,e),(6,f),(7,g),(8,h),(12,i),(27,j),(38,k),(44,A)] := by intros; rfl
         refine R_nil (tr ..) ?_; clear tr
         refine then_n ?_
         refine cdf ?_
         refine at_skip rfl ?_
         refine blk_n ?_
         refine blk_n ?_
         refine then_n ?_
         refine rg rfl ?_
         refine Rq ?_
         refine Rq ?_
         have tr : ∀ a b c d e f g h i j k m n o : AV, let l := lc_duties_ok a b c d e f g h i j k m; trim ((7,o)::(58,n)::l) l = [(0,a),(2,b),(3,c),(4,d),(5,e),(6,f),(7,o),(8,h),(12,i),(27,j),(38,k),(44,m)] := by intros; rfl
         refine R_nil (tr ..) ?_; clear tr
         refine then_n ?_
         exact ⟨_, _, ⟨i + 1, X ++ [some (duC (gt l i))], _, _, _, _, _, _, _, _, rfl, rfl, by (first | (simp; done) | (simp; rfl)), by omega, by (exact ferr_ok hf (duE_0 h2f h5f h1f (by first | omega | (simp_all <;> fail) | (simp_all; omega))))⟩, by rfl, by omega⟩
 ·
  try simp only [decide_eq_true_eq, decide_eq_false_iff_not, Bool.not_eq_true', Bool.not_eq_false', beq_iff_eq, beq_eq_false_iff_ne, ne_eq] at h1
  refine at_exit rfl ?_
  refine then_x ?_
  refine then_x ?_
  refine blk_x ?_
  refine then_n ?_
  refine at_seq rfl ?_
  refine rg rfl ?_
  refine Rq ?_
  have tr : ∀ a b c d e f g h i j k m n : AV, let l := lc_duties_ok a b c d e f g h i j k m; trim ((2,n)::l) l = [(0,a),(2,n),(3,c),(4,d),(5,e),(6,f),(7,g),(8,h),(12,i),(27,j),(38,k),(44,m)] := by intros; rfl
  refine R_nil (tr ..) ?_; clear tr
  refine then_n ?_
  refine at_ret rfl ?_
  first | (refine fpure ?_; refine ⟨?_, rfl⟩; rw [ferr_hit (u := i) (by omega) hf (e := 2) (duE_2 (by first | exact .inr (.inr (by assumption)) | exact .inl (by assumption) | exact .inr (.inl (by assumption)))) (by decide)]) | (refine fpure ?_; refine ⟨?_, rfl⟩; rw [ferr_hit (u := i) (by omega) hf (e := 5) (duE_5 h2f (by first | exact .inl (by assumption) | exact .inr (by assumption))) (by decide)]) | (refine fpure ?_; refine ⟨?_, rfl⟩; rw [ferr_hit (u := i) (by omega) hf (e := 1) (duE_1 h2f h5f (by assumption)) (by decide)]) | (refine fpure ?_; refine ⟨?_, rfl⟩; rw [ferr_hit (u := i) (by omega) hf (e := 8) (duE_8 h2f h5f h1f ⟨by omega, by omega⟩) (by decide)]) | (refine fpure ?_; refine ⟨?_, rfl⟩; rw [← show i = l.length by omega, hf])

end Go.Proofs.Ytcnleglfdnhagaa
