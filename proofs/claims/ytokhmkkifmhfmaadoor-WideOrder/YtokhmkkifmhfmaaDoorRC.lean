/-
  Walks of chapter 2. The steps are written by program (walk.py).
-/
import Derived.Test.YtokhmkkifmhfmaaDoorRA
set_option linter.unusedSimpArgs false
set_option linter.unusedVariables false
set_option maxHeartbeats 1000000
set_option maxRecDepth 20000
namespace Go.Proofs.YtokhmkkifmhfmaaDoor
open Go Go.Am
abbrev lc_cmp_ok (a b c d e f g : AV) : Env := [(0,a),(1,b),(2,c),(3,d),(4,e),(5,f),(25,g)]
theorem cmp_ok (lim : Nat) (H : Heap) (x : Int) (hx : Fw x) (y : Int) (hy : Fw y) : ACall sig lim 29 [wv x, wv y] H fun r H' => r = AV.i (cmpS x y) ∧ H' = H := by
 have fx := hx
 unfold Fw at fx
 have fy := hy
 unfold Fw at fy
 refine ACall_pure (fa := fa29) rfl rfl rfl rfl ?_
 have tr : ∀ a0 a1 : AV, env0 fa29.keep [a0, a1] = [(0,a0),(1,a1),(2,.any),(3,.any),(4,.any),(5,.any),(25,.any)] := fun a0 a1 => rfl
 refine W_to (tr _ _) ?_; clear tr
 refine at_seq rfl ?_
 refine rg rfl ?_
 refine R_box rfl (by simp (disch := first | omega | (simp only [List.length_map, List.length_append, List.length_set, List.length_cons, List.length_nil]; omega)) only [go_sem, ↓reduceIte, Nat.reduceEqDiff, reduceCtorEq]; rfl) rfl rfl ?_
 refine R_box rfl (by simp (disch := first | omega | (simp only [List.length_map, List.length_append, List.length_set, List.length_cons, List.length_nil]; omega)) only [go_sem, ↓reduceIte, Nat.reduceEqDiff, reduceCtorEq]; rfl) rfl rfl ?_
 refine Rq ?_
 have tr : ∀ a b c d e f g h i j : AV, let l := lc_cmp_ok a b c d e f g; trim ((4,j)::(3,i)::(2,h)::l) l = [(0,a),(1,b),(2,h),(3,i),(4,j),(5,f),(25,g)] := by intros; rfl
 refine R_nil (tr ..) ?_; clear tr
 refine then_n ?_
 refine at_seq rfl ?_
 refine at_block rfl ?_
 refine at_seq rfl ?_
 refine rg rfl ?_
 refine Rq ?_
 refine Rq ?_
 refine Rq ?_
 refine Rq ?_
 refine Rq ?_
 refine Rq ?_
 refine Rp_split (fun h1 => ?_) (fun h1 => ?_)
 ·
  try simp only [decide_eq_true_eq, decide_eq_false_iff_not, decide_eq_decide, Bool.not_eq_true', Bool.not_eq_false', beq_iff_eq, beq_eq_false_iff_ne, ne_eq, Bool.and_eq_true, Bool.and_eq_false_iff, decide_not] at h1
  refine Rn ?_
  refine Rn ?_
  refine Rn ?_
  refine Rn ?_
  refine Rn ?_
  refine Rn ?_
  refine Ru ?_
  refine Ru ?_
  refine Ru ?_
  refine Ru ?_
  refine Ru ?_
  refine Rn ?_
  refine Rq ?_
  refine Rq ?_
  have tr : ∀ a b c d e f g h i j k m n o p q r s t u v w x y z A B : AV, let l := lc_cmp_ok a b c d e f g; trim ((5,B)::(24,A)::(23,z)::(22,y)::(21,x)::(20,w)::(19,v)::(18,u)::(17,t)::(16,s)::(15,r)::(14,q)::(13,p)::(12,o)::(11,n)::(10,m)::(9,k)::(8,j)::(7,i)::(6,h)::l) l = [(0,a),(1,b),(2,c),(3,d),(4,e),(5,B),(25,g)] := by intros; rfl
  refine R_nil (tr ..) ?_; clear tr
  refine then_n ?_
  refine cdt ?_
  refine at_seq rfl ?_
  refine rg rfl ?_
  refine Rq ?_
  have tr : ∀ a b c d e f g h : AV, let l := lc_cmp_ok a b c d e f g; trim ((4,h)::l) l = [(0,a),(1,b),(2,c),(3,d),(4,h),(5,f),(25,g)] := by intros; rfl
  refine R_nil (tr ..) ?_; clear tr
  refine then_n ?_
  refine at_ret rfl ?_
  refine blk_r ?_
  refine then_r ?_
  first | (refine fpure ?_; refine ⟨?_, rfl⟩; rw [cmpS, if_pos (by omega)]; done) | (refine fpure ?_; refine ⟨?_, rfl⟩; rw [cmpS, if_neg (by omega), if_pos (by omega)]; done) | (refine fpure ?_; refine ⟨?_, rfl⟩; rw [cmpS, if_neg (by omega), if_neg (by omega)]; done)
 ·
  try simp only [decide_eq_true_eq, decide_eq_false_iff_not, decide_eq_decide, Bool.not_eq_true', Bool.not_eq_false', beq_iff_eq, beq_eq_false_iff_ne, ne_eq, Bool.and_eq_true, Bool.and_eq_false_iff, decide_not] at h1
  refine Ry ?_
  refine Rq ?_
  refine Ry ?_
  refine Rq ?_
  refine Ry ?_
  refine Rq ?_
  refine Ry ?_
  refine Rq ?_
  refine Ry ?_
  refine Rq ?_
  refine Ry ?_
  refine Rq ?_
  refine Rp_split (fun h2 => ?_) (fun h2 => ?_)
  ·
   try simp only [decide_eq_true_eq, decide_eq_false_iff_not, decide_eq_decide, Bool.not_eq_true', Bool.not_eq_false', beq_iff_eq, beq_eq_false_iff_ne, ne_eq, Bool.and_eq_true, Bool.and_eq_false_iff, decide_not] at h2
   refine Ry ?_
   refine Rq ?_
   refine Ry ?_
   refine Rq ?_
   refine Ry ?_
   refine Rq ?_
   refine Ry ?_
   refine Rq ?_
   refine Ry ?_
   refine Rq ?_
   refine Ry ?_
   refine Rq ?_
   refine Rq ?_
   refine Rq ?_
   have tr : ∀ a b c d e f g h i j k m n o p q r s t u v w x y z A B : AV, let l := lc_cmp_ok a b c d e f g; trim ((5,B)::(24,A)::(23,z)::(22,y)::(21,x)::(20,w)::(19,v)::(18,u)::(17,t)::(16,s)::(15,r)::(14,q)::(13,p)::(12,o)::(11,n)::(10,m)::(9,k)::(8,j)::(7,i)::(6,h)::l) l = [(0,a),(1,b),(2,c),(3,d),(4,e),(5,B),(25,g)] := by intros; rfl
   refine R_nil (tr ..) ?_; clear tr
   refine then_n ?_
   refine cdd (fun h3 => ?_) (fun h3 => ?_)
   ·
    try simp only [decide_eq_true_eq, decide_eq_false_iff_not, decide_eq_decide, Bool.not_eq_true', Bool.not_eq_false', beq_iff_eq, beq_eq_false_iff_ne, ne_eq, Bool.and_eq_true, Bool.and_eq_false_iff, decide_not] at h3
    refine at_seq rfl ?_
    refine rg rfl ?_
    refine Rq ?_
    have tr : ∀ a b c d e f g h : AV, let l := lc_cmp_ok a b c d e f g; trim ((4,h)::l) l = [(0,a),(1,b),(2,c),(3,d),(4,h),(5,f),(25,g)] := by intros; rfl
    refine R_nil (tr ..) ?_; clear tr
    refine then_n ?_
    refine at_ret rfl ?_
    refine blk_r ?_
    refine then_r ?_
    first | (refine fpure ?_; refine ⟨?_, rfl⟩; rw [cmpS, if_pos (by omega)]; done) | (refine fpure ?_; refine ⟨?_, rfl⟩; rw [cmpS, if_neg (by omega), if_pos (by omega)]; done) | (refine fpure ?_; refine ⟨?_, rfl⟩; rw [cmpS, if_neg (by omega), if_neg (by omega)]; done)
   ·
    try simp only [decide_eq_true_eq, decide_eq_false_iff_not, decide_eq_decide, Bool.not_eq_true', Bool.not_eq_false', beq_iff_eq, beq_eq_false_iff_ne, ne_eq, Bool.and_eq_true, Bool.and_eq_false_iff, decide_not] at h3
    refine at_seq rfl ?_
    refine rg rfl ?_
    refine Rq ?_
    refine Rq ?_
    refine Rq ?_
    refine Rq ?_
    have tr : ∀ a b c d e f g h i j k : AV, let l := lc_cmp_ok a b c d e f g; trim ((25,k)::(28,j)::(27,i)::(26,h)::l) l = [(0,a),(1,b),(2,c),(3,d),(4,e),(5,f),(25,k)] := by intros; rfl
    refine R_nil (tr ..) ?_; clear tr
    refine then_n ?_
    refine cdd (fun h4 => ?_) (fun h4 => ?_)
    ·
     try simp only [decide_eq_true_eq, decide_eq_false_iff_not, decide_eq_decide, Bool.not_eq_true', Bool.not_eq_false', beq_iff_eq, beq_eq_false_iff_ne, ne_eq, Bool.and_eq_true, Bool.and_eq_false_iff, decide_not] at h4
     refine at_seq rfl ?_
     refine rg rfl ?_
     refine Rq ?_
     have tr : ∀ a b c d e f g h : AV, let l := lc_cmp_ok a b c d e f g; trim ((4,h)::l) l = [(0,a),(1,b),(2,c),(3,d),(4,h),(5,f),(25,g)] := by intros; rfl
     refine R_nil (tr ..) ?_; clear tr
     refine then_n ?_
     refine at_ret rfl ?_
     refine blk_r ?_
     refine then_r ?_
     first | (refine fpure ?_; refine ⟨?_, rfl⟩; rw [cmpS, if_pos (by omega)]; done) | (refine fpure ?_; refine ⟨?_, rfl⟩; rw [cmpS, if_neg (by omega), if_pos (by omega)]; done) | (refine fpure ?_; refine ⟨?_, rfl⟩; rw [cmpS, if_neg (by omega), if_neg (by omega)]; done)
    ·
     try simp only [decide_eq_true_eq, decide_eq_false_iff_not, decide_eq_decide, Bool.not_eq_true', Bool.not_eq_false', beq_iff_eq, beq_eq_false_iff_ne, ne_eq, Bool.and_eq_true, Bool.and_eq_false_iff, decide_not] at h4
     refine at_skip rfl ?_
     refine blk_n ?_
     refine then_n ?_
     refine at_seq rfl ?_
     refine rg rfl ?_
     refine Rq ?_
     have tr : ∀ a b c d e f g h : AV, let l := lc_cmp_ok a b c d e f g; trim ((4,h)::l) l = [(0,a),(1,b),(2,c),(3,d),(4,h),(5,f),(25,g)] := by intros; rfl
     refine R_nil (tr ..) ?_; clear tr
     refine then_n ?_
     refine at_ret rfl ?_
     first | (refine fpure ?_; refine ⟨?_, rfl⟩; rw [cmpS, if_pos (by omega)]; done) | (refine fpure ?_; refine ⟨?_, rfl⟩; rw [cmpS, if_neg (by omega), if_pos (by omega)]; done) | (refine fpure ?_; refine ⟨?_, rfl⟩; rw [cmpS, if_neg (by omega), if_neg (by omega)]; done)
  ·
   try simp only [decide_eq_true_eq, decide_eq_false_iff_not, decide_eq_decide, Bool.not_eq_true', Bool.not_eq_false', beq_iff_eq, beq_eq_false_iff_ne, ne_eq, Bool.and_eq_true, Bool.and_eq_false_iff, decide_not] at h2
   refine Rn ?_
   refine Rn ?_
   refine Rn ?_
   refine Rn ?_
   refine Rn ?_
   refine Ry ?_
   refine Rq ?_
   refine Rq ?_
   refine Rq ?_
   have tr : ∀ a b c d e f g h i j k m n o p q r s t u v w x y z A B : AV, let l := lc_cmp_ok a b c d e f g; trim ((5,B)::(24,A)::(23,z)::(22,y)::(21,x)::(20,w)::(19,v)::(18,u)::(17,t)::(16,s)::(15,r)::(14,q)::(13,p)::(12,o)::(11,n)::(10,m)::(9,k)::(8,j)::(7,i)::(6,h)::l) l = [(0,a),(1,b),(2,c),(3,d),(4,e),(5,B),(25,g)] := by intros; rfl
   refine R_nil (tr ..) ?_; clear tr
   refine then_n ?_
   refine cdf ?_
   refine at_seq rfl ?_
   refine rg rfl ?_
   refine Rq ?_
   refine Rq ?_
   refine Rq ?_
   refine Rq ?_
   have tr : ∀ a b c d e f g h i j k : AV, let l := lc_cmp_ok a b c d e f g; trim ((25,k)::(28,j)::(27,i)::(26,h)::l) l = [(0,a),(1,b),(2,c),(3,d),(4,e),(5,f),(25,k)] := by intros; rfl
   refine R_nil (tr ..) ?_; clear tr
   refine then_n ?_
   refine cdd (fun h5 => ?_) (fun h5 => ?_)
   ·
    try simp only [decide_eq_true_eq, decide_eq_false_iff_not, decide_eq_decide, Bool.not_eq_true', Bool.not_eq_false', beq_iff_eq, beq_eq_false_iff_ne, ne_eq, Bool.and_eq_true, Bool.and_eq_false_iff, decide_not] at h5
    refine at_seq rfl ?_
    refine rg rfl ?_
    refine Rq ?_
    have tr : ∀ a b c d e f g h : AV, let l := lc_cmp_ok a b c d e f g; trim ((4,h)::l) l = [(0,a),(1,b),(2,c),(3,d),(4,h),(5,f),(25,g)] := by intros; rfl
    refine R_nil (tr ..) ?_; clear tr
    refine then_n ?_
    refine at_ret rfl ?_
    refine blk_r ?_
    refine then_r ?_
    first | (refine fpure ?_; refine ⟨?_, rfl⟩; rw [cmpS, if_pos (by omega)]; done) | (refine fpure ?_; refine ⟨?_, rfl⟩; rw [cmpS, if_neg (by omega), if_pos (by omega)]; done) | (refine fpure ?_; refine ⟨?_, rfl⟩; rw [cmpS, if_neg (by omega), if_neg (by omega)]; done)
   ·
    try simp only [decide_eq_true_eq, decide_eq_false_iff_not, decide_eq_decide, Bool.not_eq_true', Bool.not_eq_false', beq_iff_eq, beq_eq_false_iff_ne, ne_eq, Bool.and_eq_true, Bool.and_eq_false_iff, decide_not] at h5
    refine at_skip rfl ?_
    refine blk_n ?_
    refine then_n ?_
    refine at_seq rfl ?_
    refine rg rfl ?_
    refine Rq ?_
    have tr : ∀ a b c d e f g h : AV, let l := lc_cmp_ok a b c d e f g; trim ((4,h)::l) l = [(0,a),(1,b),(2,c),(3,d),(4,h),(5,f),(25,g)] := by intros; rfl
    refine R_nil (tr ..) ?_; clear tr
    refine then_n ?_
    refine at_ret rfl ?_
    first | (refine fpure ?_; refine ⟨?_, rfl⟩; rw [cmpS, if_pos (by omega)]; done) | (refine fpure ?_; refine ⟨?_, rfl⟩; rw [cmpS, if_neg (by omega), if_pos (by omega)]; done) | (refine fpure ?_; refine ⟨?_, rfl⟩; rw [cmpS, if_neg (by omega), if_neg (by omega)]; done)

abbrev lc_rcmp_ok (a b c d e f g : AV) : Env := [(0,a),(1,b),(2,c),(3,d),(4,e),(7,f),(26,g)]
theorem rcmp_ok (lim : Nat) (H : Heap) (x : Int) (hx : Fw x) (y : Int) (hy : Fw y) : ACall sig lim 30 [wv x, wv y] H fun r H' => r = AV.i (cmpS x y) ∧ H' = H := by
 have fx := hx
 unfold Fw at fx
 have fy := hy
 unfold Fw at fy
 refine ACall_pure (fa := fa30) rfl rfl rfl rfl ?_
 have tr : ∀ a0 a1 : AV, env0 fa30.keep [a0, a1] = [(0,a0),(1,a1),(2,.any),(3,.any),(4,.any),(7,.any),(26,.any)] := fun a0 a1 => rfl
 refine W_to (tr _ _) ?_; clear tr
 refine at_seq rfl ?_
 refine rg rfl ?_
 refine R_box rfl (by simp (disch := first | omega | (simp only [List.length_map, List.length_append, List.length_set, List.length_cons, List.length_nil]; omega)) only [go_sem, ↓reduceIte, Nat.reduceEqDiff, reduceCtorEq]; rfl) rfl rfl ?_
 refine R_box rfl (by simp (disch := first | omega | (simp only [List.length_map, List.length_append, List.length_set, List.length_cons, List.length_nil]; omega)) only [go_sem, ↓reduceIte, Nat.reduceEqDiff, reduceCtorEq]; rfl) rfl rfl ?_
 refine Rq ?_
 have tr : ∀ a b c d e f g h i j : AV, let l := lc_rcmp_ok a b c d e f g; trim ((4,j)::(3,i)::(2,h)::l) l = [(0,a),(1,b),(2,h),(3,i),(4,j),(7,f),(26,g)] := by intros; rfl
 refine R_nil (tr ..) ?_; clear tr
 refine then_n ?_
 refine at_seq rfl ?_
 refine at_seq rfl ?_
 refine rg rfl ?_
 refine Rq ?_
 refine Rq ?_
 refine Rq ?_
 have tr : ∀ a b c d e f g h i j : AV, let l := lc_rcmp_ok a b c d e f g; trim ((7,j)::(6,i)::(5,h)::l) l = [(0,a),(1,b),(2,c),(3,d),(4,e),(7,j),(26,g)] := by intros; rfl
 refine R_nil (tr ..) ?_; clear tr
 refine then_n ?_
 refine cdd (fun h1 => ?_) (fun h1 => ?_)
 ·
  try simp only [decide_eq_true_eq, decide_eq_false_iff_not, decide_eq_decide, Bool.not_eq_true', Bool.not_eq_false', beq_iff_eq, beq_eq_false_iff_ne, ne_eq, Bool.and_eq_true, Bool.and_eq_false_iff, decide_not] at h1
  refine at_seq rfl ?_
  refine rg rfl ?_
  refine Rq ?_
  have tr : ∀ a b c d e f g h : AV, let l := lc_rcmp_ok a b c d e f g; trim ((4,h)::l) l = [(0,a),(1,b),(2,c),(3,d),(4,h),(7,f),(26,g)] := by intros; rfl
  refine R_nil (tr ..) ?_; clear tr
  refine then_n ?_
  refine at_ret rfl ?_
  refine then_r ?_
  first | (refine fpure ?_; refine ⟨?_, rfl⟩; rw [cmpS, if_pos (by omega)]; done) | (refine fpure ?_; refine ⟨?_, rfl⟩; rw [cmpS, if_neg (by omega), if_pos (by omega)]; done) | (refine fpure ?_; refine ⟨?_, rfl⟩; rw [cmpS, if_neg (by omega), if_neg (by omega)]; done)
 ·
  try simp only [decide_eq_true_eq, decide_eq_false_iff_not, decide_eq_decide, Bool.not_eq_true', Bool.not_eq_false', beq_iff_eq, beq_eq_false_iff_ne, ne_eq, Bool.and_eq_true, Bool.and_eq_false_iff, decide_not] at h1
  refine at_skip rfl ?_
  refine then_n ?_
  refine at_seq rfl ?_
  refine at_seq rfl ?_
  refine rg rfl ?_
  refine Rq ?_
  refine Rq ?_
  refine Rq ?_
  refine Rq ?_
  refine Rq ?_
  refine Rq ?_
  refine Rp_split (fun h2 => ?_) (fun h2 => ?_)
  ·
   try simp only [decide_eq_true_eq, decide_eq_false_iff_not, decide_eq_decide, Bool.not_eq_true', Bool.not_eq_false', beq_iff_eq, beq_eq_false_iff_ne, ne_eq, Bool.and_eq_true, Bool.and_eq_false_iff, decide_not] at h2
   refine Rn ?_
   refine Rn ?_
   refine Rn ?_
   refine Rn ?_
   refine Rn ?_
   refine Rn ?_
   refine Ru ?_
   refine Ru ?_
   refine Ru ?_
   refine Ru ?_
   refine Ru ?_
   refine Rn ?_
   refine Rq ?_
   have tr : ∀ a b c d e f g h i j k m n o p q r s t u v w x y z A : AV, let l := lc_rcmp_ok a b c d e f g; trim ((26,A)::(25,z)::(24,y)::(23,x)::(22,w)::(21,v)::(20,u)::(19,t)::(18,s)::(17,r)::(16,q)::(15,p)::(14,o)::(13,n)::(12,m)::(11,k)::(10,j)::(9,i)::(8,h)::l) l = [(0,a),(1,b),(2,c),(3,d),(4,e),(7,f),(26,A)] := by intros; rfl
   refine R_nil (tr ..) ?_; clear tr
   refine then_n ?_
   refine cdt ?_
   refine at_seq rfl ?_
   refine rg rfl ?_
   refine Rq ?_
   have tr : ∀ a b c d e f g h : AV, let l := lc_rcmp_ok a b c d e f g; trim ((4,h)::l) l = [(0,a),(1,b),(2,c),(3,d),(4,h),(7,f),(26,g)] := by intros; rfl
   refine R_nil (tr ..) ?_; clear tr
   refine then_n ?_
   refine at_ret rfl ?_
   refine then_r ?_
   first | (refine fpure ?_; refine ⟨?_, rfl⟩; rw [cmpS, if_pos (by omega)]; done) | (refine fpure ?_; refine ⟨?_, rfl⟩; rw [cmpS, if_neg (by omega), if_pos (by omega)]; done) | (refine fpure ?_; refine ⟨?_, rfl⟩; rw [cmpS, if_neg (by omega), if_neg (by omega)]; done)
  ·
   try simp only [decide_eq_true_eq, decide_eq_false_iff_not, decide_eq_decide, Bool.not_eq_true', Bool.not_eq_false', beq_iff_eq, beq_eq_false_iff_ne, ne_eq, Bool.and_eq_true, Bool.and_eq_false_iff, decide_not] at h2
   refine Ry ?_
   refine Rq ?_
   refine Ry ?_
   refine Rq ?_
   refine Ry ?_
   refine Rq ?_
   refine Ry ?_
   refine Rq ?_
   refine Ry ?_
   refine Rq ?_
   refine Ry ?_
   refine Rq ?_
   refine Rp_split (fun h3 => ?_) (fun h3 => ?_)
   ·
    try simp only [decide_eq_true_eq, decide_eq_false_iff_not, decide_eq_decide, Bool.not_eq_true', Bool.not_eq_false', beq_iff_eq, beq_eq_false_iff_ne, ne_eq, Bool.and_eq_true, Bool.and_eq_false_iff, decide_not] at h3
    refine Ry ?_
    refine Rq ?_
    refine Ry ?_
    refine Rq ?_
    refine Ry ?_
    refine Rq ?_
    refine Ry ?_
    refine Rq ?_
    refine Ry ?_
    refine Rq ?_
    refine Ry ?_
    refine Rq ?_
    refine Rq ?_
    have tr : ∀ a b c d e f g h i j k m n o p q r s t u v w x y z A : AV, let l := lc_rcmp_ok a b c d e f g; trim ((26,A)::(25,z)::(24,y)::(23,x)::(22,w)::(21,v)::(20,u)::(19,t)::(18,s)::(17,r)::(16,q)::(15,p)::(14,o)::(13,n)::(12,m)::(11,k)::(10,j)::(9,i)::(8,h)::l) l = [(0,a),(1,b),(2,c),(3,d),(4,e),(7,f),(26,A)] := by intros; rfl
    refine R_nil (tr ..) ?_; clear tr
    refine then_n ?_
    refine cdd (fun h4 => ?_) (fun h4 => ?_)
    ·
     try simp only [decide_eq_true_eq, decide_eq_false_iff_not, decide_eq_decide, Bool.not_eq_true', Bool.not_eq_false', beq_iff_eq, beq_eq_false_iff_ne, ne_eq, Bool.and_eq_true, Bool.and_eq_false_iff, decide_not] at h4
     refine at_seq rfl ?_
     refine rg rfl ?_
     refine Rq ?_
     have tr : ∀ a b c d e f g h : AV, let l := lc_rcmp_ok a b c d e f g; trim ((4,h)::l) l = [(0,a),(1,b),(2,c),(3,d),(4,h),(7,f),(26,g)] := by intros; rfl
     refine R_nil (tr ..) ?_; clear tr
     refine then_n ?_
     refine at_ret rfl ?_
     refine then_r ?_
     first | (refine fpure ?_; refine ⟨?_, rfl⟩; rw [cmpS, if_pos (by omega)]; done) | (refine fpure ?_; refine ⟨?_, rfl⟩; rw [cmpS, if_neg (by omega), if_pos (by omega)]; done) | (refine fpure ?_; refine ⟨?_, rfl⟩; rw [cmpS, if_neg (by omega), if_neg (by omega)]; done)
    ·
     try simp only [decide_eq_true_eq, decide_eq_false_iff_not, decide_eq_decide, Bool.not_eq_true', Bool.not_eq_false', beq_iff_eq, beq_eq_false_iff_ne, ne_eq, Bool.and_eq_true, Bool.and_eq_false_iff, decide_not] at h4
     refine at_skip rfl ?_
     refine then_n ?_
     refine at_seq rfl ?_
     refine rg rfl ?_
     refine Rq ?_
     have tr : ∀ a b c d e f g h : AV, let l := lc_rcmp_ok a b c d e f g; trim ((4,h)::l) l = [(0,a),(1,b),(2,c),(3,d),(4,h),(7,f),(26,g)] := by intros; rfl
     refine R_nil (tr ..) ?_; clear tr
     refine then_n ?_
     refine at_ret rfl ?_
     first | (refine fpure ?_; refine ⟨?_, rfl⟩; rw [cmpS, if_pos (by omega)]; done) | (refine fpure ?_; refine ⟨?_, rfl⟩; rw [cmpS, if_neg (by omega), if_pos (by omega)]; done) | (refine fpure ?_; refine ⟨?_, rfl⟩; rw [cmpS, if_neg (by omega), if_neg (by omega)]; done)
   ·
    try simp only [decide_eq_true_eq, decide_eq_false_iff_not, decide_eq_decide, Bool.not_eq_true', Bool.not_eq_false', beq_iff_eq, beq_eq_false_iff_ne, ne_eq, Bool.and_eq_true, Bool.and_eq_false_iff, decide_not] at h3
    refine Rn ?_
    refine Rn ?_
    refine Rn ?_
    refine Rn ?_
    refine Rn ?_
    refine Ry ?_
    refine Rq ?_
    refine Rq ?_
    have tr : ∀ a b c d e f g h i j k m n o p q r s t u v w x y z A : AV, let l := lc_rcmp_ok a b c d e f g; trim ((26,A)::(25,z)::(24,y)::(23,x)::(22,w)::(21,v)::(20,u)::(19,t)::(18,s)::(17,r)::(16,q)::(15,p)::(14,o)::(13,n)::(12,m)::(11,k)::(10,j)::(9,i)::(8,h)::l) l = [(0,a),(1,b),(2,c),(3,d),(4,e),(7,f),(26,A)] := by intros; rfl
    refine R_nil (tr ..) ?_; clear tr
    refine then_n ?_
    refine cdf ?_
    refine at_skip rfl ?_
    refine then_n ?_
    refine at_seq rfl ?_
    refine rg rfl ?_
    refine Rq ?_
    have tr : ∀ a b c d e f g h : AV, let l := lc_rcmp_ok a b c d e f g; trim ((4,h)::l) l = [(0,a),(1,b),(2,c),(3,d),(4,h),(7,f),(26,g)] := by intros; rfl
    refine R_nil (tr ..) ?_; clear tr
    refine then_n ?_
    refine at_ret rfl ?_
    first | (refine fpure ?_; refine ⟨?_, rfl⟩; rw [cmpS, if_pos (by omega)]; done) | (refine fpure ?_; refine ⟨?_, rfl⟩; rw [cmpS, if_neg (by omega), if_pos (by omega)]; done) | (refine fpure ?_; refine ⟨?_, rfl⟩; rw [cmpS, if_neg (by omega), if_neg (by omega)]; done)

abbrev lc_sign_ok (a b c : AV) : Env := [(0,a),(1,b),(2,c)]
theorem sign_ok (lim : Nat) (H : Heap) (x : Int) (hx : Fw x) : ACall sig lim 28 [wv x] H fun r H' => r = AV.i (cmpS x 0) ∧ H' = H := by
 refine ACall_pure (fa := fa28) rfl rfl rfl rfl ?_
 have tr : ∀ a0 : AV, env0 fa28.keep [a0] = [(0,a0),(1,.any),(2,.any)] := fun a0 => rfl
 refine W_to (tr _) ?_; clear tr
 refine at_seq rfl ?_
 refine rg rfl ?_
 refine R_box rfl (by simp (disch := first | omega | (simp only [List.length_map, List.length_append, List.length_set, List.length_cons, List.length_nil]; omega)) only [go_sem, ↓reduceIte, Nat.reduceEqDiff, reduceCtorEq]; rfl) rfl rfl ?_
 refine Rq ?_
 have tr : ∀ a b c d e : AV, let l := lc_sign_ok a b c; trim ((2,e)::(1,d)::l) l = [(0,a),(1,d),(2,e)] := by intros; rfl
 refine R_nil (tr ..) ?_; clear tr
 refine then_n ?_
 refine at_seq rfl ?_
 refine rg rfl ?_
 refine Rq ?_
 refine Rq ?_
 refine Rcall ?_
 refine ACall_eq (cmp_ok _ _ x hx 0 (by unfold Fw; omega)) ?_
 refine Rq ?_
 have tr : ∀ a b c d e f g : AV, let l := lc_sign_ok a b c; trim ((2,g)::(5,f)::(4,e)::(3,d)::l) l = [(0,a),(1,b),(2,g)] := by intros; rfl
 refine R_nil (tr ..) ?_; clear tr
 refine then_n ?_
 refine at_ret rfl ?_
 refine fpure ?_
 refine ⟨?_, rfl⟩
 rfl

abbrev lc_rsign_ok (a b c : AV) : Env := [(0,a),(1,b),(2,c)]
theorem rsign_ok (lim : Nat) (H : Heap) (x : Int) (hx : Fw x) : ACall sig lim 31 [wv x] H fun r H' => r = AV.i (cmpS x 0) ∧ H' = H := by
 refine ACall_pure (fa := fa31) rfl rfl rfl rfl ?_
 have tr : ∀ a0 : AV, env0 fa31.keep [a0] = [(0,a0),(1,.any),(2,.any)] := fun a0 => rfl
 refine W_to (tr _) ?_; clear tr
 refine at_seq rfl ?_
 refine rg rfl ?_
 refine R_box rfl (by simp (disch := first | omega | (simp only [List.length_map, List.length_append, List.length_set, List.length_cons, List.length_nil]; omega)) only [go_sem, ↓reduceIte, Nat.reduceEqDiff, reduceCtorEq]; rfl) rfl rfl ?_
 refine Rq ?_
 have tr : ∀ a b c d e : AV, let l := lc_rsign_ok a b c; trim ((2,e)::(1,d)::l) l = [(0,a),(1,d),(2,e)] := by intros; rfl
 refine R_nil (tr ..) ?_; clear tr
 refine then_n ?_
 refine at_seq rfl ?_
 refine rg rfl ?_
 refine Rq ?_
 refine Rq ?_
 refine Rcall ?_
 refine ACall_eq (rcmp_ok _ _ x hx 0 (by unfold Fw; omega)) ?_
 refine Rq ?_
 have tr : ∀ a b c d e f g : AV, let l := lc_rsign_ok a b c; trim ((2,g)::(5,f)::(4,e)::(3,d)::l) l = [(0,a),(1,b),(2,g)] := by intros; rfl
 refine R_nil (tr ..) ?_; clear tr
 refine then_n ?_
 refine at_ret rfl ?_
 refine fpure ?_
 refine ⟨?_, rfl⟩
 rfl

abbrev lc_fits_ok (a b c d e f : AV) : Env := [(0,a),(1,b),(2,c),(3,d),(4,e),(11,f)]
theorem fits_ok (lim : Nat) (H : Heap) (x : Int) (hx : Fw x) : ACall sig lim 26 [wv x] H fun r H' => r = .tup [AV.i (ftS x).1, .v (.bool (ftS x).2)] ∧ H' = H := by
 have fx := hx
 unfold Fw at fx
 refine ACall_pure (fa := fa26) rfl rfl rfl rfl ?_
 have tr : ∀ a0 : AV, env0 fa26.keep [a0] = [(0,a0),(1,.any),(2,.any),(3,.any),(4,.any),(11,.any)] := fun a0 => rfl
 refine W_to (tr _) ?_; clear tr
 refine at_seq rfl ?_
 refine rg rfl ?_
 refine R_box rfl (by simp (disch := first | omega | (simp only [List.length_map, List.length_append, List.length_set, List.length_cons, List.length_nil]; omega)) only [go_sem, ↓reduceIte, Nat.reduceEqDiff, reduceCtorEq]; rfl) rfl rfl ?_
 refine Rq ?_
 refine Rq ?_
 have tr : ∀ a b c d e f g h i : AV, let l := lc_fits_ok a b c d e f; trim ((3,i)::(2,h)::(1,g)::l) l = [(0,a),(1,g),(2,h),(3,i),(4,e),(11,f)] := by intros; rfl
 refine R_nil (tr ..) ?_; clear tr
 refine then_n ?_
 refine at_seq rfl ?_
 refine rg rfl ?_
 refine Rq ?_
 refine Rq ?_
 refine Rq ?_
 refine Rq ?_
 have tr : ∀ a b c d e f g h i j : AV, let l := lc_fits_ok a b c d e f; trim ((4,j)::(7,i)::(6,h)::(5,g)::l) l = [(0,a),(1,b),(2,c),(3,d),(4,j),(11,f)] := by intros; rfl
 refine R_nil (tr ..) ?_; clear tr
 refine then_n ?_
 refine at_seq rfl ?_
 refine at_seq rfl ?_
 refine rl rfl rfl ?_
 refine Lq ?_
 refine Lq ?_
 refine L_nil ?_
 refine Ms ?_
 refine Rcall ?_
 refine ACall_eq (of_ok _ _ _ (by omega)) ?_
 refine R_end ?_
 refine M_nil ?_
 refine Rq ?_
 have tr : ∀ a b c d e f g h i j : AV, let l := lc_fits_ok a b c d e f; trim ((11,j)::(9,i)::(10,h)::(8,g)::l) l = [(0,a),(1,b),(2,c),(3,d),(4,e),(11,j)] := by intros; rfl
 refine R_nil (tr ..) ?_; clear tr
 refine then_n ?_
 refine cdd (fun h1 => ?_) (fun h1 => ?_)
 ·
  try simp only [decide_eq_true_eq, decide_eq_false_iff_not, decide_eq_decide, Bool.not_eq_true', Bool.not_eq_false', beq_iff_eq, beq_eq_false_iff_ne, ne_eq, Bool.and_eq_true, Bool.and_eq_false_iff, decide_not] at h1
  refine at_seq rfl ?_
  refine rg rfl ?_
  refine Rq ?_
  refine Rq ?_
  have tr : ∀ a b c d e f g h : AV, let l := lc_fits_ok a b c d e f; trim ((3,h)::(2,g)::l) l = [(0,a),(1,b),(2,g),(3,h),(4,e),(11,f)] := by intros; rfl
  refine R_nil (tr ..) ?_; clear tr
  refine then_n ?_
  refine at_ret rfl ?_
  refine then_r ?_
  first | (refine fpure ?_; refine ⟨?_, rfl⟩; rw [ftS, if_pos (by omega)] <;> exact tupI (by omega) rfl; done) | (refine fpure ?_; refine ⟨?_, rfl⟩; rw [ftS, if_neg (by omega)] <;> exact tupI (by omega) rfl; done)
 ·
  try simp only [decide_eq_true_eq, decide_eq_false_iff_not, decide_eq_decide, Bool.not_eq_true', Bool.not_eq_false', beq_iff_eq, beq_eq_false_iff_ne, ne_eq, Bool.and_eq_true, Bool.and_eq_false_iff, decide_not] at h1
  refine at_skip rfl ?_
  refine then_n ?_
  refine at_seq rfl ?_
  refine rg rfl ?_
  refine Rq ?_
  refine Rq ?_
  refine Rq ?_
  have tr : ∀ a b c d e f g h i : AV, let l := lc_fits_ok a b c d e f; trim ((3,i)::(2,h)::(12,g)::l) l = [(0,a),(1,b),(2,h),(3,i),(4,e),(11,f)] := by intros; rfl
  refine R_nil (tr ..) ?_; clear tr
  refine then_n ?_
  refine at_ret rfl ?_
  first | (refine fpure ?_; refine ⟨?_, rfl⟩; rw [ftS, if_pos (by omega)] <;> exact tupI (by omega) rfl; done) | (refine fpure ?_; refine ⟨?_, rfl⟩; rw [ftS, if_neg (by omega)] <;> exact tupI (by omega) rfl; done)

abbrev lc_rfits_ok (a b c d e f : AV) : Env := [(0,a),(1,b),(2,c),(3,d),(4,e),(11,f)]
theorem rfits_ok (lim : Nat) (H : Heap) (x : Int) (hx : Fw x) : ACall sig lim 27 [wv x] H fun r H' => r = .tup [AV.i (ftS x).1, .v (.bool (ftS x).2)] ∧ H' = H := by
 have fx := hx
 unfold Fw at fx
 refine ACall_pure (fa := fa27) rfl rfl rfl rfl ?_
 have tr : ∀ a0 : AV, env0 fa27.keep [a0] = [(0,a0),(1,.any),(2,.any),(3,.any),(4,.any),(11,.any)] := fun a0 => rfl
 refine W_to (tr _) ?_; clear tr
 refine at_seq rfl ?_
 refine rg rfl ?_
 refine R_box rfl (by simp (disch := first | omega | (simp only [List.length_map, List.length_append, List.length_set, List.length_cons, List.length_nil]; omega)) only [go_sem, ↓reduceIte, Nat.reduceEqDiff, reduceCtorEq]; rfl) rfl rfl ?_
 refine Rq ?_
 refine Rq ?_
 have tr : ∀ a b c d e f g h i : AV, let l := lc_rfits_ok a b c d e f; trim ((3,i)::(2,h)::(1,g)::l) l = [(0,a),(1,g),(2,h),(3,i),(4,e),(11,f)] := by intros; rfl
 refine R_nil (tr ..) ?_; clear tr
 refine then_n ?_
 refine at_seq rfl ?_
 refine rg rfl ?_
 refine Rq ?_
 refine Rq ?_
 refine Rq ?_
 refine Rq ?_
 have tr : ∀ a b c d e f g h i j : AV, let l := lc_rfits_ok a b c d e f; trim ((4,j)::(7,i)::(6,h)::(5,g)::l) l = [(0,a),(1,b),(2,c),(3,d),(4,j),(11,f)] := by intros; rfl
 refine R_nil (tr ..) ?_; clear tr
 refine then_n ?_
 refine at_seq rfl ?_
 refine at_seq rfl ?_
 refine rl rfl rfl ?_
 refine Lq ?_
 refine Lq ?_
 refine L_nil ?_
 refine Ms ?_
 refine Rcall ?_
 refine ACall_eq (rof_ok _ _ _ (by omega)) ?_
 refine R_end ?_
 refine M_nil ?_
 refine Rq ?_
 have tr : ∀ a b c d e f g h i j : AV, let l := lc_rfits_ok a b c d e f; trim ((11,j)::(9,i)::(10,h)::(8,g)::l) l = [(0,a),(1,b),(2,c),(3,d),(4,e),(11,j)] := by intros; rfl
 refine R_nil (tr ..) ?_; clear tr
 refine then_n ?_
 refine cdd (fun h1 => ?_) (fun h1 => ?_)
 ·
  try simp only [decide_eq_true_eq, decide_eq_false_iff_not, decide_eq_decide, Bool.not_eq_true', Bool.not_eq_false', beq_iff_eq, beq_eq_false_iff_ne, ne_eq, Bool.and_eq_true, Bool.and_eq_false_iff, decide_not] at h1
  refine at_seq rfl ?_
  refine rg rfl ?_
  refine Rq ?_
  refine Rq ?_
  have tr : ∀ a b c d e f g h : AV, let l := lc_rfits_ok a b c d e f; trim ((3,h)::(2,g)::l) l = [(0,a),(1,b),(2,g),(3,h),(4,e),(11,f)] := by intros; rfl
  refine R_nil (tr ..) ?_; clear tr
  refine then_n ?_
  refine at_ret rfl ?_
  refine then_r ?_
  first | (refine fpure ?_; refine ⟨?_, rfl⟩; rw [ftS, if_pos (by omega)] <;> exact tupI (by omega) rfl; done) | (refine fpure ?_; refine ⟨?_, rfl⟩; rw [ftS, if_neg (by omega)] <;> exact tupI (by omega) rfl; done)
 ·
  try simp only [decide_eq_true_eq, decide_eq_false_iff_not, decide_eq_decide, Bool.not_eq_true', Bool.not_eq_false', beq_iff_eq, beq_eq_false_iff_ne, ne_eq, Bool.and_eq_true, Bool.and_eq_false_iff, decide_not] at h1
  refine at_skip rfl ?_
  refine then_n ?_
  refine at_seq rfl ?_
  refine rg rfl ?_
  refine Rq ?_
  refine Rq ?_
  refine Rq ?_
  have tr : ∀ a b c d e f g h i : AV, let l := lc_rfits_ok a b c d e f; trim ((3,i)::(2,h)::(12,g)::l) l = [(0,a),(1,b),(2,h),(3,i),(4,e),(11,f)] := by intros; rfl
  refine R_nil (tr ..) ?_; clear tr
  refine then_n ?_
  refine at_ret rfl ?_
  first | (refine fpure ?_; refine ⟨?_, rfl⟩; rw [ftS, if_pos (by omega)] <;> exact tupI (by omega) rfl; done) | (refine fpure ?_; refine ⟨?_, rfl⟩; rw [ftS, if_neg (by omega)] <;> exact tupI (by omega) rfl; done)

end Go.Proofs.YtokhmkkifmhfmaaDoor
