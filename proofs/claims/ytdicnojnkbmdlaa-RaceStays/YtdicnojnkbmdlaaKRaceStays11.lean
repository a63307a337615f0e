/-
  Texts of RaceStays, part 12 of 16. Walks of chapters 52 and 53. The steps are written by program (walk.py).
-/
import Derived.Test.YtdicnojnkbmdlaaKRaceStays4
import Derived.Test.YtdicnojnkbmdlaaKRaceStays10
import Derived.Test.YtdicnojnkbmdlaaKRaceStays5
section
set_option linter.unusedSimpArgs false
set_option linter.unusedVariables false
set_option maxHeartbeats 40000000
set_option maxRecDepth 4000
namespace Go.Proofs.Ytdicnojnkbmdlaa
open Go Go.Am

abbrev lc_node_ok (a b c d : AV) : Env := [(0,a),(1,b),(2,c),(4,d)]
theorem node_ok (lim : Nat) (H : Heap) (n s t : Int) (E : List Ed) (x : Int) :
    ACall sig lim 50 [.agg (graphC n s t E), AV.i x] H fun r H' => r = .v (.bool (decide (0 ≤ x ∧ x < n))) ∧ H' = H := by
 refine ACall_pure (fa := fa50) rfl rfl rfl rfl ?_
 have tr : ∀ a0 a1 : AV, env0 fa50.keep [a0, a1] = [(0,a0),(1,a1),(2,.any),(4,.any)] := fun a0 a1 => rfl
 refine W_to (tr _ _) ?_; clear tr
 refine at_seq rfl ?_
 refine rg rfl ?_
 refine R_box rfl (by simp (disch := first | omega | (simp only [List.length_map, List.length_append, List.length_set, List.length_cons, List.length_nil]; omega)) only [go_sem, ↓reduceIte, Nat.reduceEqDiff, reduceCtorEq] <;> rfl) rfl rfl ?_
 refine Rq ?_
 have tr : ∀ a b c d e f : AV, let l := lc_node_ok a b c d; trim ((4,f)::(2,e)::l) l = [(0,a),(1,b),(2,e),(4,f)] := by intros; rfl
 refine R_nil (tr ..) ?_; clear tr
 refine then_n ?_
 refine at_seq rfl ?_
 refine rg rfl ?_
 refine Rq ?_
 refine Rq ?_
 refine Rq ?_
 refine Rp_split (fun h1 => ?_) (fun h1 => ?_)
 ·
  try simp only [decide_eq_true_eq, decide_eq_false_iff_not, Bool.not_eq_true', Bool.not_eq_false', beq_iff_eq, beq_eq_false_iff_ne, ne_eq] at h1
  refine Ry ?_
  refine Rq ?_
  refine Ry ?_
  refine Rq ?_
  refine Ry ?_
  refine Rq ?_
  refine Ry ?_
  refine Rq ?_
  refine Rq ?_
  refine Rq ?_
  have tr : ∀ a b c d e f g h i j k m n : AV, let l := lc_node_ok a b c d; trim ((4,n)::(12,m)::(11,k)::(10,j)::(9,i)::(8,h)::(7,g)::(6,f)::(5,e)::l) l = [(0,a),(1,b),(2,c),(4,n)] := by intros; rfl
  refine R_nil (tr ..) ?_; clear tr
  refine then_n ?_
  refine at_ret rfl ?_
  refine fpure ?_
  refine ⟨?_, rfl⟩
  congr 2
  exact decide_eq_decide.mpr (by omega)
 ·
  try simp only [decide_eq_true_eq, decide_eq_false_iff_not, Bool.not_eq_true', Bool.not_eq_false', beq_iff_eq, beq_eq_false_iff_ne, ne_eq] at h1
  refine Rn ?_
  refine Rn ?_
  refine Rn ?_
  refine Rn ?_
  refine Rq ?_
  refine Rq ?_
  have tr : ∀ a b c d e f g h i j k m n : AV, let l := lc_node_ok a b c d; trim ((4,n)::(12,m)::(11,k)::(10,j)::(9,i)::(8,h)::(7,g)::(6,f)::(5,e)::l) l = [(0,a),(1,b),(2,c),(4,n)] := by intros; rfl
  refine R_nil (tr ..) ?_; clear tr
  refine then_n ?_
  refine at_ret rfl ?_
  refine fpure ?_
  refine ⟨?_, rfl⟩
  rw [decide_eq_false (by omega)]

abbrev lc_small_ok (a b c : AV) : Env := [(0,a),(1,b),(2,c)]
theorem small_ok (lim : Nat) (H : Heap) (n s t : Int) (E : List Ed) :
    ACall sig lim 13 [.agg (graphC n s t E)] H fun r H' => r = .v (.bool (decide (E.length ≤ 200 ∧ n ≤ 200))) ∧ H' = H := by
 refine ACall_pure (fa := fa13) rfl rfl rfl rfl ?_
 have tr : ∀ a0 : AV, env0 fa13.keep [a0] = [(0,a0),(1,.any),(2,.any)] := fun a0 => rfl
 refine W_to (tr _) ?_; clear tr
 refine at_seq rfl ?_
 refine rg rfl ?_
 refine R_box rfl (by simp (disch := first | omega | (simp only [List.length_map, List.length_append, List.length_set, List.length_cons, List.length_nil]; omega)) only [go_sem, ↓reduceIte, Nat.reduceEqDiff, reduceCtorEq] <;> rfl) rfl rfl ?_
 refine Rq ?_
 have tr : ∀ a b c d e : AV, let l := lc_small_ok a b c; trim ((2,e)::(1,d)::l) l = [(0,a),(1,d),(2,e)] := by intros; rfl
 refine R_nil (tr ..) ?_; clear tr
 refine then_n ?_
 refine at_seq rfl ?_
 refine rg rfl ?_
 refine Rq ?_
 refine Rq ?_
 refine Rq ?_
 refine Rq ?_
 refine Rq ?_
 refine Rp_split (fun h1 => ?_) (fun h1 => ?_)
 ·
  try simp only [decide_eq_true_eq, decide_eq_false_iff_not, Bool.not_eq_true', Bool.not_eq_false', beq_iff_eq, beq_eq_false_iff_ne, ne_eq] at h1
  refine Ry ?_
  refine Rq ?_
  refine Ry ?_
  refine Rq ?_
  refine Ry ?_
  refine Rq ?_
  refine Rq ?_
  refine Rq ?_
  have tr : ∀ a b c d e f g h i j k m n : AV, let l := lc_small_ok a b c; trim ((2,n)::(11,m)::(10,k)::(9,j)::(8,i)::(7,h)::(6,g)::(5,f)::(4,e)::(3,d)::l) l = [(0,a),(1,b),(2,n)] := by intros; rfl
  refine R_nil (tr ..) ?_; clear tr
  refine then_n ?_
  refine at_ret rfl ?_
  refine fpure ?_
  refine ⟨?_, rfl⟩
  congr 2
  exact decide_eq_decide.mpr (by omega)
 ·
  try simp only [decide_eq_true_eq, decide_eq_false_iff_not, Bool.not_eq_true', Bool.not_eq_false', beq_iff_eq, beq_eq_false_iff_ne, ne_eq] at h1
  refine Rn ?_
  refine Rn ?_
  refine Rn ?_
  refine Rq ?_
  refine Rq ?_
  have tr : ∀ a b c d e f g h i j k m n : AV, let l := lc_small_ok a b c; trim ((2,n)::(11,m)::(10,k)::(9,j)::(8,i)::(7,h)::(6,g)::(5,f)::(4,e)::(3,d)::l) l = [(0,a),(1,b),(2,n)] := by intros; rfl
  refine R_nil (tr ..) ?_; clear tr
  refine then_n ?_
  refine at_ret rfl ?_
  refine fpure ?_
  refine ⟨?_, rfl⟩
  rw [decide_eq_false (by omega)]

abbrev lc_check_ok (a b c d e f g h i j k m n : AV) : Env := [(0,a),(1,b),(2,c),(4,d),(5,e),(14,f),(34,g),(40,h),(41,i),(42,j),(43,k),(46,m),(66,n)]
theorem check_ok (lim : Nat) (H : Heap) (n s t : Int) (E : List Ed) :
    ACall sig lim 21 [.agg (graphC n s t E)] H fun r H' => r = AV.i (gchkS n s t E) ∧ H' = H := by
 refine ACall_pure (fa := fa21) rfl rfl rfl rfl ?_
 have tr : ∀ a0 : AV, env0 fa21.keep [a0] = [(0,a0),(1,.any),(2,.any),(4,.any),(5,.any),(14,.any),(34,.any),(40,.any),(41,.any),(42,.any),(43,.any),(46,.any),(66,.any)] := fun a0 => rfl
 refine W_to (tr _) ?_; clear tr
 refine at_seq rfl ?_
 refine rg rfl ?_
 refine R_box rfl (by simp (disch := first | omega | (simp only [List.length_map, List.length_append, List.length_set, List.length_cons, List.length_nil]; omega)) only [go_sem, ↓reduceIte, Nat.reduceEqDiff, reduceCtorEq] <;> rfl) rfl rfl ?_
 refine Rq ?_
 have tr : ∀ a b c d e f g h i j k m n o p : AV, let l := lc_check_ok a b c d e f g h i j k m n; trim ((2,p)::(1,o)::l) l = [(0,a),(1,o),(2,p),(4,d),(5,e),(14,f),(34,g),(40,h),(41,i),(42,j),(43,k),(46,m),(66,n)] := by intros; rfl
 refine R_nil (tr ..) ?_; clear tr
 refine then_n ?_
 refine at_seq rfl ?_
 refine at_block rfl ?_
 refine at_seq rfl ?_
 refine rg rfl ?_
 refine Rq ?_
 refine Rq ?_
 refine Rq ?_
 refine Rq ?_
 refine Rp_split (fun h1 => ?_) (fun h1 => ?_)
 ·
  try simp only [decide_eq_true_eq, decide_eq_false_iff_not, Bool.not_eq_true', Bool.not_eq_false', beq_iff_eq, beq_eq_false_iff_ne, ne_eq] at h1
  refine Rn ?_
  refine Rn ?_
  refine Rn ?_
  refine Rq ?_
  refine Rq ?_
  have tr : ∀ a b c d e f g h i j k m n o p q r s t u v w : AV, let l := lc_check_ok a b c d e f g h i j k m n; trim ((5,w)::(13,v)::(12,u)::(11,t)::(10,s)::(9,r)::(8,q)::(7,p)::(6,o)::l) l = [(0,a),(1,b),(2,c),(4,d),(5,w),(14,f),(34,g),(40,h),(41,i),(42,j),(43,k),(46,m),(66,n)] := by intros; rfl
  refine R_nil (tr ..) ?_; clear tr
  refine then_n ?_
  refine cdt ?_
  refine at_seq rfl ?_
  refine rg rfl ?_
  refine Rq ?_
  have tr : ∀ a b c d e f g h i j k m n o : AV, let l := lc_check_ok a b c d e f g h i j k m n; trim ((2,o)::l) l = [(0,a),(1,b),(2,o),(4,d),(5,e),(14,f),(34,g),(40,h),(41,i),(42,j),(43,k),(46,m),(66,n)] := by intros; rfl
  refine R_nil (tr ..) ?_; clear tr
  refine then_n ?_
  refine at_ret rfl ?_
  refine blk_r ?_
  refine then_r ?_
  refine fpure ?_
  refine ⟨?_, rfl⟩
  rw [gchkS, if_pos (by omega)]
 ·
  try simp only [decide_eq_true_eq, decide_eq_false_iff_not, Bool.not_eq_true', Bool.not_eq_false', beq_iff_eq, beq_eq_false_iff_ne, ne_eq] at h1
  refine Ry ?_
  refine Rq ?_
  refine Ry ?_
  refine Rq ?_
  refine Ry ?_
  refine Rq ?_
  refine Rq ?_
  refine Rq ?_
  have tr : ∀ a b c d e f g h i j k m n o p q r s t u v w : AV, let l := lc_check_ok a b c d e f g h i j k m n; trim ((5,w)::(13,v)::(12,u)::(11,t)::(10,s)::(9,r)::(8,q)::(7,p)::(6,o)::l) l = [(0,a),(1,b),(2,c),(4,d),(5,w),(14,f),(34,g),(40,h),(41,i),(42,j),(43,k),(46,m),(66,n)] := by intros; rfl
  refine R_nil (tr ..) ?_; clear tr
  refine then_n ?_
  refine cdd (fun h2 => ?_) (fun h2 => ?_)
  ·
   try simp only [decide_eq_true_eq, decide_eq_false_iff_not, Bool.not_eq_true', Bool.not_eq_false', beq_iff_eq, beq_eq_false_iff_ne, ne_eq] at h2
   refine at_seq rfl ?_
   refine rg rfl ?_
   refine Rq ?_
   have tr : ∀ a b c d e f g h i j k m n o : AV, let l := lc_check_ok a b c d e f g h i j k m n; trim ((2,o)::l) l = [(0,a),(1,b),(2,o),(4,d),(5,e),(14,f),(34,g),(40,h),(41,i),(42,j),(43,k),(46,m),(66,n)] := by intros; rfl
   refine R_nil (tr ..) ?_; clear tr
   refine then_n ?_
   refine at_ret rfl ?_
   refine blk_r ?_
   refine then_r ?_
   refine fpure ?_
   refine ⟨?_, rfl⟩
   rw [gchkS, if_pos (by omega)]
  ·
   try simp only [decide_eq_true_eq, decide_eq_false_iff_not, Bool.not_eq_true', Bool.not_eq_false', beq_iff_eq, beq_eq_false_iff_ne, ne_eq] at h2
   refine at_seq rfl ?_
   refine rg rfl ?_
   refine Rq ?_
   refine Rq ?_
   refine Rq ?_
   refine Rcall ?_
   refine ACall_eq (node_ok _ _ n s t E _) ?_
   refine Rq ?_
   refine Rq ?_
   refine Rp_split (fun h3 => ?_) (fun h3 => ?_)
   ·
    try simp only [decide_eq_true_eq, decide_eq_false_iff_not, Bool.not_eq_true', Bool.not_eq_false', beq_iff_eq, beq_eq_false_iff_ne, ne_eq] at h3
    refine Rn ?_
    refine Rn ?_
    refine Rn ?_
    refine Rn ?_
    refine Rn ?_
    refine Rq ?_
    refine Rq ?_
    refine Rn ?_
    refine Rn ?_
    refine Rn ?_
    refine Rn ?_
    refine Rn ?_
    refine Rq ?_
    refine Rq ?_
    have tr : ∀ a b c d e f g h i j k m n o p q r s t u v w x y z A B C D E F G H : AV, let l := lc_check_ok a b c d e f g h i j k m n; trim ((14,H)::(33,G)::(32,F)::(31,E)::(30,D)::(29,C)::(28,B)::(27,A)::(26,z)::(25,y)::(24,x)::(23,w)::(22,v)::(21,u)::(20,t)::(19,s)::(18,r)::(17,q)::(16,p)::(15,o)::l) l = [(0,a),(1,b),(2,c),(4,d),(5,e),(14,H),(34,g),(40,h),(41,i),(42,j),(43,k),(46,m),(66,n)] := by intros; rfl
    refine R_nil (tr ..) ?_; clear tr
    refine then_n ?_
    refine cdt ?_
    refine at_seq rfl ?_
    refine rg rfl ?_
    refine Rq ?_
    have tr : ∀ a b c d e f g h i j k m n o : AV, let l := lc_check_ok a b c d e f g h i j k m n; trim ((2,o)::l) l = [(0,a),(1,b),(2,o),(4,d),(5,e),(14,f),(34,g),(40,h),(41,i),(42,j),(43,k),(46,m),(66,n)] := by intros; rfl
    refine R_nil (tr ..) ?_; clear tr
    refine then_n ?_
    refine at_ret rfl ?_
    refine blk_r ?_
    refine then_r ?_
    refine fpure ?_
    refine ⟨?_, rfl⟩
    rw [gchkS, if_neg (by omega), if_pos (by omega)]
   ·
    try simp only [decide_eq_true_eq, decide_eq_false_iff_not, Bool.not_eq_true', Bool.not_eq_false', beq_iff_eq, beq_eq_false_iff_ne, ne_eq] at h3
    refine Ry ?_
    refine Rq ?_
    refine Ry ?_
    refine Rq ?_
    refine Ry ?_
    refine Rq ?_
    refine Ry ?_
    refine Rcall ?_
    refine ACall_eq (node_ok _ _ n s t E _) ?_
    refine Ry ?_
    refine Rq ?_
    refine Rq ?_
    refine Rq ?_
    refine Rp_split (fun h4 => ?_) (fun h4 => ?_)
    ·
     try simp only [decide_eq_true_eq, decide_eq_false_iff_not, Bool.not_eq_true', Bool.not_eq_false', beq_iff_eq, beq_eq_false_iff_ne, ne_eq] at h4
     refine Rn ?_
     refine Rn ?_
     refine Rn ?_
     refine Rn ?_
     refine Rn ?_
     refine Rq ?_
     refine Rq ?_
     have tr : ∀ a b c d e f g h i j k m n o p q r s t u v w x y z A B C D E F G H : AV, let l := lc_check_ok a b c d e f g h i j k m n; trim ((14,H)::(33,G)::(32,F)::(31,E)::(30,D)::(29,C)::(28,B)::(27,A)::(26,z)::(25,y)::(24,x)::(23,w)::(22,v)::(21,u)::(20,t)::(19,s)::(18,r)::(17,q)::(16,p)::(15,o)::l) l = [(0,a),(1,b),(2,c),(4,d),(5,e),(14,H),(34,g),(40,h),(41,i),(42,j),(43,k),(46,m),(66,n)] := by intros; rfl
     refine R_nil (tr ..) ?_; clear tr
     refine then_n ?_
     refine cdt ?_
     refine at_seq rfl ?_
     refine rg rfl ?_
     refine Rq ?_
     have tr : ∀ a b c d e f g h i j k m n o : AV, let l := lc_check_ok a b c d e f g h i j k m n; trim ((2,o)::l) l = [(0,a),(1,b),(2,o),(4,d),(5,e),(14,f),(34,g),(40,h),(41,i),(42,j),(43,k),(46,m),(66,n)] := by intros; rfl
     refine R_nil (tr ..) ?_; clear tr
     refine then_n ?_
     refine at_ret rfl ?_
     refine blk_r ?_
     refine then_r ?_
     refine fpure ?_
     refine ⟨?_, rfl⟩
     rw [gchkS, if_neg (by omega), if_pos (by omega)]
    ·
     try simp only [decide_eq_true_eq, decide_eq_false_iff_not, Bool.not_eq_true', Bool.not_eq_false', beq_iff_eq, beq_eq_false_iff_ne, ne_eq] at h4
     refine Ry ?_
     refine Rq ?_
     refine Ry ?_
     refine Rq ?_
     refine Ry ?_
     refine Rq ?_
     refine Ry ?_
     refine Rq ?_
     refine Ry ?_
     refine Rq ?_
     refine Rq ?_
     refine Rq ?_
     have tr : ∀ a b c d e f g h i j k m n o p q r s t u v w x y z A B C D E F G H : AV, let l := lc_check_ok a b c d e f g h i j k m n; trim ((14,H)::(33,G)::(32,F)::(31,E)::(30,D)::(29,C)::(28,B)::(27,A)::(26,z)::(25,y)::(24,x)::(23,w)::(22,v)::(21,u)::(20,t)::(19,s)::(18,r)::(17,q)::(16,p)::(15,o)::l) l = [(0,a),(1,b),(2,c),(4,d),(5,e),(14,H),(34,g),(40,h),(41,i),(42,j),(43,k),(46,m),(66,n)] := by intros; rfl
     refine R_nil (tr ..) ?_; clear tr
     refine then_n ?_
     refine cdd (fun h5 => ?_) (fun h5 => ?_)
     ·
      try simp only [decide_eq_true_eq, decide_eq_false_iff_not, Bool.not_eq_true', Bool.not_eq_false', beq_iff_eq, beq_eq_false_iff_ne, ne_eq] at h5
      refine at_seq rfl ?_
      refine rg rfl ?_
      refine Rq ?_
      have tr : ∀ a b c d e f g h i j k m n o : AV, let l := lc_check_ok a b c d e f g h i j k m n; trim ((2,o)::l) l = [(0,a),(1,b),(2,o),(4,d),(5,e),(14,f),(34,g),(40,h),(41,i),(42,j),(43,k),(46,m),(66,n)] := by intros; rfl
      refine R_nil (tr ..) ?_; clear tr
      refine then_n ?_
      refine at_ret rfl ?_
      refine blk_r ?_
      refine then_r ?_
      refine fpure ?_
      refine ⟨?_, rfl⟩
      rw [gchkS, if_neg (by omega), if_pos (by omega)]
     ·
      try simp only [decide_eq_true_eq, decide_eq_false_iff_not, Bool.not_eq_true', Bool.not_eq_false', beq_iff_eq, beq_eq_false_iff_ne, ne_eq] at h5
      refine at_seq rfl ?_
      refine rg rfl ?_
      refine Rq ?_
      refine Rq ?_
      refine Rq ?_
      refine Rq ?_
      refine Rq ?_
      have tr : ∀ a b c d e f g h i j k m n o p q r s : AV, let l := lc_check_ok a b c d e f g h i j k m n; trim ((34,s)::(38,r)::(37,q)::(36,p)::(35,o)::l) l = [(0,a),(1,b),(2,c),(4,d),(5,e),(14,f),(34,s),(40,h),(41,i),(42,j),(43,k),(46,m),(66,n)] := by intros; rfl
      refine R_nil (tr ..) ?_; clear tr
      refine then_n ?_
      refine cdd (fun h6 => ?_) (fun h6 => ?_)
      ·
       try simp only [decide_eq_true_eq, decide_eq_false_iff_not, Bool.not_eq_true', Bool.not_eq_false', beq_iff_eq, beq_eq_false_iff_ne, ne_eq] at h6
       refine at_seq rfl ?_
       refine rg rfl ?_
       refine Rq ?_
       have tr : ∀ a b c d e f g h i j k m n o : AV, let l := lc_check_ok a b c d e f g h i j k m n; trim ((2,o)::l) l = [(0,a),(1,b),(2,o),(4,d),(5,e),(14,f),(34,g),(40,h),(41,i),(42,j),(43,k),(46,m),(66,n)] := by intros; rfl
       refine R_nil (tr ..) ?_; clear tr
       refine then_n ?_
       refine at_ret rfl ?_
       refine blk_r ?_
       refine then_r ?_
       refine fpure ?_
       refine ⟨?_, rfl⟩
       rw [gchkS, if_neg (by omega), if_neg (by omega), if_pos (by omega)]
      ·
       try simp only [decide_eq_true_eq, decide_eq_false_iff_not, Bool.not_eq_true', Bool.not_eq_false', beq_iff_eq, beq_eq_false_iff_ne, ne_eq] at h6
       refine at_skip rfl ?_
       refine blk_n ?_
       refine then_n ?_
       refine at_seq rfl ?_
       refine at_seq rfl ?_
       refine rg rfl ?_
       refine Rq ?_
       refine Rq ?_
       refine Rq ?_
       refine Rq ?_
       have tr : ∀ a b c d e f g h i j k m n o p q r : AV, let l := lc_check_ok a b c d e f g h i j k m n; trim ((42,r)::(41,q)::(40,p)::(39,o)::l) l = [(0,a),(1,b),(2,c),(4,d),(5,e),(14,f),(34,g),(40,p),(41,q),(42,r),(43,k),(46,m),(66,n)] := by intros; rfl
       refine R_nil (tr ..) ?_; clear tr
       refine then_n ?_
       refine at_block rfl ?_
       refine loop_n rfl (fun mm kv H' => ∃ u : Nat, ∃ X : Heap, ∃ x2 x4 x43 x46 x66 : AV, (kv = [(2, x2), (4, x4), (42, AV.i u), (43, x43), (46, x46), (66, x66)]) ∧ (mm = E.length - u) ∧ (H' = H ++ [some (graphC n s t E)] ++ X) ∧ (u ≤ E.length) ∧ (ferr (fun i => edErr n (gt E i)) u = 0)) ⟨0, [], _, _, _, _, _, rfl, rfl, by simp, by omega, by rfl⟩ (by rfl) ?_
       rintro mm kv H1 ⟨u, X, x2, x4, x43, x46, x66, rfl, rfl, hX, hu, hz⟩
       have tr : ∀ a b c d e f g h i j k m n o p q r s t : AV, upd [(0,a),(1,b),(2,c),(4,d),(5,e),(14,f),(34,g),(40,h),(41,i),(42,j),(43,k),(46,m),(66,n)] [(2,o),(4,p),(42,q),(43,r),(46,s),(66,t)] = [(0,a),(1,b),(2,o),(4,p),(5,e),(14,f),(34,g),(40,h),(41,i),(42,q),(43,r),(46,s),(66,t)] := by intros; rfl
       refine W_to (tr ..) ?_; clear tr
       subst hX
       refine at_seq rfl ?_
       refine rg rfl ?_
       refine Rq ?_
       have tr : ∀ a b c d e f g h i j k m n o : AV, let l := lc_check_ok a b c d e f g h i j k m n; trim ((43,o)::l) l = [(0,a),(1,b),(2,c),(4,d),(5,e),(14,f),(34,g),(40,h),(41,i),(42,j),(43,o),(46,m),(66,n)] := by intros; rfl
       refine R_nil (tr ..) ?_; clear tr
       refine then_n ?_
       refine at_seq rfl ?_
       refine cdd (fun h7 => ?_) (fun h7 => ?_)
       ·
        try simp only [decide_eq_true_eq, decide_eq_false_iff_not, Bool.not_eq_true', Bool.not_eq_false', beq_iff_eq, beq_eq_false_iff_ne, ne_eq] at h7
        refine at_skip rfl ?_
        refine then_n ?_
        refine at_seq rfl ?_
        refine at_block rfl ?_
        refine at_seq rfl ?_
        refine rg rfl ?_
        refine Rq ?_
        refine Rq ?_
        refine R_alloc (by simp (disch := first | omega | (simp only [List.length_map, List.length_append, List.length_set, List.length_cons, List.length_nil]; omega)) only [go_sem, ↓reduceIte, Nat.reduceEqDiff, reduceCtorEq] <;> rfl) rfl (by simp only [List.map_cons, List.map_nil]; rfl) ?_
        refine R_store ty66 (by simp (disch := first | omega | (simp only [List.length_map, List.length_append, List.length_set, List.length_cons, List.length_nil]; omega)) only [go_sem, ↓reduceIte, Nat.reduceEqDiff, reduceCtorEq] <;> rfl) (by simp (disch := first | omega | (simp only [List.length_map, List.length_append, List.length_set, List.length_cons, List.length_nil]; omega)) only [go_sem, ↓reduceIte, Nat.reduceEqDiff, reduceCtorEq] <;> rfl) (by simp (disch := first | omega | (simp only [List.length_map, List.length_append, List.length_set, List.length_cons, List.length_nil]; omega)) only [go_sem, ↓reduceIte, Nat.reduceEqDiff, reduceCtorEq] <;> rfl) (by simp) (by rfl) (by simp (disch := first | omega | (simp only [List.length_map, List.length_append, List.length_set, List.length_cons, List.length_nil]; omega)) only [go_sem, ↓reduceIte, Nat.reduceEqDiff, reduceCtorEq] <;> rfl) ?_
        have tr : ∀ a b c d e f g h i j k m n o p q : AV, let l := lc_check_ok a b c d e f g h i j k m n; trim ((4,q)::(45,p)::(44,o)::l) l = [(0,a),(1,b),(2,c),(4,q),(5,e),(14,f),(34,g),(40,h),(41,i),(42,j),(43,k),(46,m),(66,n)] := by intros; rfl
        refine R_nil (tr ..) ?_; clear tr
        refine then_n ?_
        refine at_block rfl ?_
        refine at_seq rfl ?_
        refine rg rfl ?_
        refine Rq ?_
        refine Rq ?_
        refine Rq ?_
        refine Rcall ?_
        refine ACall_eq (node_ok _ _ n s t E _) ?_
        refine Rq ?_
        refine Rq ?_
        refine Rp_split (fun h8 => ?_) (fun h8 => ?_)
        ·
         try simp only [decide_eq_true_eq, decide_eq_false_iff_not, Bool.not_eq_true', Bool.not_eq_false', beq_iff_eq, beq_eq_false_iff_ne, ne_eq] at h8
         refine Rn ?_
         refine Rn ?_
         refine Rn ?_
         refine Rn ?_
         refine Rn ?_
         refine Rq ?_
         refine Rq ?_
         refine Rn ?_
         refine Rn ?_
         refine Rn ?_
         refine Rn ?_
         refine Rn ?_
         refine Rq ?_
         refine Rq ?_
         have tr : ∀ a b c d e f g h i j k m n o p q r s t u v w x y z A B C D E F G H : AV, let l := lc_check_ok a b c d e f g h i j k m n; trim ((46,H)::(65,G)::(64,F)::(63,E)::(62,D)::(61,C)::(60,B)::(59,A)::(58,z)::(57,y)::(56,x)::(55,w)::(54,v)::(53,u)::(52,t)::(51,s)::(50,r)::(49,q)::(48,p)::(47,o)::l) l = [(0,a),(1,b),(2,c),(4,d),(5,e),(14,f),(34,g),(40,h),(41,i),(42,j),(43,k),(46,H),(66,n)] := by intros; rfl
         refine R_nil (tr ..) ?_; clear tr
         refine then_n ?_
         refine cdt ?_
         refine at_seq rfl ?_
         refine rg rfl ?_
         refine Rq ?_
         have tr : ∀ a b c d e f g h i j k m n o : AV, let l := lc_check_ok a b c d e f g h i j k m n; trim ((2,o)::l) l = [(0,a),(1,b),(2,o),(4,d),(5,e),(14,f),(34,g),(40,h),(41,i),(42,j),(43,k),(46,m),(66,n)] := by intros; rfl
         refine R_nil (tr ..) ?_; clear tr
         refine then_n ?_
         refine at_ret rfl ?_
         refine blk_r ?_
         refine blk_r ?_
         refine then_r ?_
         refine then_r ?_
         refine blk_r ?_
         refine then_r ?_
         refine fpure ?_
         refine ⟨?_, rfl⟩
         have hse : edErr n (gt E u) = 1 := by unfold edErr; rw [if_pos (by omega)]
         rw [gchkS, if_neg (by omega), if_neg (by omega), if_neg (by omega), ferr_at hz (by omega) _ (by omega), hse]
        ·
         try simp only [decide_eq_true_eq, decide_eq_false_iff_not, Bool.not_eq_true', Bool.not_eq_false', beq_iff_eq, beq_eq_false_iff_ne, ne_eq] at h8
         refine Ry ?_
         refine Rq ?_
         refine Ry ?_
         refine Rq ?_
         refine Ry ?_
         refine Rq ?_
         refine Ry ?_
         refine Rcall ?_
         refine ACall_eq (node_ok _ _ n s t E _) ?_
         refine Ry ?_
         refine Rq ?_
         refine Rq ?_
         refine Rq ?_
         refine Rp_split (fun h9 => ?_) (fun h9 => ?_)
         ·
          try simp only [decide_eq_true_eq, decide_eq_false_iff_not, Bool.not_eq_true', Bool.not_eq_false', beq_iff_eq, beq_eq_false_iff_ne, ne_eq] at h9
          refine Rn ?_
          refine Rn ?_
          refine Rn ?_
          refine Rn ?_
          refine Rn ?_
          refine Rq ?_
          refine Rq ?_
          have tr : ∀ a b c d e f g h i j k m n o p q r s t u v w x y z A B C D E F G H : AV, let l := lc_check_ok a b c d e f g h i j k m n; trim ((46,H)::(65,G)::(64,F)::(63,E)::(62,D)::(61,C)::(60,B)::(59,A)::(58,z)::(57,y)::(56,x)::(55,w)::(54,v)::(53,u)::(52,t)::(51,s)::(50,r)::(49,q)::(48,p)::(47,o)::l) l = [(0,a),(1,b),(2,c),(4,d),(5,e),(14,f),(34,g),(40,h),(41,i),(42,j),(43,k),(46,H),(66,n)] := by intros; rfl
          refine R_nil (tr ..) ?_; clear tr
          refine then_n ?_
          refine cdt ?_
          refine at_seq rfl ?_
          refine rg rfl ?_
          refine Rq ?_
          have tr : ∀ a b c d e f g h i j k m n o : AV, let l := lc_check_ok a b c d e f g h i j k m n; trim ((2,o)::l) l = [(0,a),(1,b),(2,o),(4,d),(5,e),(14,f),(34,g),(40,h),(41,i),(42,j),(43,k),(46,m),(66,n)] := by intros; rfl
          refine R_nil (tr ..) ?_; clear tr
          refine then_n ?_
          refine at_ret rfl ?_
          refine blk_r ?_
          refine blk_r ?_
          refine then_r ?_
          refine then_r ?_
          refine blk_r ?_
          refine then_r ?_
          refine fpure ?_
          refine ⟨?_, rfl⟩
          have hse : edErr n (gt E u) = 1 := by unfold edErr; rw [if_pos (by omega)]
          rw [gchkS, if_neg (by omega), if_neg (by omega), if_neg (by omega), ferr_at hz (by omega) _ (by omega), hse]
         ·
          try simp only [decide_eq_true_eq, decide_eq_false_iff_not, Bool.not_eq_true', Bool.not_eq_false', beq_iff_eq, beq_eq_false_iff_ne, ne_eq] at h9
          refine Ry ?_
          refine Rq ?_
          refine Ry ?_
          refine Rq ?_
          refine Ry ?_
          refine Rq ?_
          refine Ry ?_
          refine Rq ?_
          refine Ry ?_
          refine Rq ?_
          refine Rq ?_
          refine Rq ?_
          have tr : ∀ a b c d e f g h i j k m n o p q r s t u v w x y z A B C D E F G H : AV, let l := lc_check_ok a b c d e f g h i j k m n; trim ((46,H)::(65,G)::(64,F)::(63,E)::(62,D)::(61,C)::(60,B)::(59,A)::(58,z)::(57,y)::(56,x)::(55,w)::(54,v)::(53,u)::(52,t)::(51,s)::(50,r)::(49,q)::(48,p)::(47,o)::l) l = [(0,a),(1,b),(2,c),(4,d),(5,e),(14,f),(34,g),(40,h),(41,i),(42,j),(43,k),(46,H),(66,n)] := by intros; rfl
          refine R_nil (tr ..) ?_; clear tr
          refine then_n ?_
          refine cdd (fun h10 => ?_) (fun h10 => ?_)
          ·
           try simp only [decide_eq_true_eq, decide_eq_false_iff_not, Bool.not_eq_true', Bool.not_eq_false', beq_iff_eq, beq_eq_false_iff_ne, ne_eq] at h10
           refine at_seq rfl ?_
           refine rg rfl ?_
           refine Rq ?_
           have tr : ∀ a b c d e f g h i j k m n o : AV, let l := lc_check_ok a b c d e f g h i j k m n; trim ((2,o)::l) l = [(0,a),(1,b),(2,o),(4,d),(5,e),(14,f),(34,g),(40,h),(41,i),(42,j),(43,k),(46,m),(66,n)] := by intros; rfl
           refine R_nil (tr ..) ?_; clear tr
           refine then_n ?_
           refine at_ret rfl ?_
           refine blk_r ?_
           refine blk_r ?_
           refine then_r ?_
           refine then_r ?_
           refine blk_r ?_
           refine then_r ?_
           refine fpure ?_
           refine ⟨?_, rfl⟩
           have hse : edErr n (gt E u) = 1 := by unfold edErr; rw [if_pos (by omega)]
           rw [gchkS, if_neg (by omega), if_neg (by omega), if_neg (by omega), ferr_at hz (by omega) _ (by omega), hse]
          ·
           try simp only [decide_eq_true_eq, decide_eq_false_iff_not, Bool.not_eq_true', Bool.not_eq_false', beq_iff_eq, beq_eq_false_iff_ne, ne_eq] at h10
           refine at_seq rfl ?_
           refine rg rfl ?_
           refine Rq ?_
           refine Rq ?_
           refine Rq ?_
           refine Rq ?_
           refine Rp_split (fun h11 => ?_) (fun h11 => ?_)
           ·
            try simp only [decide_eq_true_eq, decide_eq_false_iff_not, Bool.not_eq_true', Bool.not_eq_false', beq_iff_eq, beq_eq_false_iff_ne, ne_eq] at h11
            refine Rn ?_
            refine Rn ?_
            refine Rn ?_
            refine Rq ?_
            refine Rq ?_
            have tr : ∀ a b c d e f g h i j k m n o p q r s t u v w : AV, let l := lc_check_ok a b c d e f g h i j k m n; trim ((66,w)::(74,v)::(73,u)::(72,t)::(71,s)::(70,r)::(69,q)::(68,p)::(67,o)::l) l = [(0,a),(1,b),(2,c),(4,d),(5,e),(14,f),(34,g),(40,h),(41,i),(42,j),(43,k),(46,m),(66,w)] := by intros; rfl
            refine R_nil (tr ..) ?_; clear tr
            refine then_n ?_
            refine cdt ?_
            refine at_seq rfl ?_
            refine rg rfl ?_
            refine Rq ?_
            have tr : ∀ a b c d e f g h i j k m n o : AV, let l := lc_check_ok a b c d e f g h i j k m n; trim ((2,o)::l) l = [(0,a),(1,b),(2,o),(4,d),(5,e),(14,f),(34,g),(40,h),(41,i),(42,j),(43,k),(46,m),(66,n)] := by intros; rfl
            refine R_nil (tr ..) ?_; clear tr
            refine then_n ?_
            refine at_ret rfl ?_
            refine blk_r ?_
            refine blk_r ?_
            refine then_r ?_
            refine then_r ?_
            refine blk_r ?_
            refine then_r ?_
            refine fpure ?_
            refine ⟨?_, rfl⟩
            have hse : edErr n (gt E u) = 2 := by unfold edErr; rw [if_neg (by omega), if_pos (by omega)]
            rw [gchkS, if_neg (by omega), if_neg (by omega), if_neg (by omega), ferr_at hz (by omega) _ (by omega), hse]
           ·
            try simp only [decide_eq_true_eq, decide_eq_false_iff_not, Bool.not_eq_true', Bool.not_eq_false', beq_iff_eq, beq_eq_false_iff_ne, ne_eq] at h11
            refine Ry ?_
            refine Rq ?_
            refine Ry ?_
            refine Rq ?_
            refine Ry ?_
            refine Rq ?_
            refine Rq ?_
            refine Rq ?_
            have tr : ∀ a b c d e f g h i j k m n o p q r s t u v w : AV, let l := lc_check_ok a b c d e f g h i j k m n; trim ((66,w)::(74,v)::(73,u)::(72,t)::(71,s)::(70,r)::(69,q)::(68,p)::(67,o)::l) l = [(0,a),(1,b),(2,c),(4,d),(5,e),(14,f),(34,g),(40,h),(41,i),(42,j),(43,k),(46,m),(66,w)] := by intros; rfl
            refine R_nil (tr ..) ?_; clear tr
            refine then_n ?_
            refine cdd (fun h12 => ?_) (fun h12 => ?_)
            ·
             try simp only [decide_eq_true_eq, decide_eq_false_iff_not, Bool.not_eq_true', Bool.not_eq_false', beq_iff_eq, beq_eq_false_iff_ne, ne_eq] at h12
             refine at_seq rfl ?_
             refine rg rfl ?_
             refine Rq ?_
             have tr : ∀ a b c d e f g h i j k m n o : AV, let l := lc_check_ok a b c d e f g h i j k m n; trim ((2,o)::l) l = [(0,a),(1,b),(2,o),(4,d),(5,e),(14,f),(34,g),(40,h),(41,i),(42,j),(43,k),(46,m),(66,n)] := by intros; rfl
             refine R_nil (tr ..) ?_; clear tr
             refine then_n ?_
             refine at_ret rfl ?_
             refine blk_r ?_
             refine blk_r ?_
             refine then_r ?_
             refine then_r ?_
             refine blk_r ?_
             refine then_r ?_
             refine fpure ?_
             refine ⟨?_, rfl⟩
             have hse : edErr n (gt E u) = 2 := by unfold edErr; rw [if_neg (by omega), if_pos (by omega)]
             rw [gchkS, if_neg (by omega), if_neg (by omega), if_neg (by omega), ferr_at hz (by omega) _ (by omega), hse]
            ·
             try simp only [decide_eq_true_eq, decide_eq_false_iff_not, Bool.not_eq_true', Bool.not_eq_false', beq_iff_eq, beq_eq_false_iff_ne, ne_eq] at h12
             refine at_skip rfl ?_
             refine blk_n ?_
             refine blk_n ?_
             refine then_n ?_
             refine rg rfl ?_
             refine Rq ?_
             refine Rq ?_
             have tr : ∀ a b c d e f g h i j k m n o p : AV, let l := lc_check_ok a b c d e f g h i j k m n; trim ((42,p)::(75,o)::l) l = [(0,a),(1,b),(2,c),(4,d),(5,e),(14,f),(34,g),(40,h),(41,i),(42,p),(43,k),(46,m),(66,n)] := by intros; rfl
             refine R_nil (tr ..) ?_; clear tr
             refine then_n ?_
             have hok : edErr n (gt E u) = 0 := by unfold edErr; rw [if_neg (by omega), if_neg (by omega)]
             exact ⟨_, _, ⟨u + 1, X ++ [some (edC (gt E u))], _, _, _, _, _, rfl, rfl, by simp; rfl, by omega, by exact ferr_ok hz hok⟩, by rfl, by omega⟩
       ·
        try simp only [decide_eq_true_eq, decide_eq_false_iff_not, Bool.not_eq_true', Bool.not_eq_false', beq_iff_eq, beq_eq_false_iff_ne, ne_eq] at h7
        refine at_exit rfl ?_
        refine then_x ?_
        refine then_x ?_
        refine blk_x ?_
        refine then_n ?_
        refine at_seq rfl ?_
        refine rg rfl ?_
        refine Rq ?_
        have tr : ∀ a b c d e f g h i j k m n o : AV, let l := lc_check_ok a b c d e f g h i j k m n; trim ((2,o)::l) l = [(0,a),(1,b),(2,o),(4,d),(5,e),(14,f),(34,g),(40,h),(41,i),(42,j),(43,k),(46,m),(66,n)] := by intros; rfl
        refine R_nil (tr ..) ?_; clear tr
        refine then_n ?_
        refine at_ret rfl ?_
        refine fpure ?_
        refine ⟨?_, rfl⟩
        rw [gchkS, if_neg (by omega), if_neg (by omega), if_neg (by omega), show ferr (fun i => edErr n (gt E i)) E.length = 0 by rw [show E.length = u by omega]; exact hz]

abbrev lc_rcheck_ok (a b c d e f g h i j k m n : AV) : Env := [(0,a),(1,b),(2,c),(4,d),(5,e),(14,f),(44,g),(50,h),(51,i),(52,j),(53,k),(84,m),(92,n)]
theorem rcheck_ok (lim : Nat) (H : Heap) (n s t : Int) (E : List Ed) :
    ACall sig lim 22 [.agg (graphC n s t E)] H fun r H' => r = AV.i (gchkS n s t E) ∧ H' = H := by
 refine ACall_pure (fa := fa22) rfl rfl rfl rfl ?_
 have tr : ∀ a0 : AV, env0 fa22.keep [a0] = [(0,a0),(1,.any),(2,.any),(4,.any),(5,.any),(14,.any),(44,.any),(50,.any),(51,.any),(52,.any),(53,.any),(84,.any),(92,.any)] := fun a0 => rfl
 refine W_to (tr _) ?_; clear tr
 refine at_seq rfl ?_
 refine rg rfl ?_
 refine R_box rfl (by simp (disch := first | omega | (simp only [List.length_map, List.length_append, List.length_set, List.length_cons, List.length_nil]; omega)) only [go_sem, ↓reduceIte, Nat.reduceEqDiff, reduceCtorEq] <;> rfl) rfl rfl ?_
 refine Rq ?_
 have tr : ∀ a b c d e f g h i j k m n o p : AV, let l := lc_rcheck_ok a b c d e f g h i j k m n; trim ((2,p)::(1,o)::l) l = [(0,a),(1,o),(2,p),(4,d),(5,e),(14,f),(44,g),(50,h),(51,i),(52,j),(53,k),(84,m),(92,n)] := by intros; rfl
 refine R_nil (tr ..) ?_; clear tr
 refine then_n ?_
 refine at_seq rfl ?_
 refine at_block rfl ?_
 refine at_seq rfl ?_
 refine rg rfl ?_
 refine Rq ?_
 refine Rq ?_
 refine Rq ?_
 refine Rq ?_
 refine Rp_split (fun h1 => ?_) (fun h1 => ?_)
 ·
  try simp only [decide_eq_true_eq, decide_eq_false_iff_not, Bool.not_eq_true', Bool.not_eq_false', beq_iff_eq, beq_eq_false_iff_ne, ne_eq] at h1
  refine Rn ?_
  refine Rn ?_
  refine Rn ?_
  refine Rq ?_
  refine Rq ?_
  have tr : ∀ a b c d e f g h i j k m n o p q r s t u v w : AV, let l := lc_rcheck_ok a b c d e f g h i j k m n; trim ((5,w)::(13,v)::(12,u)::(11,t)::(10,s)::(9,r)::(8,q)::(7,p)::(6,o)::l) l = [(0,a),(1,b),(2,c),(4,d),(5,w),(14,f),(44,g),(50,h),(51,i),(52,j),(53,k),(84,m),(92,n)] := by intros; rfl
  refine R_nil (tr ..) ?_; clear tr
  refine then_n ?_
  refine cdt ?_
  refine at_seq rfl ?_
  refine rg rfl ?_
  refine Rq ?_
  have tr : ∀ a b c d e f g h i j k m n o : AV, let l := lc_rcheck_ok a b c d e f g h i j k m n; trim ((2,o)::l) l = [(0,a),(1,b),(2,o),(4,d),(5,e),(14,f),(44,g),(50,h),(51,i),(52,j),(53,k),(84,m),(92,n)] := by intros; rfl
  refine R_nil (tr ..) ?_; clear tr
  refine then_n ?_
  refine at_ret rfl ?_
  refine blk_r ?_
  refine then_r ?_
  refine fpure ?_
  refine ⟨?_, rfl⟩
  rw [gchkS, if_pos (by omega)]
 ·
  try simp only [decide_eq_true_eq, decide_eq_false_iff_not, Bool.not_eq_true', Bool.not_eq_false', beq_iff_eq, beq_eq_false_iff_ne, ne_eq] at h1
  refine Ry ?_
  refine Rq ?_
  refine Ry ?_
  refine Rq ?_
  refine Ry ?_
  refine Rq ?_
  refine Rq ?_
  refine Rq ?_
  have tr : ∀ a b c d e f g h i j k m n o p q r s t u v w : AV, let l := lc_rcheck_ok a b c d e f g h i j k m n; trim ((5,w)::(13,v)::(12,u)::(11,t)::(10,s)::(9,r)::(8,q)::(7,p)::(6,o)::l) l = [(0,a),(1,b),(2,c),(4,d),(5,w),(14,f),(44,g),(50,h),(51,i),(52,j),(53,k),(84,m),(92,n)] := by intros; rfl
  refine R_nil (tr ..) ?_; clear tr
  refine then_n ?_
  refine cdd (fun h2 => ?_) (fun h2 => ?_)
  ·
   try simp only [decide_eq_true_eq, decide_eq_false_iff_not, Bool.not_eq_true', Bool.not_eq_false', beq_iff_eq, beq_eq_false_iff_ne, ne_eq] at h2
   refine at_seq rfl ?_
   refine rg rfl ?_
   refine Rq ?_
   have tr : ∀ a b c d e f g h i j k m n o : AV, let l := lc_rcheck_ok a b c d e f g h i j k m n; trim ((2,o)::l) l = [(0,a),(1,b),(2,o),(4,d),(5,e),(14,f),(44,g),(50,h),(51,i),(52,j),(53,k),(84,m),(92,n)] := by intros; rfl
   refine R_nil (tr ..) ?_; clear tr
   refine then_n ?_
   refine at_ret rfl ?_
   refine blk_r ?_
   refine then_r ?_
   refine fpure ?_
   refine ⟨?_, rfl⟩
   rw [gchkS, if_pos (by omega)]
  ·
   try simp only [decide_eq_true_eq, decide_eq_false_iff_not, Bool.not_eq_true', Bool.not_eq_false', beq_iff_eq, beq_eq_false_iff_ne, ne_eq] at h2
   refine at_seq rfl ?_
   refine rg rfl ?_
   refine Rq ?_
   refine Rq ?_
   refine Rq ?_
   refine Rq ?_
   refine Rp_split (fun h3 => ?_) (fun h3 => ?_)
   ·
    try simp only [decide_eq_true_eq, decide_eq_false_iff_not, Bool.not_eq_true', Bool.not_eq_false', beq_iff_eq, beq_eq_false_iff_ne, ne_eq] at h3
    refine Rn ?_
    refine Rn ?_
    refine Rn ?_
    refine Rn ?_
    refine Rn ?_
    refine Rq ?_
    refine Rq ?_
    refine Rn ?_
    refine Rn ?_
    refine Rn ?_
    refine Rq ?_
    refine Rq ?_
    refine Rn ?_
    refine Rn ?_
    refine Rn ?_
    refine Rn ?_
    refine Rn ?_
    refine Rq ?_
    refine Rq ?_
    refine Rn ?_
    refine Rn ?_
    refine Rn ?_
    refine Rn ?_
    refine Rn ?_
    refine Rq ?_
    refine Rq ?_
    have tr : ∀ a b c d e f g h i j k m n o p q r s t u v w x y z A B C D E F G H I J K L M N O P Q R : AV, let l := lc_rcheck_ok a b c d e f g h i j k m n; trim ((14,R)::(43,Q)::(42,P)::(41,O)::(40,N)::(39,M)::(38,L)::(37,K)::(36,J)::(35,I)::(34,H)::(33,G)::(32,F)::(31,E)::(30,D)::(29,C)::(28,B)::(27,A)::(26,z)::(25,y)::(24,x)::(23,w)::(22,v)::(21,u)::(20,t)::(19,s)::(18,r)::(17,q)::(16,p)::(15,o)::l) l = [(0,a),(1,b),(2,c),(4,d),(5,e),(14,R),(44,g),(50,h),(51,i),(52,j),(53,k),(84,m),(92,n)] := by intros; rfl
    refine R_nil (tr ..) ?_; clear tr
    refine then_n ?_
    refine cdt ?_
    refine at_seq rfl ?_
    refine rg rfl ?_
    refine Rq ?_
    have tr : ∀ a b c d e f g h i j k m n o : AV, let l := lc_rcheck_ok a b c d e f g h i j k m n; trim ((2,o)::l) l = [(0,a),(1,b),(2,o),(4,d),(5,e),(14,f),(44,g),(50,h),(51,i),(52,j),(53,k),(84,m),(92,n)] := by intros; rfl
    refine R_nil (tr ..) ?_; clear tr
    refine then_n ?_
    refine at_ret rfl ?_
    refine blk_r ?_
    refine then_r ?_
    refine fpure ?_
    refine ⟨?_, rfl⟩
    rw [gchkS, if_neg (by omega), if_pos (by omega)]
   ·
    try simp only [decide_eq_true_eq, decide_eq_false_iff_not, Bool.not_eq_true', Bool.not_eq_false', beq_iff_eq, beq_eq_false_iff_ne, ne_eq] at h3
    refine Ry ?_
    refine Rq ?_
    refine Ry ?_
    refine Rq ?_
    refine Ry ?_
    refine Rq ?_
    refine Ry ?_
    refine Rq ?_
    refine Ry ?_
    refine Rq ?_
    refine Rq ?_
    refine Rq ?_
    refine Rp_split (fun h4 => ?_) (fun h4 => ?_)
    ·
     try simp only [decide_eq_true_eq, decide_eq_false_iff_not, Bool.not_eq_true', Bool.not_eq_false', beq_iff_eq, beq_eq_false_iff_ne, ne_eq] at h4
     refine Rn ?_
     refine Rn ?_
     refine Rn ?_
     refine Rq ?_
     refine Rq ?_
     refine Rn ?_
     refine Rn ?_
     refine Rn ?_
     refine Rn ?_
     refine Rn ?_
     refine Rq ?_
     refine Rq ?_
     refine Rn ?_
     refine Rn ?_
     refine Rn ?_
     refine Rn ?_
     refine Rn ?_
     refine Rq ?_
     refine Rq ?_
     have tr : ∀ a b c d e f g h i j k m n o p q r s t u v w x y z A B C D E F G H I J K L M N O P Q R : AV, let l := lc_rcheck_ok a b c d e f g h i j k m n; trim ((14,R)::(43,Q)::(42,P)::(41,O)::(40,N)::(39,M)::(38,L)::(37,K)::(36,J)::(35,I)::(34,H)::(33,G)::(32,F)::(31,E)::(30,D)::(29,C)::(28,B)::(27,A)::(26,z)::(25,y)::(24,x)::(23,w)::(22,v)::(21,u)::(20,t)::(19,s)::(18,r)::(17,q)::(16,p)::(15,o)::l) l = [(0,a),(1,b),(2,c),(4,d),(5,e),(14,R),(44,g),(50,h),(51,i),(52,j),(53,k),(84,m),(92,n)] := by intros; rfl
     refine R_nil (tr ..) ?_; clear tr
     refine then_n ?_
     refine cdt ?_
     refine at_seq rfl ?_
     refine rg rfl ?_
     refine Rq ?_
     have tr : ∀ a b c d e f g h i j k m n o : AV, let l := lc_rcheck_ok a b c d e f g h i j k m n; trim ((2,o)::l) l = [(0,a),(1,b),(2,o),(4,d),(5,e),(14,f),(44,g),(50,h),(51,i),(52,j),(53,k),(84,m),(92,n)] := by intros; rfl
     refine R_nil (tr ..) ?_; clear tr
     refine then_n ?_
     refine at_ret rfl ?_
     refine blk_r ?_
     refine then_r ?_
     refine fpure ?_
     refine ⟨?_, rfl⟩
     rw [gchkS, if_neg (by omega), if_pos (by omega)]
    ·
     try simp only [decide_eq_true_eq, decide_eq_false_iff_not, Bool.not_eq_true', Bool.not_eq_false', beq_iff_eq, beq_eq_false_iff_ne, ne_eq] at h4
     refine Ry ?_
     refine Rq ?_
     refine Ry ?_
     refine Rq ?_
     refine Ry ?_
     refine Rq ?_
     refine Rq ?_
     refine Rq ?_
     refine Rp_split (fun h5 => ?_) (fun h5 => ?_)
     ·
      try simp only [decide_eq_true_eq, decide_eq_false_iff_not, Bool.not_eq_true', Bool.not_eq_false', beq_iff_eq, beq_eq_false_iff_ne, ne_eq] at h5
      refine Rn ?_
      refine Rn ?_
      refine Rn ?_
      refine Rn ?_
      refine Rn ?_
      refine Rq ?_
      refine Rq ?_
      refine Rn ?_
      refine Rn ?_
      refine Rn ?_
      refine Rn ?_
      refine Rn ?_
      refine Rq ?_
      refine Rq ?_
      have tr : ∀ a b c d e f g h i j k m n o p q r s t u v w x y z A B C D E F G H I J K L M N O P Q R : AV, let l := lc_rcheck_ok a b c d e f g h i j k m n; trim ((14,R)::(43,Q)::(42,P)::(41,O)::(40,N)::(39,M)::(38,L)::(37,K)::(36,J)::(35,I)::(34,H)::(33,G)::(32,F)::(31,E)::(30,D)::(29,C)::(28,B)::(27,A)::(26,z)::(25,y)::(24,x)::(23,w)::(22,v)::(21,u)::(20,t)::(19,s)::(18,r)::(17,q)::(16,p)::(15,o)::l) l = [(0,a),(1,b),(2,c),(4,d),(5,e),(14,R),(44,g),(50,h),(51,i),(52,j),(53,k),(84,m),(92,n)] := by intros; rfl
      refine R_nil (tr ..) ?_; clear tr
      refine then_n ?_
      refine cdt ?_
      refine at_seq rfl ?_
      refine rg rfl ?_
      refine Rq ?_
      have tr : ∀ a b c d e f g h i j k m n o : AV, let l := lc_rcheck_ok a b c d e f g h i j k m n; trim ((2,o)::l) l = [(0,a),(1,b),(2,o),(4,d),(5,e),(14,f),(44,g),(50,h),(51,i),(52,j),(53,k),(84,m),(92,n)] := by intros; rfl
      refine R_nil (tr ..) ?_; clear tr
      refine then_n ?_
      refine at_ret rfl ?_
      refine blk_r ?_
      refine then_r ?_
      refine fpure ?_
      refine ⟨?_, rfl⟩
      rw [gchkS, if_neg (by omega), if_pos (by omega)]
     ·
      try simp only [decide_eq_true_eq, decide_eq_false_iff_not, Bool.not_eq_true', Bool.not_eq_false', beq_iff_eq, beq_eq_false_iff_ne, ne_eq] at h5
      refine Ry ?_
      refine Rq ?_
      refine Ry ?_
      refine Rq ?_
      refine Ry ?_
      refine Rq ?_
      refine Ry ?_
      refine Rq ?_
      refine Ry ?_
      refine Rq ?_
      refine Rq ?_
      refine Rq ?_
      refine Rp_split (fun h6 => ?_) (fun h6 => ?_)
      ·
       try simp only [decide_eq_true_eq, decide_eq_false_iff_not, Bool.not_eq_true', Bool.not_eq_false', beq_iff_eq, beq_eq_false_iff_ne, ne_eq] at h6
       refine Rn ?_
       refine Rn ?_
       refine Rn ?_
       refine Rn ?_
       refine Rn ?_
       refine Rq ?_
       refine Rq ?_
       have tr : ∀ a b c d e f g h i j k m n o p q r s t u v w x y z A B C D E F G H I J K L M N O P Q R : AV, let l := lc_rcheck_ok a b c d e f g h i j k m n; trim ((14,R)::(43,Q)::(42,P)::(41,O)::(40,N)::(39,M)::(38,L)::(37,K)::(36,J)::(35,I)::(34,H)::(33,G)::(32,F)::(31,E)::(30,D)::(29,C)::(28,B)::(27,A)::(26,z)::(25,y)::(24,x)::(23,w)::(22,v)::(21,u)::(20,t)::(19,s)::(18,r)::(17,q)::(16,p)::(15,o)::l) l = [(0,a),(1,b),(2,c),(4,d),(5,e),(14,R),(44,g),(50,h),(51,i),(52,j),(53,k),(84,m),(92,n)] := by intros; rfl
       refine R_nil (tr ..) ?_; clear tr
       refine then_n ?_
       refine cdt ?_
       refine at_seq rfl ?_
       refine rg rfl ?_
       refine Rq ?_
       have tr : ∀ a b c d e f g h i j k m n o : AV, let l := lc_rcheck_ok a b c d e f g h i j k m n; trim ((2,o)::l) l = [(0,a),(1,b),(2,o),(4,d),(5,e),(14,f),(44,g),(50,h),(51,i),(52,j),(53,k),(84,m),(92,n)] := by intros; rfl
       refine R_nil (tr ..) ?_; clear tr
       refine then_n ?_
       refine at_ret rfl ?_
       refine blk_r ?_
       refine then_r ?_
       refine fpure ?_
       refine ⟨?_, rfl⟩
       rw [gchkS, if_neg (by omega), if_pos (by omega)]
      ·
       try simp only [decide_eq_true_eq, decide_eq_false_iff_not, Bool.not_eq_true', Bool.not_eq_false', beq_iff_eq, beq_eq_false_iff_ne, ne_eq] at h6
       refine Ry ?_
       refine Rq ?_
       refine Ry ?_
       refine Rq ?_
       refine Ry ?_
       refine Rq ?_
       refine Ry ?_
       refine Rq ?_
       refine Ry ?_
       refine Rq ?_
       refine Rq ?_
       refine Rq ?_
       have tr : ∀ a b c d e f g h i j k m n o p q r s t u v w x y z A B C D E F G H I J K L M N O P Q R : AV, let l := lc_rcheck_ok a b c d e f g h i j k m n; trim ((14,R)::(43,Q)::(42,P)::(41,O)::(40,N)::(39,M)::(38,L)::(37,K)::(36,J)::(35,I)::(34,H)::(33,G)::(32,F)::(31,E)::(30,D)::(29,C)::(28,B)::(27,A)::(26,z)::(25,y)::(24,x)::(23,w)::(22,v)::(21,u)::(20,t)::(19,s)::(18,r)::(17,q)::(16,p)::(15,o)::l) l = [(0,a),(1,b),(2,c),(4,d),(5,e),(14,R),(44,g),(50,h),(51,i),(52,j),(53,k),(84,m),(92,n)] := by intros; rfl
       refine R_nil (tr ..) ?_; clear tr
       refine then_n ?_
       refine cdd (fun h7 => ?_) (fun h7 => ?_)
       ·
        try simp only [decide_eq_true_eq, decide_eq_false_iff_not, Bool.not_eq_true', Bool.not_eq_false', beq_iff_eq, beq_eq_false_iff_ne, ne_eq] at h7
        refine at_seq rfl ?_
        refine rg rfl ?_
        refine Rq ?_
        have tr : ∀ a b c d e f g h i j k m n o : AV, let l := lc_rcheck_ok a b c d e f g h i j k m n; trim ((2,o)::l) l = [(0,a),(1,b),(2,o),(4,d),(5,e),(14,f),(44,g),(50,h),(51,i),(52,j),(53,k),(84,m),(92,n)] := by intros; rfl
        refine R_nil (tr ..) ?_; clear tr
        refine then_n ?_
        refine at_ret rfl ?_
        refine blk_r ?_
        refine then_r ?_
        refine fpure ?_
        refine ⟨?_, rfl⟩
        rw [gchkS, if_neg (by omega), if_pos (by omega)]
       ·
        try simp only [decide_eq_true_eq, decide_eq_false_iff_not, Bool.not_eq_true', Bool.not_eq_false', beq_iff_eq, beq_eq_false_iff_ne, ne_eq] at h7
        refine at_seq rfl ?_
        refine rg rfl ?_
        refine Rq ?_
        refine Rq ?_
        refine Rq ?_
        refine Rq ?_
        refine Rq ?_
        have tr : ∀ a b c d e f g h i j k m n o p q r s : AV, let l := lc_rcheck_ok a b c d e f g h i j k m n; trim ((44,s)::(48,r)::(47,q)::(46,p)::(45,o)::l) l = [(0,a),(1,b),(2,c),(4,d),(5,e),(14,f),(44,s),(50,h),(51,i),(52,j),(53,k),(84,m),(92,n)] := by intros; rfl
        refine R_nil (tr ..) ?_; clear tr
        refine then_n ?_
        refine cdd (fun h8 => ?_) (fun h8 => ?_)
        ·
         try simp only [decide_eq_true_eq, decide_eq_false_iff_not, Bool.not_eq_true', Bool.not_eq_false', beq_iff_eq, beq_eq_false_iff_ne, ne_eq] at h8
         refine at_seq rfl ?_
         refine rg rfl ?_
         refine Rq ?_
         have tr : ∀ a b c d e f g h i j k m n o : AV, let l := lc_rcheck_ok a b c d e f g h i j k m n; trim ((2,o)::l) l = [(0,a),(1,b),(2,o),(4,d),(5,e),(14,f),(44,g),(50,h),(51,i),(52,j),(53,k),(84,m),(92,n)] := by intros; rfl
         refine R_nil (tr ..) ?_; clear tr
         refine then_n ?_
         refine at_ret rfl ?_
         refine blk_r ?_
         refine then_r ?_
         refine fpure ?_
         refine ⟨?_, rfl⟩
         rw [gchkS, if_neg (by omega), if_neg (by omega), if_pos (by omega)]
        ·
         try simp only [decide_eq_true_eq, decide_eq_false_iff_not, Bool.not_eq_true', Bool.not_eq_false', beq_iff_eq, beq_eq_false_iff_ne, ne_eq] at h8
         refine at_skip rfl ?_
         refine blk_n ?_
         refine then_n ?_
         refine at_seq rfl ?_
         refine at_seq rfl ?_
         refine rg rfl ?_
         refine Rq ?_
         refine Rq ?_
         refine Rq ?_
         refine Rq ?_
         have tr : ∀ a b c d e f g h i j k m n o p q r : AV, let l := lc_rcheck_ok a b c d e f g h i j k m n; trim ((52,r)::(51,q)::(50,p)::(49,o)::l) l = [(0,a),(1,b),(2,c),(4,d),(5,e),(14,f),(44,g),(50,p),(51,q),(52,r),(53,k),(84,m),(92,n)] := by intros; rfl
         refine R_nil (tr ..) ?_; clear tr
         refine then_n ?_
         refine at_block rfl ?_
         refine loop_n rfl (fun mm kv H' => ∃ u : Nat, ∃ X : Heap, ∃ x2 x4 x53 x84 x92 : AV, (kv = [(2, x2), (4, x4), (52, AV.i u), (53, x53), (84, x84), (92, x92)]) ∧ (mm = E.length - u) ∧ (H' = H ++ [some (graphC n s t E)] ++ X) ∧ (u ≤ E.length) ∧ (ferr (fun i => edErr n (gt E i)) u = 0)) ⟨0, [], _, _, _, _, _, rfl, rfl, by simp, by omega, by rfl⟩ (by rfl) ?_
         rintro mm kv H1 ⟨u, X, x2, x4, x53, x84, x92, rfl, rfl, hX, hu, hz⟩
         have tr : ∀ a b c d e f g h i j k m n o p q r s t : AV, upd [(0,a),(1,b),(2,c),(4,d),(5,e),(14,f),(44,g),(50,h),(51,i),(52,j),(53,k),(84,m),(92,n)] [(2,o),(4,p),(52,q),(53,r),(84,s),(92,t)] = [(0,a),(1,b),(2,o),(4,p),(5,e),(14,f),(44,g),(50,h),(51,i),(52,q),(53,r),(84,s),(92,t)] := by intros; rfl
         refine W_to (tr ..) ?_; clear tr
         subst hX
         refine at_seq rfl ?_
         refine rg rfl ?_
         refine Rq ?_
         have tr : ∀ a b c d e f g h i j k m n o : AV, let l := lc_rcheck_ok a b c d e f g h i j k m n; trim ((53,o)::l) l = [(0,a),(1,b),(2,c),(4,d),(5,e),(14,f),(44,g),(50,h),(51,i),(52,j),(53,o),(84,m),(92,n)] := by intros; rfl
         refine R_nil (tr ..) ?_; clear tr
         refine then_n ?_
         refine at_seq rfl ?_
         refine cdd (fun h9 => ?_) (fun h9 => ?_)
         ·
          try simp only [decide_eq_true_eq, decide_eq_false_iff_not, Bool.not_eq_true', Bool.not_eq_false', beq_iff_eq, beq_eq_false_iff_ne, ne_eq] at h9
          refine at_skip rfl ?_
          refine then_n ?_
          refine at_seq rfl ?_
          refine at_block rfl ?_
          refine at_seq rfl ?_
          refine rg rfl ?_
          refine Rq ?_
          refine Rq ?_
          refine R_alloc (by simp (disch := first | omega | (simp only [List.length_map, List.length_append, List.length_set, List.length_cons, List.length_nil]; omega)) only [go_sem, ↓reduceIte, Nat.reduceEqDiff, reduceCtorEq] <;> rfl) rfl (by simp only [List.map_cons, List.map_nil]; rfl) ?_
          refine R_store ty66 (by simp (disch := first | omega | (simp only [List.length_map, List.length_append, List.length_set, List.length_cons, List.length_nil]; omega)) only [go_sem, ↓reduceIte, Nat.reduceEqDiff, reduceCtorEq] <;> rfl) (by simp (disch := first | omega | (simp only [List.length_map, List.length_append, List.length_set, List.length_cons, List.length_nil]; omega)) only [go_sem, ↓reduceIte, Nat.reduceEqDiff, reduceCtorEq] <;> rfl) (by simp (disch := first | omega | (simp only [List.length_map, List.length_append, List.length_set, List.length_cons, List.length_nil]; omega)) only [go_sem, ↓reduceIte, Nat.reduceEqDiff, reduceCtorEq] <;> rfl) (by simp) (by rfl) (by simp (disch := first | omega | (simp only [List.length_map, List.length_append, List.length_set, List.length_cons, List.length_nil]; omega)) only [go_sem, ↓reduceIte, Nat.reduceEqDiff, reduceCtorEq] <;> rfl) ?_
          have tr : ∀ a b c d e f g h i j k m n o p q : AV, let l := lc_rcheck_ok a b c d e f g h i j k m n; trim ((4,q)::(55,p)::(54,o)::l) l = [(0,a),(1,b),(2,c),(4,q),(5,e),(14,f),(44,g),(50,h),(51,i),(52,j),(53,k),(84,m),(92,n)] := by intros; rfl
          refine R_nil (tr ..) ?_; clear tr
          refine then_n ?_
          refine at_seq rfl ?_
          refine at_seq rfl ?_
          refine rg rfl ?_
          refine Rq ?_
          refine Rq ?_
          refine Rq ?_
          refine Rq ?_
          refine Rp_split (fun h10 => ?_) (fun h10 => ?_)
          ·
           try simp only [decide_eq_true_eq, decide_eq_false_iff_not, Bool.not_eq_true', Bool.not_eq_false', beq_iff_eq, beq_eq_false_iff_ne, ne_eq] at h10
           refine Rn ?_
           refine Rn ?_
           refine Rn ?_
           refine Rn ?_
           refine Rn ?_
           refine Rq ?_
           refine Rq ?_
           refine Rn ?_
           refine Rn ?_
           refine Rn ?_
           refine Rq ?_
           refine Rq ?_
           refine Rn ?_
           refine Rn ?_
           refine Rn ?_
           refine Rn ?_
           refine Rn ?_
           refine Rq ?_
           refine Rq ?_
           refine Rn ?_
           refine Rn ?_
           refine Rn ?_
           refine Rn ?_
           refine Rn ?_
           refine Rq ?_
           have tr : ∀ a b c d e f g h i j k m n o p q r s t u v w x y z A B C D E F G H I J K L M N O P Q : AV, let l := lc_rcheck_ok a b c d e f g h i j k m n; trim ((84,Q)::(83,P)::(82,O)::(81,N)::(80,M)::(79,L)::(78,K)::(77,J)::(76,I)::(75,H)::(74,G)::(73,F)::(72,E)::(71,D)::(70,C)::(69,B)::(68,A)::(67,z)::(66,y)::(65,x)::(64,w)::(63,v)::(62,u)::(61,t)::(60,s)::(59,r)::(58,q)::(57,p)::(56,o)::l) l = [(0,a),(1,b),(2,c),(4,d),(5,e),(14,f),(44,g),(50,h),(51,i),(52,j),(53,k),(84,Q),(92,n)] := by intros; rfl
           refine R_nil (tr ..) ?_; clear tr
           refine then_n ?_
           refine cdt ?_
           refine at_seq rfl ?_
           refine rg rfl ?_
           refine Rq ?_
           have tr : ∀ a b c d e f g h i j k m n o : AV, let l := lc_rcheck_ok a b c d e f g h i j k m n; trim ((2,o)::l) l = [(0,a),(1,b),(2,o),(4,d),(5,e),(14,f),(44,g),(50,h),(51,i),(52,j),(53,k),(84,m),(92,n)] := by intros; rfl
           refine R_nil (tr ..) ?_; clear tr
           refine then_n ?_
           refine at_ret rfl ?_
           refine then_r ?_
           refine blk_r ?_
           refine then_r ?_
           refine then_r ?_
           refine blk_r ?_
           refine then_r ?_
           refine fpure ?_
           refine ⟨?_, rfl⟩
           have hse : edErr n (gt E u) = 1 := by unfold edErr; rw [if_pos (by omega)]
           rw [gchkS, if_neg (by omega), if_neg (by omega), if_neg (by omega), ferr_at hz (by omega) _ (by omega), hse]
          ·
           try simp only [decide_eq_true_eq, decide_eq_false_iff_not, Bool.not_eq_true', Bool.not_eq_false', beq_iff_eq, beq_eq_false_iff_ne, ne_eq] at h10
           refine Ry ?_
           refine Rq ?_
           refine Ry ?_
           refine Rq ?_
           refine Ry ?_
           refine Rq ?_
           refine Ry ?_
           refine Rq ?_
           refine Ry ?_
           refine Rq ?_
           refine Rq ?_
           refine Rq ?_
           refine Rp_split (fun h11 => ?_) (fun h11 => ?_)
           ·
            try simp only [decide_eq_true_eq, decide_eq_false_iff_not, Bool.not_eq_true', Bool.not_eq_false', beq_iff_eq, beq_eq_false_iff_ne, ne_eq] at h11
            refine Rn ?_
            refine Rn ?_
            refine Rn ?_
            refine Rq ?_
            refine Rq ?_
            refine Rn ?_
            refine Rn ?_
            refine Rn ?_
            refine Rn ?_
            refine Rn ?_
            refine Rq ?_
            refine Rq ?_
            refine Rn ?_
            refine Rn ?_
            refine Rn ?_
            refine Rn ?_
            refine Rn ?_
            refine Rq ?_
            have tr : ∀ a b c d e f g h i j k m n o p q r s t u v w x y z A B C D E F G H I J K L M N O P Q : AV, let l := lc_rcheck_ok a b c d e f g h i j k m n; trim ((84,Q)::(83,P)::(82,O)::(81,N)::(80,M)::(79,L)::(78,K)::(77,J)::(76,I)::(75,H)::(74,G)::(73,F)::(72,E)::(71,D)::(70,C)::(69,B)::(68,A)::(67,z)::(66,y)::(65,x)::(64,w)::(63,v)::(62,u)::(61,t)::(60,s)::(59,r)::(58,q)::(57,p)::(56,o)::l) l = [(0,a),(1,b),(2,c),(4,d),(5,e),(14,f),(44,g),(50,h),(51,i),(52,j),(53,k),(84,Q),(92,n)] := by intros; rfl
            refine R_nil (tr ..) ?_; clear tr
            refine then_n ?_
            refine cdt ?_
            refine at_seq rfl ?_
            refine rg rfl ?_
            refine Rq ?_
            have tr : ∀ a b c d e f g h i j k m n o : AV, let l := lc_rcheck_ok a b c d e f g h i j k m n; trim ((2,o)::l) l = [(0,a),(1,b),(2,o),(4,d),(5,e),(14,f),(44,g),(50,h),(51,i),(52,j),(53,k),(84,m),(92,n)] := by intros; rfl
            refine R_nil (tr ..) ?_; clear tr
            refine then_n ?_
            refine at_ret rfl ?_
            refine then_r ?_
            refine blk_r ?_
            refine then_r ?_
            refine then_r ?_
            refine blk_r ?_
            refine then_r ?_
            refine fpure ?_
            refine ⟨?_, rfl⟩
            have hse : edErr n (gt E u) = 1 := by unfold edErr; rw [if_pos (by omega)]
            rw [gchkS, if_neg (by omega), if_neg (by omega), if_neg (by omega), ferr_at hz (by omega) _ (by omega), hse]
           ·
            try simp only [decide_eq_true_eq, decide_eq_false_iff_not, Bool.not_eq_true', Bool.not_eq_false', beq_iff_eq, beq_eq_false_iff_ne, ne_eq] at h11
            refine Ry ?_
            refine Rq ?_
            refine Ry ?_
            refine Rq ?_
            refine Ry ?_
            refine Rq ?_
            refine Rq ?_
            refine Rq ?_
            refine Rp_split (fun h12 => ?_) (fun h12 => ?_)
            ·
             try simp only [decide_eq_true_eq, decide_eq_false_iff_not, Bool.not_eq_true', Bool.not_eq_false', beq_iff_eq, beq_eq_false_iff_ne, ne_eq] at h12
             refine Rn ?_
             refine Rn ?_
             refine Rn ?_
             refine Rn ?_
             refine Rn ?_
             refine Rq ?_
             refine Rq ?_
             refine Rn ?_
             refine Rn ?_
             refine Rn ?_
             refine Rn ?_
             refine Rn ?_
             refine Rq ?_
             have tr : ∀ a b c d e f g h i j k m n o p q r s t u v w x y z A B C D E F G H I J K L M N O P Q : AV, let l := lc_rcheck_ok a b c d e f g h i j k m n; trim ((84,Q)::(83,P)::(82,O)::(81,N)::(80,M)::(79,L)::(78,K)::(77,J)::(76,I)::(75,H)::(74,G)::(73,F)::(72,E)::(71,D)::(70,C)::(69,B)::(68,A)::(67,z)::(66,y)::(65,x)::(64,w)::(63,v)::(62,u)::(61,t)::(60,s)::(59,r)::(58,q)::(57,p)::(56,o)::l) l = [(0,a),(1,b),(2,c),(4,d),(5,e),(14,f),(44,g),(50,h),(51,i),(52,j),(53,k),(84,Q),(92,n)] := by intros; rfl
             refine R_nil (tr ..) ?_; clear tr
             refine then_n ?_
             refine cdt ?_
             refine at_seq rfl ?_
             refine rg rfl ?_
             refine Rq ?_
             have tr : ∀ a b c d e f g h i j k m n o : AV, let l := lc_rcheck_ok a b c d e f g h i j k m n; trim ((2,o)::l) l = [(0,a),(1,b),(2,o),(4,d),(5,e),(14,f),(44,g),(50,h),(51,i),(52,j),(53,k),(84,m),(92,n)] := by intros; rfl
             refine R_nil (tr ..) ?_; clear tr
             refine then_n ?_
             refine at_ret rfl ?_
             refine then_r ?_
             refine blk_r ?_
             refine then_r ?_
             refine then_r ?_
             refine blk_r ?_
             refine then_r ?_
             refine fpure ?_
             refine ⟨?_, rfl⟩
             have hse : edErr n (gt E u) = 1 := by unfold edErr; rw [if_pos (by omega)]
             rw [gchkS, if_neg (by omega), if_neg (by omega), if_neg (by omega), ferr_at hz (by omega) _ (by omega), hse]
            ·
             try simp only [decide_eq_true_eq, decide_eq_false_iff_not, Bool.not_eq_true', Bool.not_eq_false', beq_iff_eq, beq_eq_false_iff_ne, ne_eq] at h12
             refine Ry ?_
             refine Rq ?_
             refine Ry ?_
             refine Rq ?_
             refine Ry ?_
             refine Rq ?_
             refine Ry ?_
             refine Rq ?_
             refine Ry ?_
             refine Rq ?_
             refine Rq ?_
             refine Rq ?_
             refine Rp_split (fun h13 => ?_) (fun h13 => ?_)
             ·
              try simp only [decide_eq_true_eq, decide_eq_false_iff_not, Bool.not_eq_true', Bool.not_eq_false', beq_iff_eq, beq_eq_false_iff_ne, ne_eq] at h13
              refine Rn ?_
              refine Rn ?_
              refine Rn ?_
              refine Rn ?_
              refine Rn ?_
              refine Rq ?_
              have tr : ∀ a b c d e f g h i j k m n o p q r s t u v w x y z A B C D E F G H I J K L M N O P Q : AV, let l := lc_rcheck_ok a b c d e f g h i j k m n; trim ((84,Q)::(83,P)::(82,O)::(81,N)::(80,M)::(79,L)::(78,K)::(77,J)::(76,I)::(75,H)::(74,G)::(73,F)::(72,E)::(71,D)::(70,C)::(69,B)::(68,A)::(67,z)::(66,y)::(65,x)::(64,w)::(63,v)::(62,u)::(61,t)::(60,s)::(59,r)::(58,q)::(57,p)::(56,o)::l) l = [(0,a),(1,b),(2,c),(4,d),(5,e),(14,f),(44,g),(50,h),(51,i),(52,j),(53,k),(84,Q),(92,n)] := by intros; rfl
              refine R_nil (tr ..) ?_; clear tr
              refine then_n ?_
              refine cdt ?_
              refine at_seq rfl ?_
              refine rg rfl ?_
              refine Rq ?_
              have tr : ∀ a b c d e f g h i j k m n o : AV, let l := lc_rcheck_ok a b c d e f g h i j k m n; trim ((2,o)::l) l = [(0,a),(1,b),(2,o),(4,d),(5,e),(14,f),(44,g),(50,h),(51,i),(52,j),(53,k),(84,m),(92,n)] := by intros; rfl
              refine R_nil (tr ..) ?_; clear tr
              refine then_n ?_
              refine at_ret rfl ?_
              refine then_r ?_
              refine blk_r ?_
              refine then_r ?_
              refine then_r ?_
              refine blk_r ?_
              refine then_r ?_
              refine fpure ?_
              refine ⟨?_, rfl⟩
              have hse : edErr n (gt E u) = 1 := by unfold edErr; rw [if_pos (by omega)]
              rw [gchkS, if_neg (by omega), if_neg (by omega), if_neg (by omega), ferr_at hz (by omega) _ (by omega), hse]
             ·
              try simp only [decide_eq_true_eq, decide_eq_false_iff_not, Bool.not_eq_true', Bool.not_eq_false', beq_iff_eq, beq_eq_false_iff_ne, ne_eq] at h13
              refine Ry ?_
              refine Rq ?_
              refine Ry ?_
              refine Rq ?_
              refine Ry ?_
              refine Rq ?_
              refine Ry ?_
              refine Rq ?_
              refine Ry ?_
              refine Rq ?_
              refine Rq ?_
              have tr : ∀ a b c d e f g h i j k m n o p q r s t u v w x y z A B C D E F G H I J K L M N O P Q : AV, let l := lc_rcheck_ok a b c d e f g h i j k m n; trim ((84,Q)::(83,P)::(82,O)::(81,N)::(80,M)::(79,L)::(78,K)::(77,J)::(76,I)::(75,H)::(74,G)::(73,F)::(72,E)::(71,D)::(70,C)::(69,B)::(68,A)::(67,z)::(66,y)::(65,x)::(64,w)::(63,v)::(62,u)::(61,t)::(60,s)::(59,r)::(58,q)::(57,p)::(56,o)::l) l = [(0,a),(1,b),(2,c),(4,d),(5,e),(14,f),(44,g),(50,h),(51,i),(52,j),(53,k),(84,Q),(92,n)] := by intros; rfl
              refine R_nil (tr ..) ?_; clear tr
              refine then_n ?_
              refine cdd (fun h14 => ?_) (fun h14 => ?_)
              ·
               try simp only [decide_eq_true_eq, decide_eq_false_iff_not, Bool.not_eq_true', Bool.not_eq_false', beq_iff_eq, beq_eq_false_iff_ne, ne_eq] at h14
               refine at_seq rfl ?_
               refine rg rfl ?_
               refine Rq ?_
               have tr : ∀ a b c d e f g h i j k m n o : AV, let l := lc_rcheck_ok a b c d e f g h i j k m n; trim ((2,o)::l) l = [(0,a),(1,b),(2,o),(4,d),(5,e),(14,f),(44,g),(50,h),(51,i),(52,j),(53,k),(84,m),(92,n)] := by intros; rfl
               refine R_nil (tr ..) ?_; clear tr
               refine then_n ?_
               refine at_ret rfl ?_
               refine then_r ?_
               refine blk_r ?_
               refine then_r ?_
               refine then_r ?_
               refine blk_r ?_
               refine then_r ?_
               refine fpure ?_
               refine ⟨?_, rfl⟩
               have hse : edErr n (gt E u) = 1 := by unfold edErr; rw [if_pos (by omega)]
               rw [gchkS, if_neg (by omega), if_neg (by omega), if_neg (by omega), ferr_at hz (by omega) _ (by omega), hse]
              ·
               try simp only [decide_eq_true_eq, decide_eq_false_iff_not, Bool.not_eq_true', Bool.not_eq_false', beq_iff_eq, beq_eq_false_iff_ne, ne_eq] at h14
               refine at_skip rfl ?_
               refine then_n ?_
               refine at_seq rfl ?_
               refine rg rfl ?_
               refine Rq ?_
               refine Rq ?_
               refine Rq ?_
               refine Rq ?_
               refine Rp_split (fun h15 => ?_) (fun h15 => ?_)
               ·
                try simp only [decide_eq_true_eq, decide_eq_false_iff_not, Bool.not_eq_true', Bool.not_eq_false', beq_iff_eq, beq_eq_false_iff_ne, ne_eq] at h15
                refine Rn ?_
                refine Rn ?_
                refine Rn ?_
                refine Rq ?_
                have tr : ∀ a b c d e f g h i j k m n o p q r s t u v : AV, let l := lc_rcheck_ok a b c d e f g h i j k m n; trim ((92,v)::(91,u)::(90,t)::(89,s)::(88,r)::(87,q)::(86,p)::(85,o)::l) l = [(0,a),(1,b),(2,c),(4,d),(5,e),(14,f),(44,g),(50,h),(51,i),(52,j),(53,k),(84,m),(92,v)] := by intros; rfl
                refine R_nil (tr ..) ?_; clear tr
                refine then_n ?_
                refine cdt ?_
                refine at_seq rfl ?_
                refine rg rfl ?_
                refine Rq ?_
                have tr : ∀ a b c d e f g h i j k m n o : AV, let l := lc_rcheck_ok a b c d e f g h i j k m n; trim ((2,o)::l) l = [(0,a),(1,b),(2,o),(4,d),(5,e),(14,f),(44,g),(50,h),(51,i),(52,j),(53,k),(84,m),(92,n)] := by intros; rfl
                refine R_nil (tr ..) ?_; clear tr
                refine then_n ?_
                refine at_ret rfl ?_
                refine blk_r ?_
                refine then_r ?_
                refine then_r ?_
                refine blk_r ?_
                refine then_r ?_
                refine fpure ?_
                refine ⟨?_, rfl⟩
                have hse : edErr n (gt E u) = 2 := by unfold edErr; rw [if_neg (by omega), if_pos (by omega)]
                rw [gchkS, if_neg (by omega), if_neg (by omega), if_neg (by omega), ferr_at hz (by omega) _ (by omega), hse]
               ·
                try simp only [decide_eq_true_eq, decide_eq_false_iff_not, Bool.not_eq_true', Bool.not_eq_false', beq_iff_eq, beq_eq_false_iff_ne, ne_eq] at h15
                refine Ry ?_
                refine Rq ?_
                refine Ry ?_
                refine Rq ?_
                refine Ry ?_
                refine Rq ?_
                refine Rq ?_
                have tr : ∀ a b c d e f g h i j k m n o p q r s t u v : AV, let l := lc_rcheck_ok a b c d e f g h i j k m n; trim ((92,v)::(91,u)::(90,t)::(89,s)::(88,r)::(87,q)::(86,p)::(85,o)::l) l = [(0,a),(1,b),(2,c),(4,d),(5,e),(14,f),(44,g),(50,h),(51,i),(52,j),(53,k),(84,m),(92,v)] := by intros; rfl
                refine R_nil (tr ..) ?_; clear tr
                refine then_n ?_
                refine cdd (fun h16 => ?_) (fun h16 => ?_)
                ·
                 try simp only [decide_eq_true_eq, decide_eq_false_iff_not, Bool.not_eq_true', Bool.not_eq_false', beq_iff_eq, beq_eq_false_iff_ne, ne_eq] at h16
                 refine at_seq rfl ?_
                 refine rg rfl ?_
                 refine Rq ?_
                 have tr : ∀ a b c d e f g h i j k m n o : AV, let l := lc_rcheck_ok a b c d e f g h i j k m n; trim ((2,o)::l) l = [(0,a),(1,b),(2,o),(4,d),(5,e),(14,f),(44,g),(50,h),(51,i),(52,j),(53,k),(84,m),(92,n)] := by intros; rfl
                 refine R_nil (tr ..) ?_; clear tr
                 refine then_n ?_
                 refine at_ret rfl ?_
                 refine blk_r ?_
                 refine then_r ?_
                 refine then_r ?_
                 refine blk_r ?_
                 refine then_r ?_
                 refine fpure ?_
                 refine ⟨?_, rfl⟩
                 have hse : edErr n (gt E u) = 2 := by unfold edErr; rw [if_neg (by omega), if_pos (by omega)]
                 rw [gchkS, if_neg (by omega), if_neg (by omega), if_neg (by omega), ferr_at hz (by omega) _ (by omega), hse]
                ·
                 try simp only [decide_eq_true_eq, decide_eq_false_iff_not, Bool.not_eq_true', Bool.not_eq_false', beq_iff_eq, beq_eq_false_iff_ne, ne_eq] at h16
                 refine at_skip rfl ?_
                 refine blk_n ?_
                 refine then_n ?_
                 refine rg rfl ?_
                 refine Rq ?_
                 refine Rq ?_
                 have tr : ∀ a b c d e f g h i j k m n o p : AV, let l := lc_rcheck_ok a b c d e f g h i j k m n; trim ((52,p)::(93,o)::l) l = [(0,a),(1,b),(2,c),(4,d),(5,e),(14,f),(44,g),(50,h),(51,i),(52,p),(53,k),(84,m),(92,n)] := by intros; rfl
                 refine R_nil (tr ..) ?_; clear tr
                 refine then_n ?_
                 have hok : edErr n (gt E u) = 0 := by unfold edErr; rw [if_neg (by omega), if_neg (by omega)]
                 exact ⟨_, _, ⟨u + 1, X ++ [some (edC (gt E u))], _, _, _, _, _, rfl, rfl, by simp; rfl, by omega, by exact ferr_ok hz hok⟩, by rfl, by omega⟩
         ·
          try simp only [decide_eq_true_eq, decide_eq_false_iff_not, Bool.not_eq_true', Bool.not_eq_false', beq_iff_eq, beq_eq_false_iff_ne, ne_eq] at h9
          refine at_exit rfl ?_
          refine then_x ?_
          refine then_x ?_
          refine blk_x ?_
          refine then_n ?_
          refine at_seq rfl ?_
          refine rg rfl ?_
          refine Rq ?_
          have tr : ∀ a b c d e f g h i j k m n o : AV, let l := lc_rcheck_ok a b c d e f g h i j k m n; trim ((2,o)::l) l = [(0,a),(1,b),(2,o),(4,d),(5,e),(14,f),(44,g),(50,h),(51,i),(52,j),(53,k),(84,m),(92,n)] := by intros; rfl
          refine R_nil (tr ..) ?_; clear tr
          refine then_n ?_
          refine at_ret rfl ?_
          refine fpure ?_
          refine ⟨?_, rfl⟩
          rw [gchkS, if_neg (by omega), if_neg (by omega), if_neg (by omega), show ferr (fun i => edErr n (gt E i)) E.length = 0 by rw [show E.length = u by omega]; exact hz]

end Go.Proofs.Ytdicnojnkbmdlaa
end
section
set_option linter.unusedSimpArgs false
set_option linter.unusedVariables false
set_option maxHeartbeats 40000000
set_option maxRecDepth 4000
namespace Go.Proofs.Ytdicnojnkbmdlaa
open Go Go.Am

abbrev lc_max_ok (a b c d e f g h i j k m n o p q r s t u v w x : AV) : Env := [(0,a),(1,b),(2,c),(3,d),(4,e),(5,f),(6,g),(7,h),(8,i),(9,j),(10,k),(11,m),(12,n),(14,o),(18,p),(35,q),(43,r),(59,s),(74,t),(75,u),(76,v),(77,w),(81,x)]
theorem max_ok (lim : Nat) (H : Heap) (n s t : Int) (E : List Ed) :
    ACall sig lim 14 [.agg (graphC n s t E)] H fun r H' => r = .tup [maxA n s t E, maxB n s t E, AV.i (gchkS n s t E)] ∧ H' = H := by
 have q0 : True := trivial
 have qf : True := trivial
 have qw : True := trivial
 have qa : True := trivial
 have hc : True := trivial
 have hdi : True := trivial
 refine ACall_pure (fa := fa14) rfl rfl rfl rfl ?_
 have tr : ∀ a0 : AV, env0 fa14.keep [a0] = [(0,a0),(1,.any),(2,.any),(3,.any),(4,.any),(5,.any),(6,.any),(7,.any),(8,.any),(9,.any),(10,.any),(11,.any),(12,.any),(14,.any),(18,.any),(35,.any),(43,.any),(59,.any),(74,.any),(75,.any),(76,.any),(77,.any),(81,.any)] := fun a0 => rfl
 refine W_to (tr _) ?_; clear tr
 refine at_seq rfl ?_
 refine rg rfl ?_
 refine A_box rfl (by simp (disch := first | omega | (simp only [List.length_map, List.length_append, List.length_set, List.length_cons, List.length_nil]; omega)) only [go_sem, ↓reduceIte, Nat.reduceEqDiff, reduceCtorEq] <;> rfl) ?_
 intro H1 n0
 have en0 := n0.len
 have q0 := n0.new
 refine Rq ?_
 refine Rq ?_
 refine Rq ?_
 have tr : ∀ a b c d e f g h i j k m n o p q r s t u v w x y z A B : AV, let l := lc_max_ok a b c d e f g h i j k m n o p q r s t u v w x; trim ((4,B)::(3,A)::(2,z)::(1,y)::l) l = [(0,a),(1,y),(2,z),(3,A),(4,B),(5,f),(6,g),(7,h),(8,i),(9,j),(10,k),(11,m),(12,n),(14,o),(18,p),(35,q),(43,r),(59,s),(74,t),(75,u),(76,v),(77,w),(81,x)] := by intros; rfl
 refine R_nil (tr ..) ?_; clear tr
 refine then_n ?_
 refine at_seq rfl ?_
 refine at_seq rfl ?_
 refine rg rfl ?_
 refine R_q rfl (by simp (disch := first | omega | (simp only [List.length_map, List.length_append, List.length_set, List.length_cons, List.length_nil]; omega)) only [go_sem, ↓reduceIte, Nat.reduceEqDiff, reduceCtorEq, q0, qf, qw, qa, hc, hdi] <;> rfl) ?_
 refine Rcall ?_
 refine ACall_eq (check_ok _ _ n s t E) ?_
 refine Rq ?_
 have tr : ∀ a b c d e f g h i j k m n o p q r s t u v w x y z A : AV, let l := lc_max_ok a b c d e f g h i j k m n o p q r s t u v w x; trim ((5,A)::(16,z)::(15,y)::l) l = [(0,a),(1,b),(2,c),(3,d),(4,e),(5,A),(6,g),(7,h),(8,i),(9,j),(10,k),(11,m),(12,n),(14,o),(18,p),(35,q),(43,r),(59,s),(74,t),(75,u),(76,v),(77,w),(81,x)] := by intros; rfl
 refine R_nil (tr ..) ?_; clear tr
 refine then_n ?_
 refine at_seq rfl ?_
 refine rg rfl ?_
 refine Rq ?_
 refine Rq ?_
 have tr : ∀ a b c d e f g h i j k m n o p q r s t u v w x y z : AV, let l := lc_max_ok a b c d e f g h i j k m n o p q r s t u v w x; trim ((18,z)::(17,y)::l) l = [(0,a),(1,b),(2,c),(3,d),(4,e),(5,f),(6,g),(7,h),(8,i),(9,j),(10,k),(11,m),(12,n),(14,o),(18,z),(35,q),(43,r),(59,s),(74,t),(75,u),(76,v),(77,w),(81,x)] := by intros; rfl
 refine R_nil (tr ..) ?_; clear tr
 refine then_n ?_
 refine cdd (fun h1 => ?_) (fun h1 => ?_)
 ·
  try simp only [decide_eq_true_eq, decide_eq_false_iff_not, Bool.not_eq_true', Bool.not_eq_false', beq_iff_eq, beq_eq_false_iff_ne, ne_eq] at h1
  refine at_seq rfl ?_
  refine rg rfl ?_
  refine Rq ?_
  refine Rq ?_
  refine Rq ?_
  refine Rq ?_
  have tr : ∀ a b c d e f g h i j k m n o p q r s t u v w x y z A B : AV, let l := lc_max_ok a b c d e f g h i j k m n o p q r s t u v w x; trim ((4,B)::(3,A)::(2,z)::(19,y)::l) l = [(0,a),(1,b),(2,z),(3,A),(4,B),(5,f),(6,g),(7,h),(8,i),(9,j),(10,k),(11,m),(12,n),(14,o),(18,p),(35,q),(43,r),(59,s),(74,t),(75,u),(76,v),(77,w),(81,x)] := by intros; rfl
  refine R_nil (tr ..) ?_; clear tr
  refine then_n ?_
  refine at_ret rfl ?_
  refine then_r ?_
  refine fpure ?_
  refine ⟨?_, rfl⟩
  rw [maxA_err (by assumption), maxB_err (by assumption)]
 ·
  try simp only [decide_eq_true_eq, decide_eq_false_iff_not, Bool.not_eq_true', Bool.not_eq_false', beq_iff_eq, beq_eq_false_iff_ne, ne_eq] at h1
  refine at_skip rfl ?_
  refine then_n ?_
  refine at_seq rfl ?_
  refine rg rfl ?_
  have g := gok_of (by assumption : gchkS n s t E = 0)
  have hg0 : gchkS n s t E = 0 := by assumption
  obtain ⟨g1, g2, g3, g4, g5, g6, g7, g8, ge⟩ := id g
  refine Rq ?_
  refine R_q rfl (by simp (disch := first | omega | (simp only [List.length_map, List.length_append, List.length_set, List.length_cons, List.length_nil]; omega)) only [go_sem, ↓reduceIte, Nat.reduceEqDiff, reduceCtorEq, q0, qf, qw, qa, hc, hdi] <;> rfl) ?_
  refine Rq ?_
  refine A_makeSlice (ms27n _ _ E.length _ _ _ (by omega) (by simp (disch := first | omega | (simp only [List.length_map, List.length_append, List.length_set, List.length_cons, List.length_nil]; omega)) only [go_sem, ↓reduceIte, Nat.reduceEqDiff, reduceCtorEq, q0]) (by simp (disch := first | omega | (simp only [List.length_map, List.length_append, List.length_set, List.length_cons, List.length_nil]; omega)) only [go_sem, ↓reduceIte, Nat.reduceEqDiff, reduceCtorEq, q0])) ?_
  intro H2 n1
  have en1 := n1.len
  have q0 := (n1.old _ (hget_lt q0)).trans q0
  have qf := n1.new
  refine Rq ?_
  have tr : ∀ a b c d e f g h i j k m n o p q r s t u v w x y z A B C : AV, let l := lc_max_ok a b c d e f g h i j k m n o p q r s t u v w x; trim ((6,C)::(23,B)::(22,A)::(21,z)::(20,y)::l) l = [(0,a),(1,b),(2,c),(3,d),(4,e),(5,f),(6,C),(7,h),(8,i),(9,j),(10,k),(11,m),(12,n),(14,o),(18,p),(35,q),(43,r),(59,s),(74,t),(75,u),(76,v),(77,w),(81,x)] := by intros; rfl
  refine R_nil (tr ..) ?_; clear tr
  refine then_n ?_
  refine at_block rfl ?_
  refine loop_n rfl (fun mm kv H' => ∃ f : List Int, ∃ x2 x3 x4 x7 x8 x9 x10 x11 x12 x14 x35 x43 x59 x74 x75 x76 x77 x81 : AV, (kv = [(2, x2), (3, x3), (4, x4), (7, x7), (8, x8), (9, x9), (10, x10), (11, x11), (12, x12), (14, x14), (35, x35), (43, x43), (59, x59), (74, x74), (75, x75), (76, x76), (77, x77), (81, x81)]) ∧ (mm = (644245094400 - exc E f s E.length).toNat) ∧ (hget H' H.length = some (graphC n s t E)) ∧ (hget H' H1.length = some (f.map AV.i)) ∧ (FlowOK n s t E f) ∧ (∀ a, Runs n s t E f a → Runs n s t E (List.replicate E.length 0) a) ∧ (H2.length ≤ H'.length)) ⟨(List.replicate E.length 0), _, _, _, _, _, _, _, _, _, _, _, _, _, _, _, _, _, _, rfl, rfl, by exact q0, by exact qf, by exact zero_ok g, by exact fun a h => h, by exact Nat.le_refl _⟩ (by rfl) ?_
  rintro mm kv HA ⟨f, x2, x3, x4, x7, x8, x9, x10, x11, x12, x14, x35, x43, x59, x74, x75, x76, x77, x81, rfl, rfl, q0, qf, F, hR, hHA⟩
  have tr : ∀ a b c d e f g h i j k m n o p q r s t u v w x y z A B C D E F G H I J K L M N O P : AV, upd [(0,a),(1,b),(2,c),(3,d),(4,e),(5,f),(6,g),(7,h),(8,i),(9,j),(10,k),(11,m),(12,n),(14,o),(18,p),(35,q),(43,r),(59,s),(74,t),(75,u),(76,v),(77,w),(81,x)] [(2,y),(3,z),(4,A),(7,B),(8,C),(9,D),(10,E),(11,F),(12,G),(14,H),(35,I),(43,J),(59,K),(74,L),(75,M),(76,N),(77,O),(81,P)] = [(0,a),(1,b),(2,y),(3,z),(4,A),(5,f),(6,g),(7,B),(8,C),(9,D),(10,E),(11,F),(12,G),(14,H),(18,p),(35,I),(43,J),(59,K),(74,L),(75,M),(76,N),(77,O),(81,P)] := by intros; rfl
  refine W_to (tr ..) ?_; clear tr
  refine at_block rfl ?_
  refine at_seq rfl ?_
  refine rg rfl ?_
  refine R_q rfl (by simp (disch := first | omega | (simp only [List.length_map, List.length_append, List.length_set, List.length_cons, List.length_nil]; omega)) only [go_sem, ↓reduceIte, Nat.reduceEqDiff, reduceCtorEq, q0, qf, qw, qa, hc, hdi] <;> rfl) ?_
  refine Rq ?_
  refine Rcall ?_
  refine ACall_eq (reach_ok _ _ n s t E f H1.length E.length F.len.symm qf g F.len F.rng) ?_
  refine Rq ?_
  refine Rq ?_
  refine Rq ?_
  refine Rq ?_
  refine Rq ?_
  have tr : ∀ a b c d e f g h i j k m n o p q r s t u v w x y z A B C D E F : AV, let l := lc_max_ok a b c d e f g h i j k m n o p q r s t u v w x; trim ((8,F)::(7,E)::(29,D)::(28,C)::(24,B)::(27,A)::(26,z)::(25,y)::l) l = [(0,a),(1,b),(2,c),(3,d),(4,e),(5,f),(6,g),(7,E),(8,F),(9,j),(10,k),(11,m),(12,n),(14,o),(18,p),(35,q),(43,r),(59,s),(74,t),(75,u),(76,v),(77,w),(81,x)] := by intros; rfl
  refine R_nil (tr ..) ?_; clear tr
  refine then_n ?_
  refine at_seq rfl ?_
  refine at_seq rfl ?_
  refine rg rfl ?_
  obtain ⟨ord, so, RI, _⟩ := reach_inv f g
  have sos := so.seen
  have sow := so.way
  have lq0 := hget_lt q0
  have lqf := hget_lt qf
  refine Rq ?_
  refine Rq ?_
  refine R_q rfl (by simp (disch := first | omega | (simp only [List.length_map, List.length_append, List.length_set, List.length_cons, List.length_nil]; omega)) only [go_sem, ↓reduceIte, Nat.reduceEqDiff, reduceCtorEq, q0, qf, qw, qa, hc, hdi] <;> rfl) ?_
  refine Rq ?_
  refine R_q rfl (by simp (disch := first | omega | (simp only [List.length_map, List.length_append, List.length_set, List.length_cons, List.length_nil]; omega)) only [go_sem, ↓reduceIte, Nat.reduceEqDiff, reduceCtorEq, q0, qf, qw, qa, hc, hdi] <;> rfl) ?_
  refine Rq ?_
  have tr : ∀ a b c d e f g h i j k m n o p q r s t u v w x y z A B C D : AV, let l := lc_max_ok a b c d e f g h i j k m n o p q r s t u v w x; trim ((35,D)::(34,C)::(33,B)::(32,A)::(31,z)::(30,y)::l) l = [(0,a),(1,b),(2,c),(3,d),(4,e),(5,f),(6,g),(7,h),(8,i),(9,j),(10,k),(11,m),(12,n),(14,o),(18,p),(35,D),(43,r),(59,s),(74,t),(75,u),(76,v),(77,w),(81,x)] := by intros; rfl
  refine R_nil (tr ..) ?_; clear tr
  refine then_n ?_
  refine cdd (fun h2 => ?_) (fun h2 => ?_)
  ·
   try simp only [decide_eq_true_eq, decide_eq_false_iff_not, Bool.not_eq_true', Bool.not_eq_false', beq_iff_eq, beq_eq_false_iff_ne, ne_eq] at h2
   refine at_seq rfl ?_
   refine rg rfl ?_
   refine Rq ?_
   refine Rq ?_
   refine Rq ?_
   refine Rq ?_
   refine Rq ?_
   have tr : ∀ a b c d e f g h i j k m n o p q r s t u v w x y z A B C : AV, let l := lc_max_ok a b c d e f g h i j k m n o p q r s t u v w x; trim ((4,C)::(3,B)::(2,A)::(37,z)::(36,y)::l) l = [(0,a),(1,b),(2,A),(3,B),(4,C),(5,f),(6,g),(7,h),(8,i),(9,j),(10,k),(11,m),(12,n),(14,o),(18,p),(35,q),(43,r),(59,s),(74,t),(75,u),(76,v),(77,w),(81,x)] := by intros; rfl
   refine R_nil (tr ..) ?_; clear tr
   refine then_n ?_
   refine at_ret rfl ?_
   refine then_r ?_
   refine blk_r ?_
   refine then_r ?_
   refine blk_r ?_
   have hst : gt (reachS n s E f).seen t.toNat = false := by assumption
   have hru := hR f (.stop f hst)
   refine fpure ?_
   refine ⟨?_, rfl⟩
   rw [maxA_ok hg0 hru, maxB_ok hg0 hru, hg0]
   exact congrArg AV.tup (by rw [frz_ownI (l := f) (by omega) qf F.len.symm, frz_bools])
  ·
   try simp only [decide_eq_true_eq, decide_eq_false_iff_not, Bool.not_eq_true', Bool.not_eq_false', beq_iff_eq, beq_eq_false_iff_ne, ne_eq] at h2
   refine at_skip rfl ?_
   refine then_n ?_
   refine at_seq rfl ?_
   refine rg rfl ?_
   have hst : gt (reachS n s E f).seen t.toNat = true := by assumption
   obtain ⟨m, T, WO⟩ := tree_sink g hst
   have AO := aug_ok g F T WO
   have AO2 := AO.2
   have x0 := exc_rng (fRng_cap g AO.1.rng) s E.length (Nat.le_refl _)
   have hml := way_short g hst T
   refine Rq ?_
   have tr : ∀ a b c d e f g h i j k m n o p q r s t u v w x y : AV, let l := lc_max_ok a b c d e f g h i j k m n o p q r s t u v w x; trim ((9,y)::l) l = [(0,a),(1,b),(2,c),(3,d),(4,e),(5,f),(6,g),(7,h),(8,i),(9,y),(10,k),(11,m),(12,n),(14,o),(18,p),(35,q),(43,r),(59,s),(74,t),(75,u),(76,v),(77,w),(81,x)] := by intros; rfl
   refine R_nil (tr ..) ?_; clear tr
   refine then_n ?_
   refine at_seq rfl ?_
   refine rg rfl ?_
   refine Rq ?_
   have tr : ∀ a b c d e f g h i j k m n o p q r s t u v w x y : AV, let l := lc_max_ok a b c d e f g h i j k m n o p q r s t u v w x; trim ((10,y)::l) l = [(0,a),(1,b),(2,c),(3,d),(4,e),(5,f),(6,g),(7,h),(8,i),(9,j),(10,y),(11,m),(12,n),(14,o),(18,p),(35,q),(43,r),(59,s),(74,t),(75,u),(76,v),(77,w),(81,x)] := by intros; rfl
   refine R_nil (tr ..) ?_; clear tr
   refine then_n ?_
   refine at_seq rfl ?_
   refine at_seq rfl ?_
   refine rg rfl ?_
   refine Rq ?_
   refine R_q rfl (by simp (disch := first | omega | (simp only [List.length_map, List.length_append, List.length_set, List.length_cons, List.length_nil]; omega)) only [go_sem, ↓reduceIte, Nat.reduceEqDiff, reduceCtorEq, q0, qf, qw, qa, hc, hdi] <;> rfl) ?_
   refine Rq ?_
   have tr : ∀ a b c d e f g h i j k m n o p q r s t u v w x y z A : AV, let l := lc_max_ok a b c d e f g h i j k m n o p q r s t u v w x; trim ((11,A)::(39,z)::(38,y)::l) l = [(0,a),(1,b),(2,c),(3,d),(4,e),(5,f),(6,g),(7,h),(8,i),(9,j),(10,k),(11,A),(12,n),(14,o),(18,p),(35,q),(43,r),(59,s),(74,t),(75,u),(76,v),(77,w),(81,x)] := by intros; rfl
   refine R_nil (tr ..) ?_; clear tr
   refine then_n ?_
   refine at_block rfl ?_
   refine loop_n rfl (fun mm kv H' => ∃ k : Nat, ∃ v : Int, ∃ la : Int, ∃ w : List Int, ∃ o : AV, ∃ x12 x43 x59 : AV, (kv = [(9, o), (10, AV.i la), (11, AV.i v), (12, x12), (43, x43), (59, x59)]) ∧ (mm = k) ∧ (hget H' H.length = some (graphC n s t E)) ∧ (hget H' H1.length = some (f.map AV.i)) ∧ (OutA H2.length H' o w) ∧ (TreeN n s E f (reachS n s E f).way k v) ∧ (w ++ wayN E (reachS n s E f).way k v = wayN E (reachS n s E f).way m t) ∧ (la = leastW E f 1073741824 w) ∧ (0 < la) ∧ (la ≤ 1073741824) ∧ (H2.length ≤ H'.length)) ⟨m, t, 1073741824, [], _, _, _, _, rfl, rfl, by exact q0, by exact qf, by exact .inl ⟨rfl, rfl⟩, by exact T, by rfl, by rfl, by omega, by omega, by exact hHA⟩ (by rfl) ?_
   rintro mm kv HB ⟨k, v, la, w, o, x12, x43, x59, rfl, rfl, q0, qf, hO, T1, hW, hla, hl0, hl1, hHB⟩
   have tr : ∀ a b c d e f g h i j k m n o p q r s t u v w x y z A B C D : AV, upd [(0,a),(1,b),(2,c),(3,d),(4,e),(5,f),(6,g),(7,h),(8,i),(9,j),(10,k),(11,m),(12,n),(14,o),(18,p),(35,q),(43,r),(59,s),(74,t),(75,u),(76,v),(77,w),(81,x)] [(9,y),(10,z),(11,A),(12,B),(43,C),(59,D)] = [(0,a),(1,b),(2,c),(3,d),(4,e),(5,f),(6,g),(7,h),(8,i),(9,y),(10,z),(11,A),(12,B),(14,o),(18,p),(35,q),(43,C),(59,D),(74,t),(75,u),(76,v),(77,w),(81,x)] := by intros; rfl
   refine W_to (tr ..) ?_; clear tr
   refine at_seq rfl ?_
   refine at_seq rfl ?_
   refine rg rfl ?_
   refine Rq ?_
   refine Rq ?_
   refine R_q rfl (by simp (disch := first | omega | (simp only [List.length_map, List.length_append, List.length_set, List.length_cons, List.length_nil]; omega)) only [go_sem, ↓reduceIte, Nat.reduceEqDiff, reduceCtorEq, q0, qf, qw, qa, hc, hdi] <;> rfl) ?_
   refine Rq ?_
   have tr : ∀ a b c d e f g h i j k m n o p q r s t u v w x y z A B : AV, let l := lc_max_ok a b c d e f g h i j k m n o p q r s t u v w x; trim ((43,B)::(42,A)::(41,z)::(40,y)::l) l = [(0,a),(1,b),(2,c),(3,d),(4,e),(5,f),(6,g),(7,h),(8,i),(9,j),(10,k),(11,m),(12,n),(14,o),(18,p),(35,q),(43,B),(59,s),(74,t),(75,u),(76,v),(77,w),(81,x)] := by intros; rfl
   refine R_nil (tr ..) ?_; clear tr
   refine then_n ?_
   refine cdd (fun h3 => ?_) (fun h3 => ?_)
   ·
    try simp only [decide_eq_true_eq, decide_eq_false_iff_not, Bool.not_eq_true', Bool.not_eq_false', beq_iff_eq, beq_eq_false_iff_ne, ne_eq] at h3
    refine at_skip rfl ?_
    refine then_n ?_
    refine at_block rfl ?_
    refine at_seq rfl ?_
    refine rg rfl ?_
    have hob := fun b hb => hO.lt (b := b) hb
    obtain ⟨k', c, rfl, hc, hv0, hv1, A, T2, hwn⟩ := tree_step T1 (by omega)
    rw [hwn] at hW
    have hnz := A.nz
    have hrp := A.room
    have hix := A.ix
    obtain ⟨hd0, hd1, hdi, hdr⟩ := arc_dec A
    have he := ge _ hix
    have hr := F.rng _ hix
    have hwl : w.length ≤ 600 := by
      have := congrArg List.length hW
      rw [wayN_len, List.length_append] at this
      omega
    refine Rq ?_
    refine Rq ?_
    refine Rq ?_
    refine R_q rfl (by simp (disch := first | omega | (simp only [List.length_map, List.length_append, List.length_set, List.length_cons, List.length_nil]; omega)) only [go_sem, ↓reduceIte, Nat.reduceEqDiff, reduceCtorEq, q0, qf, qw, qa, hc, hdi] <;> rfl) ?_
    refine A_alloc rfl ?_
    intro HC n4
    have en4 := n4.len
    have q0 := (n4.old _ (hget_lt q0)).trans q0
    have qf := (n4.old _ (hget_lt qf)).trans qf
    have qa := n4.new
    have lq0 := hget_lt q0
    have lqf := hget_lt qf
    have lqa := hget_lt qa
    refine A_store ty71 (by simp (disch := first | omega | (simp only [List.length_map, List.length_append, List.length_set, List.length_cons, List.length_nil]; omega)) only [go_sem, ↓reduceIte, Nat.reduceEqDiff, reduceCtorEq, q0, qf, qw, qa, hc, hdi] <;> rfl) (by simp (disch := first | omega | (simp only [List.length_map, List.length_append, List.length_set, List.length_cons, List.length_nil]; omega)) only [go_sem, ↓reduceIte, Nat.reduceEqDiff, reduceCtorEq, q0, qf, qw, qa, hc, hdi] <;> rfl) qa ⟨by omega, rfl, by first | exact Nat.le_refl _ | simp⟩ (show _ = arcC c from rfl) ?_
    intro HD w4
    have ew4 := w4.len
    have q0 := (w4.old _ (by omega)).trans q0
    have qf := (w4.old _ (by omega)).trans qf
    have qa := w4.new
    have hO := hO.mono fun b hb k hk => (w4.old _ (by have := hget_lt hk; omega)).trans ((n4.old _ (hget_lt hk)).trans hk)
    have tr : ∀ a b c d e f g h i j k m n o p q r s t u v w x y z A B C : AV, let l := lc_max_ok a b c d e f g h i j k m n o p q r s t u v w x; trim ((12,C)::(47,B)::(46,A)::(45,z)::(44,y)::l) l = [(0,a),(1,b),(2,c),(3,d),(4,e),(5,f),(6,g),(7,h),(8,i),(9,j),(10,k),(11,m),(12,C),(14,o),(18,p),(35,q),(43,r),(59,s),(74,t),(75,u),(76,v),(77,w),(81,x)] := by intros; rfl
    refine R_nil (tr ..) ?_; clear tr
    refine then_n ?_
    refine at_seq rfl ?_
    refine rg rfl ?_
    refine Rq ?_
    refine R_q rfl (by simp (disch := first | omega | (simp only [List.length_map, List.length_append, List.length_set, List.length_cons, List.length_nil]; omega)) only [go_sem, ↓reduceIte, Nat.reduceEqDiff, reduceCtorEq, q0, qf, qw, qa, hc, hdi] <;> rfl) ?_
    refine A_buildSlice (bs67 _ _ _ _ c (by simp (disch := first | omega | (simp only [List.length_map, List.length_append, List.length_set, List.length_cons, List.length_nil]; omega)) only [go_sem, ↓reduceIte, Nat.reduceEqDiff, reduceCtorEq, q0, qf, qw, qa, hc, hdi] <;> rfl)) ?_
    intro HJ n9
    have en9 := n9.len
    have q0 := (n9.old _ (hget_lt q0)).trans q0
    have qf := (n9.old _ (hget_lt qf)).trans qf
    have qa := (n9.old _ (hget_lt qa)).trans qa
    have qn := n9.new
    have hO := hO.mono fun b hb k hk => (n9.old _ (hget_lt hk)).trans hk
    have lq0 := hget_lt q0
    have lqf := hget_lt qf
    have lqa := hget_lt qa
    have lqn := hget_lt qn
    obtain ⟨b, hbl, hbl2, hap⟩ := outA_append (lim := H.length) hO hob qn (by omega) (by omega) (by omega)
    refine A_append (by simp (disch := first | omega | (simp only [List.length_map, List.length_append, List.length_set, List.length_cons, List.length_nil]; omega)) only [go_sem, ↓reduceIte, Nat.reduceEqDiff, reduceCtorEq]; exact hap) ?_
    intro HK g9
    have eg9 := g9.len
    have q0 := (g9.old _ (by omega) lq0).trans q0
    have qf := (g9.old _ (by omega) lqf).trans qf
    have qa := (g9.old _ (by omega) lqa).trans qa
    have qq := g9.new
    refine Rq ?_
    have tr : ∀ a b c d e f g h i j k m n o p q r s t u v w x y z A B C : AV, let l := lc_max_ok a b c d e f g h i j k m n o p q r s t u v w x; trim ((9,C)::(51,B)::(50,A)::(49,z)::(48,y)::l) l = [(0,a),(1,b),(2,c),(3,d),(4,e),(5,f),(6,g),(7,h),(8,i),(9,C),(10,k),(11,m),(12,n),(14,o),(18,p),(35,q),(43,r),(59,s),(74,t),(75,u),(76,v),(77,w),(81,x)] := by intros; rfl
    refine R_nil (tr ..) ?_; clear tr
    refine then_n ?_
    refine at_seq rfl ?_
    refine rg rfl ?_
    refine Rq ?_
    refine R_q rfl (by simp (disch := first | omega | (simp only [List.length_map, List.length_append, List.length_set, List.length_cons, List.length_nil]; omega)) only [go_sem, ↓reduceIte, Nat.reduceEqDiff, reduceCtorEq, q0, qf, qw, qa, hc, hdi] <;> rfl) ?_
    refine Rq ?_
    refine R_q rfl (by simp (disch := first | omega | (simp only [List.length_map, List.length_append, List.length_set, List.length_cons, List.length_nil]; omega)) only [go_sem, ↓reduceIte, Nat.reduceEqDiff, reduceCtorEq, q0, qf, qw, qa, hc, hdi] <;> rfl) ?_
    refine Rcall ?_
    refine ACall_eq (room_ok _ _ n s t E f H1.length E.length F.len.symm qf (decE c) (decide (c < 0)) hd0 hd1 g F.len F.rng) ?_
    rewrite [hdr]
    refine Rq ?_
    refine Rq ?_
    have tr : ∀ a b c d e f g h i j k m n o p q r s t u v w x y z A B C D E : AV, let l := lc_max_ok a b c d e f g h i j k m n o p q r s t u v w x; trim ((10,E)::(57,D)::(56,C)::(55,B)::(54,A)::(53,z)::(52,y)::l) l = [(0,a),(1,b),(2,c),(3,d),(4,e),(5,f),(6,g),(7,h),(8,i),(9,j),(10,E),(11,m),(12,n),(14,o),(18,p),(35,q),(43,r),(59,s),(74,t),(75,u),(76,v),(77,w),(81,x)] := by intros; rfl
    refine R_nil (tr ..) ?_; clear tr
    refine then_n ?_
    refine at_seq rfl ?_
    refine rg rfl ?_
    refine Rq ?_
    refine R_q rfl (by simp (disch := first | omega | (simp only [List.length_map, List.length_append, List.length_set, List.length_cons, List.length_nil]; omega)) only [go_sem, ↓reduceIte, Nat.reduceEqDiff, reduceCtorEq, q0, qf, qw, qa, hc, hdi] <;> rfl) ?_
    have tr : ∀ a b c d e f g h i j k m n o p q r s t u v w x y z : AV, let l := lc_max_ok a b c d e f g h i j k m n o p q r s t u v w x; trim ((59,z)::(58,y)::l) l = [(0,a),(1,b),(2,c),(3,d),(4,e),(5,f),(6,g),(7,h),(8,i),(9,j),(10,k),(11,m),(12,n),(14,o),(18,p),(35,q),(43,r),(59,z),(74,t),(75,u),(76,v),(77,w),(81,x)] := by intros; rfl
    refine R_nil (tr ..) ?_; clear tr
    refine then_n ?_
    refine cdd (fun h4 => ?_) (fun h4 => ?_)
    ·
     try simp only [decide_eq_true_eq, decide_eq_false_iff_not, Bool.not_eq_true', Bool.not_eq_false', beq_iff_eq, beq_eq_false_iff_ne, ne_eq] at h4
     refine rg rfl ?_
     have hta : tailE E c = (gt E (ixE c)).b := by rw [tailE, if_neg (by omega)]
     refine Rq ?_
     refine R_q rfl (by simp (disch := first | omega | (simp only [List.length_map, List.length_append, List.length_set, List.length_cons, List.length_nil]; omega)) only [go_sem, ↓reduceIte, Nat.reduceEqDiff, reduceCtorEq, q0, qf, qw, qa, hc, hdi] <;> rfl) ?_
     refine Rq ?_
     refine R_q rfl (by simp (disch := first | omega | (simp only [List.length_map, List.length_append, List.length_set, List.length_cons, List.length_nil]; omega)) only [go_sem, ↓reduceIte, Nat.reduceEqDiff, reduceCtorEq, q0, qf, qw, qa, hc, hdi] <;> rfl) ?_
     refine Rq ?_
     refine Rq ?_
     refine R_q rfl (by simp (disch := first | omega | (simp only [List.length_map, List.length_append, List.length_set, List.length_cons, List.length_nil]; omega)) only [go_sem, ↓reduceIte, Nat.reduceEqDiff, reduceCtorEq, q0, qf, qw, qa, hc, hdi] <;> rfl) ?_
     refine Rq ?_
     have tr : ∀ a b c d e f g h i j k m n o p q r s t u v w x y z A B C D E F : AV, let l := lc_max_ok a b c d e f g h i j k m n o p q r s t u v w x; trim ((11,F)::(66,E)::(65,D)::(64,C)::(63,B)::(62,A)::(61,z)::(60,y)::l) l = [(0,a),(1,b),(2,c),(3,d),(4,e),(5,f),(6,g),(7,h),(8,i),(9,j),(10,k),(11,F),(12,n),(14,o),(18,p),(35,q),(43,r),(59,s),(74,t),(75,u),(76,v),(77,w),(81,x)] := by intros; rfl
     refine R_nil (tr ..) ?_; clear tr
     refine blk_n ?_
     refine then_n ?_
     exact ⟨_, _, ⟨k', (gt E (ixE c)).b, _, w ++ [c], (.own 2 HJ.length 0 (w.length + 1)), _, _, _, rfl, rfl, by exact q0, by exact qf, by exact OutA.new g9 (by omega) (by simp), by rw [← hta]; exact T2, by rw [← hta, List.append_assoc]; exact hW, by rw [least_app, ← hla], by omega, by omega, by show H2.length ≤ HK.length; omega⟩, by rfl, by omega⟩
    ·
     try simp only [decide_eq_true_eq, decide_eq_false_iff_not, Bool.not_eq_true', Bool.not_eq_false', beq_iff_eq, beq_eq_false_iff_ne, ne_eq] at h4
     refine rg rfl ?_
     have hta : tailE E c = (gt E (ixE c)).a := by rw [tailE, if_pos (by omega)]
     refine Rq ?_
     refine R_q rfl (by simp (disch := first | omega | (simp only [List.length_map, List.length_append, List.length_set, List.length_cons, List.length_nil]; omega)) only [go_sem, ↓reduceIte, Nat.reduceEqDiff, reduceCtorEq, q0, qf, qw, qa, hc, hdi] <;> rfl) ?_
     refine Rq ?_
     refine R_q rfl (by simp (disch := first | omega | (simp only [List.length_map, List.length_append, List.length_set, List.length_cons, List.length_nil]; omega)) only [go_sem, ↓reduceIte, Nat.reduceEqDiff, reduceCtorEq, q0, qf, qw, qa, hc, hdi] <;> rfl) ?_
     refine Rq ?_
     refine Rq ?_
     refine R_q rfl (by simp (disch := first | omega | (simp only [List.length_map, List.length_append, List.length_set, List.length_cons, List.length_nil]; omega)) only [go_sem, ↓reduceIte, Nat.reduceEqDiff, reduceCtorEq, q0, qf, qw, qa, hc, hdi] <;> rfl) ?_
     refine Rq ?_
     have tr : ∀ a b c d e f g h i j k m n o p q r s t u v w x y z A B C D E F : AV, let l := lc_max_ok a b c d e f g h i j k m n o p q r s t u v w x; trim ((11,F)::(73,E)::(72,D)::(71,C)::(70,B)::(69,A)::(68,z)::(67,y)::l) l = [(0,a),(1,b),(2,c),(3,d),(4,e),(5,f),(6,g),(7,h),(8,i),(9,j),(10,k),(11,F),(12,n),(14,o),(18,p),(35,q),(43,r),(59,s),(74,t),(75,u),(76,v),(77,w),(81,x)] := by intros; rfl
     refine R_nil (tr ..) ?_; clear tr
     refine blk_n ?_
     refine then_n ?_
     exact ⟨_, _, ⟨k', (gt E (ixE c)).a, _, w ++ [c], (.own 2 HJ.length 0 (w.length + 1)), _, _, _, rfl, rfl, by exact q0, by exact qf, by exact OutA.new g9 (by omega) (by simp), by rw [← hta]; exact T2, by rw [← hta, List.append_assoc]; exact hW, by rw [least_app, ← hla], by omega, by omega, by show H2.length ≤ HK.length; omega⟩, by rfl, by omega⟩
   ·
    try simp only [decide_eq_true_eq, decide_eq_false_iff_not, Bool.not_eq_true', Bool.not_eq_false', beq_iff_eq, beq_eq_false_iff_ne, ne_eq] at h3
    refine at_exit rfl ?_
    refine then_x ?_
    refine then_x ?_
    refine blk_x ?_
    refine then_n ?_
    refine at_seq rfl ?_
    refine rg rfl ?_
    have hwe := tree_end T1 (by omega)
    rw [hwe, List.append_nil] at hW
    have hwl := congrArg List.length hW
    rw [wayN_len] at hwl
    have hlw : ∀ x, x ∈ wayN E (reachS n s E f).way m t → la ≤ roomI E f x := by rw [hla, hW]; exact (least_le _ _).2
    obtain ⟨wW, hwW⟩ : ∃ wW, wW = w := ⟨_, rfl⟩
    obtain ⟨bw, rfl, hbw, qw⟩ := hO.resolve_left (fun hh => by have := tree_pos g T; rw [hh.1] at hwl; simp at hwl; omega)
    have lqw := hget_lt qw
    subst hwW
    refine Rq ?_
    refine Rq ?_
    refine Rq ?_
    have tr : ∀ a b c d e f g h i j k m n o p q r s t u v w x y z A : AV, let l := lc_max_ok a b c d e f g h i j k m n o p q r s t u v w x; trim ((76,A)::(75,z)::(74,y)::l) l = [(0,a),(1,b),(2,c),(3,d),(4,e),(5,f),(6,g),(7,h),(8,i),(9,j),(10,k),(11,m),(12,n),(14,o),(18,p),(35,q),(43,r),(59,s),(74,y),(75,z),(76,A),(77,w),(81,x)] := by intros; rfl
    refine R_nil (tr ..) ?_; clear tr
    refine then_n ?_
    refine at_block rfl ?_
    refine loop_n rfl (fun mm kv H' => ∃ j : Nat, ∃ x14 x77 x81 : AV, (kv = [(14, x14), (76, AV.i j), (77, x77), (81, x81)]) ∧ (mm = wW.length - j) ∧ (hget H' H.length = some (graphC n s t E)) ∧ (hget H' H1.length = some ((applyW la f (wW.take j)).map AV.i)) ∧ (hget H' bw = some (flatA wW)) ∧ (j ≤ wW.length) ∧ (H2.length ≤ H'.length)) ⟨0, _, _, _, rfl, rfl, by exact q0, by rw [List.take_zero]; exact qf, by exact qw, by omega, by exact hHB⟩ (by rfl) ?_
    rintro mm kv HF ⟨j, x14, x77, x81, rfl, rfl, q0, qf, qw, hj, hHF⟩
    have tr : ∀ a b c d e f g h i j k m n o p q r s t u v w x y z A B : AV, upd [(0,a),(1,b),(2,c),(3,d),(4,e),(5,f),(6,g),(7,h),(8,i),(9,j),(10,k),(11,m),(12,n),(14,o),(18,p),(35,q),(43,r),(59,s),(74,t),(75,u),(76,v),(77,w),(81,x)] [(14,y),(76,z),(77,A),(81,B)] = [(0,a),(1,b),(2,c),(3,d),(4,e),(5,f),(6,g),(7,h),(8,i),(9,j),(10,k),(11,m),(12,n),(14,y),(18,p),(35,q),(43,r),(59,s),(74,t),(75,u),(76,z),(77,A),(81,B)] := by intros; rfl
    refine W_to (tr ..) ?_; clear tr
    refine at_seq rfl ?_
    refine rg rfl ?_
    refine Rq ?_
    have tr : ∀ a b c d e f g h i j k m n o p q r s t u v w x y : AV, let l := lc_max_ok a b c d e f g h i j k m n o p q r s t u v w x; trim ((77,y)::l) l = [(0,a),(1,b),(2,c),(3,d),(4,e),(5,f),(6,g),(7,h),(8,i),(9,j),(10,k),(11,m),(12,n),(14,o),(18,p),(35,q),(43,r),(59,s),(74,t),(75,u),(76,v),(77,y),(81,x)] := by intros; rfl
    refine R_nil (tr ..) ?_; clear tr
    refine then_n ?_
    refine at_seq rfl ?_
    refine cdd (fun h5 => ?_) (fun h5 => ?_)
    ·
     try simp only [decide_eq_true_eq, decide_eq_false_iff_not, Bool.not_eq_true', Bool.not_eq_false', beq_iff_eq, beq_eq_false_iff_ne, ne_eq] at h5
     refine at_skip rfl ?_
     refine then_n ?_
     refine at_seq rfl ?_
     refine at_block rfl ?_
     refine at_seq rfl ?_
     refine rg rfl ?_
     have kqw := hget_lt qw
     have A : ArcOK E f (gt wW j) := WO.arc _ (by rw [← hW, gt_eq _ _ (by omega)]; exact List.getElem_mem _)
     obtain ⟨c, hc⟩ : ∃ c, gt wW j = c := ⟨_, rfl⟩
     rw [hc] at A
     have hnz := A.nz
     have hix := A.ix
     obtain ⟨hd0, hd1, hdi, hdr⟩ := arc_dec A
     have he := ge _ hix
     have hW4 : wW.take j ++ c :: wW.drop (j + 1) = wayN E (reachS n s E f).way m t := by rw [← hc, ← drop_gt wW j (by omega), List.take_append_drop, hW]
     obtain ⟨s1, s2, s3, s4, A2⟩ := aug_step (d := la) (by omega) F.len F.rng WO hlw hW4
     rw [show wW.take j ++ [c] = wW.take (j + 1) by rw [← hc, gt_eq _ _ (by omega), List.take_append_getElem]] at s4
     refine Rq ?_
     refine R_q rfl (by simp (disch := first | omega | (simp only [List.length_map, List.length_append, List.length_set, List.length_cons, List.length_nil]; omega)) only [go_sem, ↓reduceIte, Nat.reduceEqDiff, reduceCtorEq, q0, qf, qw, qa, hc, hdi] <;> rfl) ?_
     refine A_alloc rfl ?_
     intro HG n6
     have en6 := n6.len
     have q0 := (n6.old _ (hget_lt q0)).trans q0
     have qf := (n6.old _ (hget_lt qf)).trans qf
     have qw := (n6.old _ (hget_lt qw)).trans qw
     have qa := n6.new
     have lq0 := hget_lt q0
     have lqf := hget_lt qf
     have lqw := hget_lt qw
     have lqa := hget_lt qa
     refine A_store ty71 (by simp (disch := first | omega | (simp only [List.length_map, List.length_append, List.length_set, List.length_cons, List.length_nil]; omega)) only [go_sem, ↓reduceIte, Nat.reduceEqDiff, reduceCtorEq, q0, qf, qw, qa, hc, hdi] <;> rfl) (by simp (disch := first | omega | (simp only [List.length_map, List.length_append, List.length_set, List.length_cons, List.length_nil]; omega)) only [go_sem, ↓reduceIte, Nat.reduceEqDiff, reduceCtorEq, q0, qf, qw, qa, hc, hdi] <;> rfl) qa ⟨by omega, rfl, by first | exact Nat.le_refl _ | simp⟩ (show _ = arcC c from rfl) ?_
     intro HH w6
     have ew6 := w6.len
     have q0 := (w6.old _ (by omega)).trans q0
     have qf := (w6.old _ (by omega)).trans qf
     have qw := (w6.old _ (by omega)).trans qw
     have qa := w6.new
     have tr : ∀ a b c d e f g h i j k m n o p q r s t u v w x y z A : AV, let l := lc_max_ok a b c d e f g h i j k m n o p q r s t u v w x; trim ((14,A)::(79,z)::(78,y)::l) l = [(0,a),(1,b),(2,c),(3,d),(4,e),(5,f),(6,g),(7,h),(8,i),(9,j),(10,k),(11,m),(12,n),(14,A),(18,p),(35,q),(43,r),(59,s),(74,t),(75,u),(76,v),(77,w),(81,x)] := by intros; rfl
     refine R_nil (tr ..) ?_; clear tr
     refine then_n ?_
     refine at_seq rfl ?_
     refine rg rfl ?_
     refine Rq ?_
     refine R_q rfl (by simp (disch := first | omega | (simp only [List.length_map, List.length_append, List.length_set, List.length_cons, List.length_nil]; omega)) only [go_sem, ↓reduceIte, Nat.reduceEqDiff, reduceCtorEq, q0, qf, qw, qa, hc, hdi] <;> rfl) ?_
     have tr : ∀ a b c d e f g h i j k m n o p q r s t u v w x y z : AV, let l := lc_max_ok a b c d e f g h i j k m n o p q r s t u v w x; trim ((81,z)::(80,y)::l) l = [(0,a),(1,b),(2,c),(3,d),(4,e),(5,f),(6,g),(7,h),(8,i),(9,j),(10,k),(11,m),(12,n),(14,o),(18,p),(35,q),(43,r),(59,s),(74,t),(75,u),(76,v),(77,w),(81,z)] := by intros; rfl
     refine R_nil (tr ..) ?_; clear tr
     refine then_n ?_
     refine cdd (fun h6 => ?_) (fun h6 => ?_)
     ·
      try simp only [decide_eq_true_eq, decide_eq_false_iff_not, Bool.not_eq_true', Bool.not_eq_false', beq_iff_eq, beq_eq_false_iff_ne, ne_eq] at h6
      refine rg rfl ?_
      have hav : addV la (applyW la f (wW.take j)) c = gt (applyW la f (wW.take j)) (ixE c) - la := by rw [addV, if_neg (by omega)]
      rw [hav] at s2
      refine Rq ?_
      refine Rq ?_
      refine R_q rfl (by simp (disch := first | omega | (simp only [List.length_map, List.length_append, List.length_set, List.length_cons, List.length_nil]; omega)) only [go_sem, ↓reduceIte, Nat.reduceEqDiff, reduceCtorEq, q0, qf, qw, qa, hc, hdi] <;> rfl) ?_
      refine Rq ?_
      refine R_q rfl (by simp (disch := first | omega | (simp only [List.length_map, List.length_append, List.length_set, List.length_cons, List.length_nil]; omega)) only [go_sem, ↓reduceIte, Nat.reduceEqDiff, reduceCtorEq, q0, qf, qw, qa, hc, hdi] <;> rfl) ?_
      refine Rq ?_
      refine Rq ?_
      refine Rq ?_
      have lq0 := hget_lt q0
      have lqf := hget_lt qf
      have lqw := hget_lt qw
      have lqa := hget_lt qa
      refine A_store ty2 (by simp (disch := first | omega | (simp only [List.length_map, List.length_append, List.length_set, List.length_cons, List.length_nil]; omega)) only [go_sem, ↓reduceIte, Nat.reduceEqDiff, reduceCtorEq, q0, qf, qw, qa, hc, hdi] <;> rfl) (by simp (disch := first | omega | (simp only [List.length_map, List.length_append, List.length_set, List.length_cons, List.length_nil]; omega)) only [go_sem, ↓reduceIte, Nat.reduceEqDiff, reduceCtorEq, q0, qf, qw, qa, hc, hdi] <;> rfl) qf ⟨by omega, rfl, by simp only [List.length_map]; omega⟩ (k' := (applyW la f (wW.take (j + 1))).map AV.i) (by rw [setL_map, s4, hav]) ?_
      intro HI w9
      have ew9 := w9.len
      have q0 := (w9.old _ (by omega)).trans q0
      have qw := (w9.old _ (by omega)).trans qw
      have qf := w9.new
      have tr : ∀ a b c d e f g h i j k m n o p q r s t u v w x y z A B C D E F : AV, let l := lc_max_ok a b c d e f g h i j k m n o p q r s t u v w x; trim ((89,F)::(88,E)::(87,D)::(86,C)::(85,B)::(84,A)::(83,z)::(82,y)::l) l = [(0,a),(1,b),(2,c),(3,d),(4,e),(5,f),(6,g),(7,h),(8,i),(9,j),(10,k),(11,m),(12,n),(14,o),(18,p),(35,q),(43,r),(59,s),(74,t),(75,u),(76,v),(77,w),(81,x)] := by intros; rfl
      refine R_nil (tr ..) ?_; clear tr
      refine blk_n ?_
      refine then_n ?_
      refine rg rfl ?_
      refine Rq ?_
      refine Rq ?_
      have tr : ∀ a b c d e f g h i j k m n o p q r s t u v w x y z : AV, let l := lc_max_ok a b c d e f g h i j k m n o p q r s t u v w x; trim ((76,z)::(98,y)::l) l = [(0,a),(1,b),(2,c),(3,d),(4,e),(5,f),(6,g),(7,h),(8,i),(9,j),(10,k),(11,m),(12,n),(14,o),(18,p),(35,q),(43,r),(59,s),(74,t),(75,u),(76,z),(77,w),(81,x)] := by intros; rfl
      refine R_nil (tr ..) ?_; clear tr
      refine then_n ?_
      exact ⟨_, _, ⟨j + 1, _, _, _, rfl, rfl, by exact q0, by exact qf, by exact qw, by omega, by show H2.length ≤ HI.length; omega⟩, by rfl, by omega⟩
     ·
      try simp only [decide_eq_true_eq, decide_eq_false_iff_not, Bool.not_eq_true', Bool.not_eq_false', beq_iff_eq, beq_eq_false_iff_ne, ne_eq] at h6
      refine rg rfl ?_
      have hav : addV la (applyW la f (wW.take j)) c = gt (applyW la f (wW.take j)) (ixE c) + la := by rw [addV, if_pos (by omega)]
      rw [hav] at s2
      refine Rq ?_
      refine Rq ?_
      refine R_q rfl (by simp (disch := first | omega | (simp only [List.length_map, List.length_append, List.length_set, List.length_cons, List.length_nil]; omega)) only [go_sem, ↓reduceIte, Nat.reduceEqDiff, reduceCtorEq, q0, qf, qw, qa, hc, hdi] <;> rfl) ?_
      refine Rq ?_
      refine R_q rfl (by simp (disch := first | omega | (simp only [List.length_map, List.length_append, List.length_set, List.length_cons, List.length_nil]; omega)) only [go_sem, ↓reduceIte, Nat.reduceEqDiff, reduceCtorEq, q0, qf, qw, qa, hc, hdi] <;> rfl) ?_
      refine Rq ?_
      refine Rq ?_
      refine Rq ?_
      have lq0 := hget_lt q0
      have lqf := hget_lt qf
      have lqw := hget_lt qw
      have lqa := hget_lt qa
      refine A_store ty2 (by simp (disch := first | omega | (simp only [List.length_map, List.length_append, List.length_set, List.length_cons, List.length_nil]; omega)) only [go_sem, ↓reduceIte, Nat.reduceEqDiff, reduceCtorEq, q0, qf, qw, qa, hc, hdi] <;> rfl) (by simp (disch := first | omega | (simp only [List.length_map, List.length_append, List.length_set, List.length_cons, List.length_nil]; omega)) only [go_sem, ↓reduceIte, Nat.reduceEqDiff, reduceCtorEq, q0, qf, qw, qa, hc, hdi] <;> rfl) qf ⟨by omega, rfl, by simp only [List.length_map]; omega⟩ (k' := (applyW la f (wW.take (j + 1))).map AV.i) (by rw [setL_map, s4, hav]) ?_
      intro HI w9
      have ew9 := w9.len
      have q0 := (w9.old _ (by omega)).trans q0
      have qw := (w9.old _ (by omega)).trans qw
      have qf := w9.new
      have tr : ∀ a b c d e f g h i j k m n o p q r s t u v w x y z A B C D E F : AV, let l := lc_max_ok a b c d e f g h i j k m n o p q r s t u v w x; trim ((97,F)::(96,E)::(95,D)::(94,C)::(93,B)::(92,A)::(91,z)::(90,y)::l) l = [(0,a),(1,b),(2,c),(3,d),(4,e),(5,f),(6,g),(7,h),(8,i),(9,j),(10,k),(11,m),(12,n),(14,o),(18,p),(35,q),(43,r),(59,s),(74,t),(75,u),(76,v),(77,w),(81,x)] := by intros; rfl
      refine R_nil (tr ..) ?_; clear tr
      refine blk_n ?_
      refine then_n ?_
      refine rg rfl ?_
      refine Rq ?_
      refine Rq ?_
      have tr : ∀ a b c d e f g h i j k m n o p q r s t u v w x y z : AV, let l := lc_max_ok a b c d e f g h i j k m n o p q r s t u v w x; trim ((76,z)::(98,y)::l) l = [(0,a),(1,b),(2,c),(3,d),(4,e),(5,f),(6,g),(7,h),(8,i),(9,j),(10,k),(11,m),(12,n),(14,o),(18,p),(35,q),(43,r),(59,s),(74,t),(75,u),(76,z),(77,w),(81,x)] := by intros; rfl
      refine R_nil (tr ..) ?_; clear tr
      refine then_n ?_
      exact ⟨_, _, ⟨j + 1, _, _, _, rfl, rfl, by exact q0, by exact qf, by exact qw, by omega, by show H2.length ≤ HI.length; omega⟩, by rfl, by omega⟩
    ·
     try simp only [decide_eq_true_eq, decide_eq_false_iff_not, Bool.not_eq_true', Bool.not_eq_false', beq_iff_eq, beq_eq_false_iff_ne, ne_eq] at h5
     refine at_exit rfl ?_
     refine then_x ?_
     refine then_x ?_
     refine blk_x ?_
     refine blk_n ?_
     refine then_n ?_
     exact ⟨_, _, ⟨augW n s t E f m, _, _, _, _, _, _, _, _, _, _, _, _, _, _, _, _, _, _, rfl, rfl, by exact q0, by rw [augW, ← hW, ← hla, show wW = wW.take j by rw [List.take_of_length_le (by omega)]]; exact qf, by exact AO.1, by exact fun a h => hR a (.step f a m hst T h), by exact hHF⟩, by rfl, by omega⟩

end Go.Proofs.Ytdicnojnkbmdlaa
end
