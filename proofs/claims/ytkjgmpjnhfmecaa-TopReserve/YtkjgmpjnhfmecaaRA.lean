/-
  Walks of the seat of TopReserve. The steps are written by program (walk.py).
-/
import Derived.Test.YtkjgmpjnhfmecaaMe
import Derived.Test.YtkjgmpjnhfmecaaSig
set_option linter.unusedSimpArgs false
set_option linter.unusedVariables false
set_option maxHeartbeats 40000000
set_option maxRecDepth 4000
namespace Go.Proofs.Ytkjgmpjnhfmecaa
open Go Go.Am

abbrev lc_plays_ok (a b c d : AV) : Env := [(0,a),(1,b),(2,c),(4,d)]
theorem plays_ok (lim : Nat) (H : Heap) (f : Fx) (t : Int) :
    ACall sig lim 13 [.agg (fxC f), AV.i t] H fun r H' => r = .v (.bool (decide (f.h = t ∨ f.a = t))) ∧ H' = H := by
 have q2 : True := trivial
 refine ACall_pure (fa := fa13) rfl rfl rfl rfl ?_
 have tr : ∀ a0 a1 : AV, env0 fa13.keep [a0, a1] = [(0,a0),(1,a1),(2,.any),(4,.any)] := fun a0 a1 => rfl
 refine W_to (tr _ _) ?_; clear tr
 refine at_seq rfl ?_
 refine rg rfl ?_
 refine A_box rfl (by simp (disch := first | omega | (simp only [List.length_map, List.length_append, List.length_set, List.length_cons, List.length_nil]; omega)) only [go_sem, ↓reduceIte, Nat.reduceEqDiff, reduceCtorEq]; rfl) ?_
 intro H1 n1
 have en1 := n1.len
 have q2 := n1.new
 refine Rq ?_
 have tr : ∀ a b c d e f : AV, let l := lc_plays_ok a b c d; trim ((4,f)::(2,e)::l) l = [(0,a),(1,b),(2,e),(4,f)] := by intros; rfl
 refine R_nil (tr ..) ?_; clear tr
 refine then_n ?_
 refine at_seq rfl ?_
 refine rg rfl ?_
 refine Rq ?_
 refine R_q rfl (by simp (disch := first | omega | (simp only [List.length_map, List.length_append, List.length_set, List.length_cons, List.length_nil]; omega)) only [go_sem, ↓reduceIte, Nat.reduceEqDiff, reduceCtorEq, q2]; rfl) ?_
 refine Rq ?_
 refine Rq ?_
 refine Rq ?_
 refine Rp_split (fun h1 => ?_) (fun h1 => ?_)
 ·
  try simp only [decide_eq_true_eq, decide_eq_false_iff_not, Bool.not_eq_true', Bool.not_eq_false', beq_iff_eq, beq_eq_false_iff_ne, ne_eq] at h1
  refine Rn ?_
  refine Rn ?_
  refine Rn ?_
  refine Rn ?_
  refine Rq ?_
  refine Rq ?_
  have tr : ∀ a b c d e f g h i j k m n o p : AV, let l := lc_plays_ok a b c d; trim ((4,p)::(14,o)::(13,n)::(12,m)::(11,k)::(10,j)::(9,i)::(8,h)::(7,g)::(6,f)::(5,e)::l) l = [(0,a),(1,b),(2,c),(4,p)] := by intros; rfl
  refine R_nil (tr ..) ?_; clear tr
  refine then_n ?_
  refine at_ret rfl ?_
  refine fpure ?_
  refine ⟨?_, rfl⟩
  refine congrArg (fun z => AV.v (.bool z)) ?_
  first | (simp_all; done) | (rw [Bool.eq_iff_iff]; simp_all; done) | (simp_all; omega)
 ·
  try simp only [decide_eq_true_eq, decide_eq_false_iff_not, Bool.not_eq_true', Bool.not_eq_false', beq_iff_eq, beq_eq_false_iff_ne, ne_eq] at h1
  refine Ry ?_
  refine Rq ?_
  refine Ry ?_
  refine R_q rfl (by simp (disch := first | omega | (simp only [List.length_map, List.length_append, List.length_set, List.length_cons, List.length_nil]; omega)) only [go_sem, ↓reduceIte, Nat.reduceEqDiff, reduceCtorEq, q2]; rfl) ?_
  refine Ry ?_
  refine Rq ?_
  refine Ry ?_
  refine Rq ?_
  refine Rq ?_
  refine Rq ?_
  have tr : ∀ a b c d e f g h i j k m n o p : AV, let l := lc_plays_ok a b c d; trim ((4,p)::(14,o)::(13,n)::(12,m)::(11,k)::(10,j)::(9,i)::(8,h)::(7,g)::(6,f)::(5,e)::l) l = [(0,a),(1,b),(2,c),(4,p)] := by intros; rfl
  refine R_nil (tr ..) ?_; clear tr
  refine then_n ?_
  refine at_ret rfl ?_
  refine fpure ?_
  refine ⟨?_, rfl⟩
  refine congrArg (fun z => AV.v (.bool z)) ?_
  first | (simp_all; done) | (rw [Bool.eq_iff_iff]; simp_all; done) | (simp_all; omega)

abbrev lc_known_ok (a b c d e f : AV) : Env := [(0,a),(1,b),(2,c),(3,d),(4,e),(5,f)]
theorem known_ok (lim : Nat) (H : Heap) (f : Fx) (first rest : Int) (gr : List Int) (g1 : 0 ≤ f.h ∧ f.h < gr.length) (g2 : 0 ≤ f.a ∧ f.a < gr.length) (g3 : f.h ≠ f.a) (g4 : gr.length ≤ 100) :
    ACall sig lim 12 [.agg (fxC f), .agg (ssC first rest gr)] H fun r H' => r = .v (.bool true) ∧ H' = H := by
 have q2 : True := trivial
 have q3 : True := trivial
 refine ACall_pure (fa := fa12) rfl rfl rfl rfl ?_
 have tr : ∀ a0 a1 : AV, env0 fa12.keep [a0, a1] = [(0,a0),(1,a1),(2,.any),(3,.any),(4,.any),(5,.any)] := fun a0 a1 => rfl
 refine W_to (tr _ _) ?_; clear tr
 refine at_seq rfl ?_
 refine rg rfl ?_
 refine A_box rfl (by simp (disch := first | omega | (simp only [List.length_map, List.length_append, List.length_set, List.length_cons, List.length_nil]; omega)) only [go_sem, ↓reduceIte, Nat.reduceEqDiff, reduceCtorEq]; rfl) ?_
 intro H1 n1
 have en1 := n1.len
 have q2 := n1.new
 refine A_box rfl (by simp (disch := first | omega | (simp only [List.length_map, List.length_append, List.length_set, List.length_cons, List.length_nil]; omega)) only [go_sem, ↓reduceIte, Nat.reduceEqDiff, reduceCtorEq, q2]; rfl) ?_
 intro H2 n2
 have en2 := n2.len
 have q2 := (n2.old _ (hget_lt q2)).trans q2
 have q3 := n2.new
 refine Rq ?_
 have tr : ∀ a b c d e f g h i : AV, let l := lc_known_ok a b c d e f; trim ((4,i)::(3,h)::(2,g)::l) l = [(0,a),(1,b),(2,g),(3,h),(4,i),(5,f)] := by intros; rfl
 refine R_nil (tr ..) ?_; clear tr
 refine then_n ?_
 refine at_seq rfl ?_
 refine rg rfl ?_
 refine Rq ?_
 refine R_q rfl (by simp (disch := first | omega | (simp only [List.length_map, List.length_append, List.length_set, List.length_cons, List.length_nil]; omega)) only [go_sem, ↓reduceIte, Nat.reduceEqDiff, reduceCtorEq, q2, q3]; rfl) ?_
 refine Rq ?_
 refine Rq ?_
 have tr : ∀ a b c d e f g h i j : AV, let l := lc_known_ok a b c d e f; trim ((5,j)::(8,i)::(7,h)::(6,g)::l) l = [(0,a),(1,b),(2,c),(3,d),(4,e),(5,j)] := by intros; rfl
 refine R_nil (tr ..) ?_; clear tr
 refine then_n ?_
 refine at_seq rfl ?_
 refine rg rfl ?_
 refine Rq ?_
 refine R_q rfl (by simp (disch := first | omega | (simp only [List.length_map, List.length_append, List.length_set, List.length_cons, List.length_nil]; omega)) only [go_sem, ↓reduceIte, Nat.reduceEqDiff, reduceCtorEq, q2, q3]; rfl) ?_
 refine Rq ?_
 refine Rq ?_
 refine Rp_split (fun h1 => ?_) (fun h1 => ?_)
 ·
  try simp only [decide_eq_true_eq, decide_eq_false_iff_not, Bool.not_eq_true', Bool.not_eq_false', beq_iff_eq, beq_eq_false_iff_ne, ne_eq] at h1
  refine Ry ?_
  refine Rq ?_
  refine Ry ?_
  refine R_q rfl (by simp (disch := first | omega | (simp only [List.length_map, List.length_append, List.length_set, List.length_cons, List.length_nil]; omega)) only [go_sem, ↓reduceIte, Nat.reduceEqDiff, reduceCtorEq, q2, q3]; rfl) ?_
  refine Ry ?_
  refine Rq ?_
  refine Ry ?_
  refine Rq ?_
  refine Rq ?_
  refine Rq ?_
  refine Rp_split (fun h2 => ?_) (fun h2 => ?_)
  ·
   try simp only [decide_eq_true_eq, decide_eq_false_iff_not, Bool.not_eq_true', Bool.not_eq_false', beq_iff_eq, beq_eq_false_iff_ne, ne_eq] at h2
   refine Ry ?_
   refine Rq ?_
   refine Ry ?_
   refine R_q rfl (by simp (disch := first | omega | (simp only [List.length_map, List.length_append, List.length_set, List.length_cons, List.length_nil]; omega)) only [go_sem, ↓reduceIte, Nat.reduceEqDiff, reduceCtorEq, q2, q3]; rfl) ?_
   refine Ry ?_
   refine Rq ?_
   refine Rq ?_
   refine Rq ?_
   refine Rp_split (fun h3 => ?_) (fun h3 => ?_)
   ·
    try simp only [decide_eq_true_eq, decide_eq_false_iff_not, Bool.not_eq_true', Bool.not_eq_false', beq_iff_eq, beq_eq_false_iff_ne, ne_eq] at h3
    refine Ry ?_
    refine Rq ?_
    refine Ry ?_
    refine R_q rfl (by simp (disch := first | omega | (simp only [List.length_map, List.length_append, List.length_set, List.length_cons, List.length_nil]; omega)) only [go_sem, ↓reduceIte, Nat.reduceEqDiff, reduceCtorEq, q2, q3]; rfl) ?_
    refine Ry ?_
    refine Rq ?_
    refine Ry ?_
    refine Rq ?_
    refine Rq ?_
    refine Rq ?_
    refine Rp_split (fun h4 => ?_) (fun h4 => ?_)
    ·
     try simp only [decide_eq_true_eq, decide_eq_false_iff_not, Bool.not_eq_true', Bool.not_eq_false', beq_iff_eq, beq_eq_false_iff_ne, ne_eq] at h4
     refine Ry ?_
     refine Rq ?_
     refine Ry ?_
     refine R_q rfl (by simp (disch := first | omega | (simp only [List.length_map, List.length_append, List.length_set, List.length_cons, List.length_nil]; omega)) only [go_sem, ↓reduceIte, Nat.reduceEqDiff, reduceCtorEq, q2, q3]; rfl) ?_
     refine Ry ?_
     refine Rq ?_
     refine Ry ?_
     refine R_q rfl (by simp (disch := first | omega | (simp only [List.length_map, List.length_append, List.length_set, List.length_cons, List.length_nil]; omega)) only [go_sem, ↓reduceIte, Nat.reduceEqDiff, reduceCtorEq, q2, q3]; rfl) ?_
     refine Ry ?_
     refine Rq ?_
     refine Rq ?_
     refine Rq ?_
     have tr : ∀ a b c d e f g h i j k m n o p q r s t u v w x y z A B C D E F G H I : AV, let l := lc_known_ok a b c d e f; trim ((4,I)::(35,H)::(34,G)::(33,F)::(32,E)::(31,D)::(30,C)::(29,B)::(28,A)::(27,z)::(26,y)::(25,x)::(24,w)::(23,v)::(22,u)::(21,t)::(20,s)::(19,r)::(18,q)::(17,p)::(16,o)::(15,n)::(14,m)::(13,k)::(12,j)::(11,i)::(10,h)::(9,g)::l) l = [(0,a),(1,b),(2,c),(3,d),(4,I),(5,f)] := by intros; rfl
     refine R_nil (tr ..) ?_; clear tr
     refine then_n ?_
     refine at_ret rfl ?_
     refine fpure ?_
     refine ⟨?_, rfl⟩
     refine congrArg (fun z => AV.v (.bool z)) ?_
     first | (simp_all; done) | (simp_all; omega)
    ·
     try simp only [decide_eq_true_eq, decide_eq_false_iff_not, Bool.not_eq_true', Bool.not_eq_false', beq_iff_eq, beq_eq_false_iff_ne, ne_eq] at h4
     refine Rn ?_
     refine Rn ?_
     refine Rn ?_
     refine Rn ?_
     refine Rn ?_
     refine Rq ?_
     refine Rq ?_
     have tr : ∀ a b c d e f g h i j k m n o p q r s t u v w x y z A B C D E F G H I : AV, let l := lc_known_ok a b c d e f; trim ((4,I)::(35,H)::(34,G)::(33,F)::(32,E)::(31,D)::(30,C)::(29,B)::(28,A)::(27,z)::(26,y)::(25,x)::(24,w)::(23,v)::(22,u)::(21,t)::(20,s)::(19,r)::(18,q)::(17,p)::(16,o)::(15,n)::(14,m)::(13,k)::(12,j)::(11,i)::(10,h)::(9,g)::l) l = [(0,a),(1,b),(2,c),(3,d),(4,I),(5,f)] := by intros; rfl
     refine R_nil (tr ..) ?_; clear tr
     refine then_n ?_
     refine at_ret rfl ?_
     refine fpure ?_
     refine ⟨?_, rfl⟩
     refine congrArg (fun z => AV.v (.bool z)) ?_
     first | (simp_all; done) | (simp_all; omega)
   ·
    try simp only [decide_eq_true_eq, decide_eq_false_iff_not, Bool.not_eq_true', Bool.not_eq_false', beq_iff_eq, beq_eq_false_iff_ne, ne_eq] at h3
    refine Rn ?_
    refine Rn ?_
    refine Rn ?_
    refine Rn ?_
    refine Rq ?_
    refine Rq ?_
    refine Rn ?_
    refine Rn ?_
    refine Rn ?_
    refine Rn ?_
    refine Rn ?_
    refine Rq ?_
    refine Rq ?_
    have tr : ∀ a b c d e f g h i j k m n o p q r s t u v w x y z A B C D E F G H I : AV, let l := lc_known_ok a b c d e f; trim ((4,I)::(35,H)::(34,G)::(33,F)::(32,E)::(31,D)::(30,C)::(29,B)::(28,A)::(27,z)::(26,y)::(25,x)::(24,w)::(23,v)::(22,u)::(21,t)::(20,s)::(19,r)::(18,q)::(17,p)::(16,o)::(15,n)::(14,m)::(13,k)::(12,j)::(11,i)::(10,h)::(9,g)::l) l = [(0,a),(1,b),(2,c),(3,d),(4,I),(5,f)] := by intros; rfl
    refine R_nil (tr ..) ?_; clear tr
    refine then_n ?_
    refine at_ret rfl ?_
    refine fpure ?_
    refine ⟨?_, rfl⟩
    refine congrArg (fun z => AV.v (.bool z)) ?_
    first | (simp_all; done) | (simp_all; omega)
  ·
   try simp only [decide_eq_true_eq, decide_eq_false_iff_not, Bool.not_eq_true', Bool.not_eq_false', beq_iff_eq, beq_eq_false_iff_ne, ne_eq] at h2
   refine Rn ?_
   refine Rn ?_
   refine Rn ?_
   refine Rq ?_
   refine Rq ?_
   refine Rn ?_
   refine Rn ?_
   refine Rn ?_
   refine Rn ?_
   refine Rq ?_
   refine Rq ?_
   refine Rn ?_
   refine Rn ?_
   refine Rn ?_
   refine Rn ?_
   refine Rn ?_
   refine Rq ?_
   refine Rq ?_
   have tr : ∀ a b c d e f g h i j k m n o p q r s t u v w x y z A B C D E F G H I : AV, let l := lc_known_ok a b c d e f; trim ((4,I)::(35,H)::(34,G)::(33,F)::(32,E)::(31,D)::(30,C)::(29,B)::(28,A)::(27,z)::(26,y)::(25,x)::(24,w)::(23,v)::(22,u)::(21,t)::(20,s)::(19,r)::(18,q)::(17,p)::(16,o)::(15,n)::(14,m)::(13,k)::(12,j)::(11,i)::(10,h)::(9,g)::l) l = [(0,a),(1,b),(2,c),(3,d),(4,I),(5,f)] := by intros; rfl
   refine R_nil (tr ..) ?_; clear tr
   refine then_n ?_
   refine at_ret rfl ?_
   refine fpure ?_
   refine ⟨?_, rfl⟩
   refine congrArg (fun z => AV.v (.bool z)) ?_
   first | (simp_all; done) | (simp_all; omega)
 ·
  try simp only [decide_eq_true_eq, decide_eq_false_iff_not, Bool.not_eq_true', Bool.not_eq_false', beq_iff_eq, beq_eq_false_iff_ne, ne_eq] at h1
  refine Rn ?_
  refine Rn ?_
  refine Rn ?_
  refine Rn ?_
  refine Rq ?_
  refine Rq ?_
  refine Rn ?_
  refine Rn ?_
  refine Rn ?_
  refine Rq ?_
  refine Rq ?_
  refine Rn ?_
  refine Rn ?_
  refine Rn ?_
  refine Rn ?_
  refine Rq ?_
  refine Rq ?_
  refine Rn ?_
  refine Rn ?_
  refine Rn ?_
  refine Rn ?_
  refine Rn ?_
  refine Rq ?_
  refine Rq ?_
  have tr : ∀ a b c d e f g h i j k m n o p q r s t u v w x y z A B C D E F G H I : AV, let l := lc_known_ok a b c d e f; trim ((4,I)::(35,H)::(34,G)::(33,F)::(32,E)::(31,D)::(30,C)::(29,B)::(28,A)::(27,z)::(26,y)::(25,x)::(24,w)::(23,v)::(22,u)::(21,t)::(20,s)::(19,r)::(18,q)::(17,p)::(16,o)::(15,n)::(14,m)::(13,k)::(12,j)::(11,i)::(10,h)::(9,g)::l) l = [(0,a),(1,b),(2,c),(3,d),(4,I),(5,f)] := by intros; rfl
  refine R_nil (tr ..) ?_; clear tr
  refine then_n ?_
  refine at_ret rfl ?_
  refine fpure ?_
  refine ⟨?_, rfl⟩
  refine congrArg (fun z => AV.v (.bool z)) ?_
  first | (simp_all; done) | (simp_all; omega)

abbrev lc_season_ok (a b c d e f g h i j k m : AV) : Env := [(0,a),(1,b),(3,c),(4,d),(6,e),(7,f),(16,g),(36,h),(37,i),(38,j),(39,k),(47,m)]
theorem season_ok (lim : Nat) (H : Heap) (n first rest : Int) (gr : List Int) (hn : 0 ≤ n ∧ n ≤ 400) (g1 : 0 ≤ first ∧ first ≤ 109572) (g2 : 0 ≤ rest ∧ rest ≤ 400) (g3 : gr.length ≤ 20) (g4 : ∀ i, i < gr.length → 0 ≤ gt gr i ∧ gt gr i < 20) :
    ACall sig lim 11 [AV.i n, .agg (ssC first rest gr)] H fun r H' => r = AV.i 0 ∧ H' = H := by
 have q3 : True := trivial
 refine ACall_pure (fa := fa11) rfl rfl rfl rfl ?_
 have tr : ∀ a0 a1 : AV, env0 fa11.keep [a0, a1] = [(0,a0),(1,a1),(3,.any),(4,.any),(6,.any),(7,.any),(16,.any),(36,.any),(37,.any),(38,.any),(39,.any),(47,.any)] := fun a0 a1 => rfl
 refine W_to (tr _ _) ?_; clear tr
 refine at_seq rfl ?_
 refine rg rfl ?_
 refine A_box rfl (by simp (disch := first | omega | (simp only [List.length_map, List.length_append, List.length_set, List.length_cons, List.length_nil]; omega)) only [go_sem, ↓reduceIte, Nat.reduceEqDiff, reduceCtorEq]; rfl) ?_
 intro H1 n1
 have en1 := n1.len
 have q3 := n1.new
 refine Rq ?_
 have tr : ∀ a b c d e f g h i j k m n o : AV, let l := lc_season_ok a b c d e f g h i j k m; trim ((4,o)::(3,n)::l) l = [(0,a),(1,b),(3,n),(4,o),(6,e),(7,f),(16,g),(36,h),(37,i),(38,j),(39,k),(47,m)] := by intros; rfl
 refine R_nil (tr ..) ?_; clear tr
 refine then_n ?_
 refine at_seq rfl ?_
 refine at_block rfl ?_
 refine at_seq rfl ?_
 refine rg rfl ?_
 refine Rq ?_
 refine Rq ?_
 refine Rq ?_
 refine Rp_split (fun h1 => ?_) (fun h1 => ?_)
 ·
  try simp only [decide_eq_true_eq, decide_eq_false_iff_not, Bool.not_eq_true', Bool.not_eq_false', beq_iff_eq, beq_eq_false_iff_ne, ne_eq] at h1
  refine Rn ?_
  refine Rn ?_
  refine Rn ?_
  refine Rn ?_
  refine Rq ?_
  refine Rq ?_
  have tr : ∀ a b c d e f g h i j k m n o p q r s t u v : AV, let l := lc_season_ok a b c d e f g h i j k m; trim ((7,v)::(15,u)::(14,t)::(13,s)::(12,r)::(11,q)::(10,p)::(9,o)::(8,n)::l) l = [(0,a),(1,b),(3,c),(4,d),(6,e),(7,v),(16,g),(36,h),(37,i),(38,j),(39,k),(47,m)] := by intros; rfl
  refine R_nil (tr ..) ?_; clear tr
  refine then_n ?_
  refine cdt ?_
  refine at_seq rfl ?_
  refine rg rfl ?_
  refine Rq ?_
  have tr : ∀ a b c d e f g h i j k m n : AV, let l := lc_season_ok a b c d e f g h i j k m; trim ((4,n)::l) l = [(0,a),(1,b),(3,c),(4,n),(6,e),(7,f),(16,g),(36,h),(37,i),(38,j),(39,k),(47,m)] := by intros; rfl
  refine R_nil (tr ..) ?_; clear tr
  refine then_n ?_
  refine at_ret rfl ?_
  refine blk_r ?_
  refine then_r ?_
  first | (exfalso; omega) | (refine fpure ?_; refine ⟨?_, rfl⟩; rfl)
 ·
  try simp only [decide_eq_true_eq, decide_eq_false_iff_not, Bool.not_eq_true', Bool.not_eq_false', beq_iff_eq, beq_eq_false_iff_ne, ne_eq] at h1
  refine Ry ?_
  refine Rq ?_
  refine Ry ?_
  refine R_q rfl (by simp (disch := first | omega | (simp only [List.length_map, List.length_append, List.length_set, List.length_cons, List.length_nil]; omega)) only [go_sem, ↓reduceIte, Nat.reduceEqDiff, reduceCtorEq, q3]; rfl) ?_
  refine Ry ?_
  refine Rq ?_
  refine Ry ?_
  refine Rq ?_
  refine Rq ?_
  refine Rq ?_
  have tr : ∀ a b c d e f g h i j k m n o p q r s t u v : AV, let l := lc_season_ok a b c d e f g h i j k m; trim ((7,v)::(15,u)::(14,t)::(13,s)::(12,r)::(11,q)::(10,p)::(9,o)::(8,n)::l) l = [(0,a),(1,b),(3,c),(4,d),(6,e),(7,v),(16,g),(36,h),(37,i),(38,j),(39,k),(47,m)] := by intros; rfl
  refine R_nil (tr ..) ?_; clear tr
  refine then_n ?_
  refine cdd (fun h2 => ?_) (fun h2 => ?_)
  ·
   try simp only [decide_eq_true_eq, decide_eq_false_iff_not, Bool.not_eq_true', Bool.not_eq_false', beq_iff_eq, beq_eq_false_iff_ne, ne_eq] at h2
   refine at_seq rfl ?_
   refine rg rfl ?_
   refine Rq ?_
   have tr : ∀ a b c d e f g h i j k m n : AV, let l := lc_season_ok a b c d e f g h i j k m; trim ((4,n)::l) l = [(0,a),(1,b),(3,c),(4,n),(6,e),(7,f),(16,g),(36,h),(37,i),(38,j),(39,k),(47,m)] := by intros; rfl
   refine R_nil (tr ..) ?_; clear tr
   refine then_n ?_
   refine at_ret rfl ?_
   refine blk_r ?_
   refine then_r ?_
   first | (exfalso; omega) | (refine fpure ?_; refine ⟨?_, rfl⟩; rfl)
  ·
   try simp only [decide_eq_true_eq, decide_eq_false_iff_not, Bool.not_eq_true', Bool.not_eq_false', beq_iff_eq, beq_eq_false_iff_ne, ne_eq] at h2
   refine at_seq rfl ?_
   refine rg rfl ?_
   refine Rq ?_
   refine R_q rfl (by simp (disch := first | omega | (simp only [List.length_map, List.length_append, List.length_set, List.length_cons, List.length_nil]; omega)) only [go_sem, ↓reduceIte, Nat.reduceEqDiff, reduceCtorEq, q3]; rfl) ?_
   refine Rq ?_
   refine Rq ?_
   refine Rp_split (fun h3 => ?_) (fun h3 => ?_)
   ·
    try simp only [decide_eq_true_eq, decide_eq_false_iff_not, Bool.not_eq_true', Bool.not_eq_false', beq_iff_eq, beq_eq_false_iff_ne, ne_eq] at h3
    refine Rn ?_
    refine Rn ?_
    refine Rn ?_
    refine Rq ?_
    refine Rq ?_
    refine Rn ?_
    refine Rn ?_
    refine Rn ?_
    refine Rq ?_
    refine Rq ?_
    refine Rn ?_
    refine Rn ?_
    refine Rn ?_
    refine Rq ?_
    refine Rq ?_
    have tr : ∀ a b c d e f g h i j k m n o p q r s t u v w x y z A B C D E F : AV, let l := lc_season_ok a b c d e f g h i j k m; trim ((16,F)::(34,E)::(33,D)::(32,C)::(31,B)::(30,A)::(29,z)::(28,y)::(27,x)::(26,w)::(25,v)::(24,u)::(23,t)::(22,s)::(21,r)::(20,q)::(19,p)::(18,o)::(17,n)::l) l = [(0,a),(1,b),(3,c),(4,d),(6,e),(7,f),(16,F),(36,h),(37,i),(38,j),(39,k),(47,m)] := by intros; rfl
    refine R_nil (tr ..) ?_; clear tr
    refine then_n ?_
    refine cdt ?_
    refine at_seq rfl ?_
    refine rg rfl ?_
    refine Rq ?_
    have tr : ∀ a b c d e f g h i j k m n : AV, let l := lc_season_ok a b c d e f g h i j k m; trim ((4,n)::l) l = [(0,a),(1,b),(3,c),(4,n),(6,e),(7,f),(16,g),(36,h),(37,i),(38,j),(39,k),(47,m)] := by intros; rfl
    refine R_nil (tr ..) ?_; clear tr
    refine then_n ?_
    refine at_ret rfl ?_
    refine blk_r ?_
    refine then_r ?_
    first | (exfalso; omega) | (refine fpure ?_; refine ⟨?_, rfl⟩; rfl)
   ·
    try simp only [decide_eq_true_eq, decide_eq_false_iff_not, Bool.not_eq_true', Bool.not_eq_false', beq_iff_eq, beq_eq_false_iff_ne, ne_eq] at h3
    refine Ry ?_
    refine Rq ?_
    refine Ry ?_
    refine R_q rfl (by simp (disch := first | omega | (simp only [List.length_map, List.length_append, List.length_set, List.length_cons, List.length_nil]; omega)) only [go_sem, ↓reduceIte, Nat.reduceEqDiff, reduceCtorEq, q3]; rfl) ?_
    refine Ry ?_
    refine Rq ?_
    refine Rq ?_
    refine Rq ?_
    refine Rp_split (fun h4 => ?_) (fun h4 => ?_)
    ·
     try simp only [decide_eq_true_eq, decide_eq_false_iff_not, Bool.not_eq_true', Bool.not_eq_false', beq_iff_eq, beq_eq_false_iff_ne, ne_eq] at h4
     refine Rn ?_
     refine Rn ?_
     refine Rn ?_
     refine Rq ?_
     refine Rq ?_
     refine Rn ?_
     refine Rn ?_
     refine Rn ?_
     refine Rq ?_
     refine Rq ?_
     have tr : ∀ a b c d e f g h i j k m n o p q r s t u v w x y z A B C D E F : AV, let l := lc_season_ok a b c d e f g h i j k m; trim ((16,F)::(34,E)::(33,D)::(32,C)::(31,B)::(30,A)::(29,z)::(28,y)::(27,x)::(26,w)::(25,v)::(24,u)::(23,t)::(22,s)::(21,r)::(20,q)::(19,p)::(18,o)::(17,n)::l) l = [(0,a),(1,b),(3,c),(4,d),(6,e),(7,f),(16,F),(36,h),(37,i),(38,j),(39,k),(47,m)] := by intros; rfl
     refine R_nil (tr ..) ?_; clear tr
     refine then_n ?_
     refine cdt ?_
     refine at_seq rfl ?_
     refine rg rfl ?_
     refine Rq ?_
     have tr : ∀ a b c d e f g h i j k m n : AV, let l := lc_season_ok a b c d e f g h i j k m; trim ((4,n)::l) l = [(0,a),(1,b),(3,c),(4,n),(6,e),(7,f),(16,g),(36,h),(37,i),(38,j),(39,k),(47,m)] := by intros; rfl
     refine R_nil (tr ..) ?_; clear tr
     refine then_n ?_
     refine at_ret rfl ?_
     refine blk_r ?_
     refine then_r ?_
     first | (exfalso; omega) | (refine fpure ?_; refine ⟨?_, rfl⟩; rfl)
    ·
     try simp only [decide_eq_true_eq, decide_eq_false_iff_not, Bool.not_eq_true', Bool.not_eq_false', beq_iff_eq, beq_eq_false_iff_ne, ne_eq] at h4
     refine Ry ?_
     refine Rq ?_
     refine Ry ?_
     refine R_q rfl (by simp (disch := first | omega | (simp only [List.length_map, List.length_append, List.length_set, List.length_cons, List.length_nil]; omega)) only [go_sem, ↓reduceIte, Nat.reduceEqDiff, reduceCtorEq, q3]; rfl) ?_
     refine Ry ?_
     refine Rq ?_
     refine Rq ?_
     refine Rq ?_
     refine Rp_split (fun h5 => ?_) (fun h5 => ?_)
     ·
      try simp only [decide_eq_true_eq, decide_eq_false_iff_not, Bool.not_eq_true', Bool.not_eq_false', beq_iff_eq, beq_eq_false_iff_ne, ne_eq] at h5
      refine Rn ?_
      refine Rn ?_
      refine Rn ?_
      refine Rq ?_
      refine Rq ?_
      have tr : ∀ a b c d e f g h i j k m n o p q r s t u v w x y z A B C D E F : AV, let l := lc_season_ok a b c d e f g h i j k m; trim ((16,F)::(34,E)::(33,D)::(32,C)::(31,B)::(30,A)::(29,z)::(28,y)::(27,x)::(26,w)::(25,v)::(24,u)::(23,t)::(22,s)::(21,r)::(20,q)::(19,p)::(18,o)::(17,n)::l) l = [(0,a),(1,b),(3,c),(4,d),(6,e),(7,f),(16,F),(36,h),(37,i),(38,j),(39,k),(47,m)] := by intros; rfl
      refine R_nil (tr ..) ?_; clear tr
      refine then_n ?_
      refine cdt ?_
      refine at_seq rfl ?_
      refine rg rfl ?_
      refine Rq ?_
      have tr : ∀ a b c d e f g h i j k m n : AV, let l := lc_season_ok a b c d e f g h i j k m; trim ((4,n)::l) l = [(0,a),(1,b),(3,c),(4,n),(6,e),(7,f),(16,g),(36,h),(37,i),(38,j),(39,k),(47,m)] := by intros; rfl
      refine R_nil (tr ..) ?_; clear tr
      refine then_n ?_
      refine at_ret rfl ?_
      refine blk_r ?_
      refine then_r ?_
      first | (exfalso; omega) | (refine fpure ?_; refine ⟨?_, rfl⟩; rfl)
     ·
      try simp only [decide_eq_true_eq, decide_eq_false_iff_not, Bool.not_eq_true', Bool.not_eq_false', beq_iff_eq, beq_eq_false_iff_ne, ne_eq] at h5
      refine Ry ?_
      refine Rq ?_
      refine Ry ?_
      refine R_q rfl (by simp (disch := first | omega | (simp only [List.length_map, List.length_append, List.length_set, List.length_cons, List.length_nil]; omega)) only [go_sem, ↓reduceIte, Nat.reduceEqDiff, reduceCtorEq, q3]; rfl) ?_
      refine Ry ?_
      refine Rq ?_
      refine Rq ?_
      refine Rq ?_
      have tr : ∀ a b c d e f g h i j k m n o p q r s t u v w x y z A B C D E F : AV, let l := lc_season_ok a b c d e f g h i j k m; trim ((16,F)::(34,E)::(33,D)::(32,C)::(31,B)::(30,A)::(29,z)::(28,y)::(27,x)::(26,w)::(25,v)::(24,u)::(23,t)::(22,s)::(21,r)::(20,q)::(19,p)::(18,o)::(17,n)::l) l = [(0,a),(1,b),(3,c),(4,d),(6,e),(7,f),(16,F),(36,h),(37,i),(38,j),(39,k),(47,m)] := by intros; rfl
      refine R_nil (tr ..) ?_; clear tr
      refine then_n ?_
      refine cdd (fun h6 => ?_) (fun h6 => ?_)
      ·
       try simp only [decide_eq_true_eq, decide_eq_false_iff_not, Bool.not_eq_true', Bool.not_eq_false', beq_iff_eq, beq_eq_false_iff_ne, ne_eq] at h6
       refine at_seq rfl ?_
       refine rg rfl ?_
       refine Rq ?_
       have tr : ∀ a b c d e f g h i j k m n : AV, let l := lc_season_ok a b c d e f g h i j k m; trim ((4,n)::l) l = [(0,a),(1,b),(3,c),(4,n),(6,e),(7,f),(16,g),(36,h),(37,i),(38,j),(39,k),(47,m)] := by intros; rfl
       refine R_nil (tr ..) ?_; clear tr
       refine then_n ?_
       refine at_ret rfl ?_
       refine blk_r ?_
       refine then_r ?_
       first | (exfalso; omega) | (refine fpure ?_; refine ⟨?_, rfl⟩; rfl)
      ·
       try simp only [decide_eq_true_eq, decide_eq_false_iff_not, Bool.not_eq_true', Bool.not_eq_false', beq_iff_eq, beq_eq_false_iff_ne, ne_eq] at h6
       refine at_skip rfl ?_
       refine blk_n ?_
       refine then_n ?_
       refine at_seq rfl ?_
       refine at_seq rfl ?_
       refine rg rfl ?_
       refine Rq ?_
       refine R_q rfl (by simp (disch := first | omega | (simp only [List.length_map, List.length_append, List.length_set, List.length_cons, List.length_nil]; omega)) only [go_sem, ↓reduceIte, Nat.reduceEqDiff, reduceCtorEq, q3]; rfl) ?_
       refine Rq ?_
       refine Rq ?_
       have tr : ∀ a b c d e f g h i j k m n o p q : AV, let l := lc_season_ok a b c d e f g h i j k m; trim ((38,q)::(37,p)::(36,o)::(35,n)::l) l = [(0,a),(1,b),(3,c),(4,d),(6,e),(7,f),(16,g),(36,o),(37,p),(38,q),(39,k),(47,m)] := by intros; rfl
       refine R_nil (tr ..) ?_; clear tr
       refine then_n ?_
       refine at_block rfl ?_
       refine loop_n rfl (fun mm kv H' => ∃ u : Nat, ∃ x4 x6 x39 x47 : AV, (kv = [(4, x4), (6, x6), (38, AV.i u), (39, x39), (47, x47)]) ∧ (mm = gr.length - u) ∧ (u ≤ gr.length) ∧ (hget H' H.length = some (ssC first rest gr))) ⟨0, _, _, _, _, rfl, rfl, by omega, by exact q3⟩ (by rfl) ?_
       rintro mm kv HL ⟨u, x4, x6, x39, x47, rfl, rfl, hu, q3⟩
       have tr : ∀ a b c d e f g h i j k m n o p q r : AV, upd [(0,a),(1,b),(3,c),(4,d),(6,e),(7,f),(16,g),(36,h),(37,i),(38,j),(39,k),(47,m)] [(4,n),(6,o),(38,p),(39,q),(47,r)] = [(0,a),(1,b),(3,c),(4,n),(6,o),(7,f),(16,g),(36,h),(37,i),(38,p),(39,q),(47,r)] := by intros; rfl
       refine W_to (tr ..) ?_; clear tr
       refine at_seq rfl ?_
       refine rg rfl ?_
       refine Rq ?_
       have tr : ∀ a b c d e f g h i j k m n : AV, let l := lc_season_ok a b c d e f g h i j k m; trim ((39,n)::l) l = [(0,a),(1,b),(3,c),(4,d),(6,e),(7,f),(16,g),(36,h),(37,i),(38,j),(39,n),(47,m)] := by intros; rfl
       refine R_nil (tr ..) ?_; clear tr
       refine then_n ?_
       refine at_seq rfl ?_
       refine cdd (fun h7 => ?_) (fun h7 => ?_)
       ·
        try simp only [decide_eq_true_eq, decide_eq_false_iff_not, Bool.not_eq_true', Bool.not_eq_false', beq_iff_eq, beq_eq_false_iff_ne, ne_eq] at h7
        refine at_skip rfl ?_
        refine then_n ?_
        refine at_seq rfl ?_
        refine at_block rfl ?_
        refine at_seq rfl ?_
        refine rg rfl ?_
        refine Rq ?_
        have hgu := g4 u (by omega)
        refine R_q (r := AV.i (gt gr u)) rfl (by simp (disch := first | omega | (simp only [List.length_map, List.length_append, List.length_set, List.length_cons, List.length_nil]; omega)) only [go_sem, ↓reduceIte, Nat.reduceEqDiff, reduceCtorEq] <;> exact ints_at gr u (by omega)) ?_
        refine Rq ?_
        have tr : ∀ a b c d e f g h i j k m n o p : AV, let l := lc_season_ok a b c d e f g h i j k m; trim ((6,p)::(41,o)::(40,n)::l) l = [(0,a),(1,b),(3,c),(4,d),(6,p),(7,f),(16,g),(36,h),(37,i),(38,j),(39,k),(47,m)] := by intros; rfl
        refine R_nil (tr ..) ?_; clear tr
        refine then_n ?_
        refine at_seq rfl ?_
        refine rg rfl ?_
        refine Rq ?_
        refine Rq ?_
        refine Rq ?_
        refine Rp_split (fun h8 => ?_) (fun h8 => ?_)
        ·
         try simp only [decide_eq_true_eq, decide_eq_false_iff_not, Bool.not_eq_true', Bool.not_eq_false', beq_iff_eq, beq_eq_false_iff_ne, ne_eq] at h8
         refine Rn ?_
         refine Rn ?_
         refine Rq ?_
         have tr : ∀ a b c d e f g h i j k m n o p q r s : AV, let l := lc_season_ok a b c d e f g h i j k m; trim ((47,s)::(46,r)::(45,q)::(44,p)::(43,o)::(42,n)::l) l = [(0,a),(1,b),(3,c),(4,d),(6,e),(7,f),(16,g),(36,h),(37,i),(38,j),(39,k),(47,s)] := by intros; rfl
         refine R_nil (tr ..) ?_; clear tr
         refine then_n ?_
         refine cdt ?_
         refine at_seq rfl ?_
         refine rg rfl ?_
         refine Rq ?_
         have tr : ∀ a b c d e f g h i j k m n : AV, let l := lc_season_ok a b c d e f g h i j k m; trim ((4,n)::l) l = [(0,a),(1,b),(3,c),(4,n),(6,e),(7,f),(16,g),(36,h),(37,i),(38,j),(39,k),(47,m)] := by intros; rfl
         refine R_nil (tr ..) ?_; clear tr
         refine then_n ?_
         refine at_ret rfl ?_
         refine blk_r ?_
         refine then_r ?_
         refine then_r ?_
         refine blk_r ?_
         refine then_r ?_
         first | (exfalso; omega) | (refine fpure ?_; refine ⟨?_, rfl⟩; rfl)
        ·
         try simp only [decide_eq_true_eq, decide_eq_false_iff_not, Bool.not_eq_true', Bool.not_eq_false', beq_iff_eq, beq_eq_false_iff_ne, ne_eq] at h8
         refine Ry ?_
         refine Rq ?_
         refine Ry ?_
         refine Rq ?_
         refine Rq ?_
         have tr : ∀ a b c d e f g h i j k m n o p q r s : AV, let l := lc_season_ok a b c d e f g h i j k m; trim ((47,s)::(46,r)::(45,q)::(44,p)::(43,o)::(42,n)::l) l = [(0,a),(1,b),(3,c),(4,d),(6,e),(7,f),(16,g),(36,h),(37,i),(38,j),(39,k),(47,s)] := by intros; rfl
         refine R_nil (tr ..) ?_; clear tr
         refine then_n ?_
         refine cdd (fun h9 => ?_) (fun h9 => ?_)
         ·
          try simp only [decide_eq_true_eq, decide_eq_false_iff_not, Bool.not_eq_true', Bool.not_eq_false', beq_iff_eq, beq_eq_false_iff_ne, ne_eq] at h9
          refine at_seq rfl ?_
          refine rg rfl ?_
          refine Rq ?_
          have tr : ∀ a b c d e f g h i j k m n : AV, let l := lc_season_ok a b c d e f g h i j k m; trim ((4,n)::l) l = [(0,a),(1,b),(3,c),(4,n),(6,e),(7,f),(16,g),(36,h),(37,i),(38,j),(39,k),(47,m)] := by intros; rfl
          refine R_nil (tr ..) ?_; clear tr
          refine then_n ?_
          refine at_ret rfl ?_
          refine blk_r ?_
          refine then_r ?_
          refine then_r ?_
          refine blk_r ?_
          refine then_r ?_
          first | (exfalso; omega) | (refine fpure ?_; refine ⟨?_, rfl⟩; rfl)
         ·
          try simp only [decide_eq_true_eq, decide_eq_false_iff_not, Bool.not_eq_true', Bool.not_eq_false', beq_iff_eq, beq_eq_false_iff_ne, ne_eq] at h9
          refine at_skip rfl ?_
          refine blk_n ?_
          refine then_n ?_
          refine rg rfl ?_
          refine Rq ?_
          refine Rq ?_
          have tr : ∀ a b c d e f g h i j k m n o : AV, let l := lc_season_ok a b c d e f g h i j k m; trim ((38,o)::(48,n)::l) l = [(0,a),(1,b),(3,c),(4,d),(6,e),(7,f),(16,g),(36,h),(37,i),(38,o),(39,k),(47,m)] := by intros; rfl
          refine R_nil (tr ..) ?_; clear tr
          refine then_n ?_
          exact ⟨_, _, ⟨u + 1, _, _, _, _, rfl, rfl, by omega, by exact q3⟩, by rfl, by omega⟩
       ·
        try simp only [decide_eq_true_eq, decide_eq_false_iff_not, Bool.not_eq_true', Bool.not_eq_false', beq_iff_eq, beq_eq_false_iff_ne, ne_eq] at h7
        refine at_exit rfl ?_
        refine then_x ?_
        refine then_x ?_
        refine blk_x ?_
        refine then_n ?_
        refine at_seq rfl ?_
        refine rg rfl ?_
        refine Rq ?_
        have tr : ∀ a b c d e f g h i j k m n : AV, let l := lc_season_ok a b c d e f g h i j k m; trim ((4,n)::l) l = [(0,a),(1,b),(3,c),(4,n),(6,e),(7,f),(16,g),(36,h),(37,i),(38,j),(39,k),(47,m)] := by intros; rfl
        refine R_nil (tr ..) ?_; clear tr
        refine then_n ?_
        refine at_ret rfl ?_
        first | (exfalso; omega) | (refine fpure ?_; refine ⟨?_, rfl⟩; rfl)

end Go.Proofs.Ytkjgmpjnhfmecaa
