/-
  Texts of AttackCosts, part 13 of 17. Walks of chapters 46, 43 and 42. The steps are written by program (walk.py).
-/
import Derived.Test.YtplockpopmaejaaKAttackCosts5
import Derived.Test.YtplockpopmaejaaKAttackCosts6
import Derived.Test.YtplockpopmaejaaKAttackCosts11
section
set_option linter.unusedSimpArgs false
set_option linter.unusedVariables false
set_option maxHeartbeats 40000000
set_option maxRecDepth 4000
namespace Go.Proofs.Ytplockpopmaejaa
open Go Go.Am

abbrev lc_most_ok43 (a b c d e f g h i j : AV) : Env := [(0,a),(2,b),(3,c),(4,d),(5,e),(6,f),(7,g),(8,h),(9,i),(39,j)]
theorem most_ok43 (lim : Nat) (H : Heap) (d : List Oc) (hd : d.length ≤ 1000) : ACall sig lim 43 [ocsAV d] H fun r H' => r = AV.i (mostU d d.length) ∧ H' = H := by
 refine ACall_pure (fa := fa43) rfl rfl rfl rfl ?_
 have tr : ∀ a0 : AV, env0 fa43.keep [a0] = [(0,a0),(2,.any),(3,.any),(4,.any),(5,.any),(6,.any),(7,.any),(8,.any),(9,.any),(39,.any)] := fun a0 => rfl
 refine W_to (tr _) ?_; clear tr
 refine at_seq rfl ?_
 refine rg rfl ?_
 refine Rq ?_
 have tr : ∀ a b c d e f g h i j k : AV, let l := lc_most_ok43 a b c d e f g h i j; trim ((2,k)::l) l = [(0,a),(2,k),(3,c),(4,d),(5,e),(6,f),(7,g),(8,h),(9,i),(39,j)] := by intros; rfl
 refine R_nil (tr ..) ?_; clear tr
 refine then_n ?_
 refine at_seq rfl ?_
 refine rg rfl ?_
 refine Rq ?_
 have tr : ∀ a b c d e f g h i j k : AV, let l := lc_most_ok43 a b c d e f g h i j; trim ((3,k)::l) l = [(0,a),(2,b),(3,k),(4,d),(5,e),(6,f),(7,g),(8,h),(9,i),(39,j)] := by intros; rfl
 refine R_nil (tr ..) ?_; clear tr
 refine then_n ?_
 refine at_seq rfl ?_
 refine at_seq rfl ?_
 refine rg rfl ?_
 refine Rq ?_
 refine Rq ?_
 refine Rq ?_
 have tr : ∀ a b c d e f g h i j k m n : AV, let l := lc_most_ok43 a b c d e f g h i j; trim ((8,n)::(7,m)::(6,k)::l) l = [(0,a),(2,b),(3,c),(4,d),(5,e),(6,k),(7,m),(8,n),(9,i),(39,j)] := by intros; rfl
 refine R_nil (tr ..) ?_; clear tr
 refine then_n ?_
 refine at_block rfl ?_
 refine loop_n rfl (fun mm kv H' => ∃ u : Nat, ∃ n : Int, ∃ X : Heap, ∃ x4 x5 x9 x39 : AV, (kv = [(3, AV.i n), (4, x4), (5, x5), (8, AV.i u), (9, x9), (39, x39)]) ∧ (mm = d.length - u) ∧ (H' = H ++ X) ∧ (u ≤ d.length) ∧ (n = mostU d u)) ⟨0, -1, [], _, _, _, _, rfl, rfl, by simp, by omega, by rfl⟩ (by rfl) ?_
 rintro mm kv H1 ⟨u, n, X, x4, x5, x9, x39, rfl, rfl, hX, hu, hn⟩
 have tr : ∀ a b c d e f g h i j k m n o p q : AV, upd [(0,a),(2,b),(3,c),(4,d),(5,e),(6,f),(7,g),(8,h),(9,i),(39,j)] [(3,k),(4,m),(5,n),(8,o),(9,p),(39,q)] = [(0,a),(2,b),(3,k),(4,m),(5,n),(6,f),(7,g),(8,o),(9,p),(39,q)] := by intros; rfl
 refine W_to (tr ..) ?_; clear tr
 subst hX
 have hbx := most_box d u
 refine at_seq rfl ?_
 refine rg rfl ?_
 refine Rq ?_
 have tr : ∀ a b c d e f g h i j k : AV, let l := lc_most_ok43 a b c d e f g h i j; trim ((9,k)::l) l = [(0,a),(2,b),(3,c),(4,d),(5,e),(6,f),(7,g),(8,h),(9,k),(39,j)] := by intros; rfl
 refine R_nil (tr ..) ?_; clear tr
 refine then_n ?_
 refine at_seq rfl ?_
 refine cdd (fun h1 => ?_) (fun h1 => ?_)
 ·
  try simp only [decide_eq_true_eq, decide_eq_false_iff_not, Bool.not_eq_true', Bool.not_eq_false', beq_iff_eq, beq_eq_false_iff_ne, ne_eq] at h1
  refine at_skip rfl ?_
  refine then_n ?_
  refine at_seq rfl ?_
  refine at_block rfl ?_
  refine at_seq rfl ?_
  refine rg rfl ?_
  refine Rq ?_
  refine Rq ?_
  refine Rq ?_
  refine R_alloc (by simp (disch := first | omega | (simp only [List.length_map, List.length_append, List.length_set, List.length_cons, List.length_nil]; omega)) only [go_sem, ↓reduceIte, Nat.reduceEqDiff, reduceCtorEq] <;> rfl) rfl (by simp only [List.map_cons, List.map_nil]; rfl) ?_
  refine Rq ?_
  refine R_store ty68 (by simp (disch := first | omega | (simp only [List.length_map, List.length_append, List.length_set, List.length_cons, List.length_nil]; omega)) only [go_sem, ↓reduceIte, Nat.reduceEqDiff, reduceCtorEq] <;> rfl) (by simp (disch := first | omega | (simp only [List.length_map, List.length_append, List.length_set, List.length_cons, List.length_nil]; omega)) only [go_sem, ↓reduceIte, Nat.reduceEqDiff, reduceCtorEq] <;> rfl) (by simp (disch := first | omega | (simp only [List.length_map, List.length_append, List.length_set, List.length_cons, List.length_nil]; omega)) only [go_sem, ↓reduceIte, Nat.reduceEqDiff, reduceCtorEq] <;> rfl) (by simp) (by rfl) (by simp (disch := first | omega | (simp only [List.length_map, List.length_append, List.length_set, List.length_cons, List.length_nil]; omega)) only [go_sem, ↓reduceIte, Nat.reduceEqDiff, reduceCtorEq] <;> rfl) ?_
  have tr : ∀ a b c d e f g h i j k m n o p : AV, let l := lc_most_ok43 a b c d e f g h i j; trim ((4,p)::(5,o)::(12,n)::(11,m)::(10,k)::l) l = [(0,a),(2,b),(3,c),(4,p),(5,o),(6,f),(7,g),(8,h),(9,i),(39,j)] := by intros; rfl
  refine R_nil (tr ..) ?_; clear tr
  refine then_n ?_
  refine at_seq rfl ?_
  refine rd rfl rfl ?_
  refine Qq ?_
  refine Qq ?_
  refine Qq ?_
  refine Qq ?_
  refine Qp_split (fun h2 => ?_) (fun h2 => ?_)
  ·
   try simp only [decide_eq_true_eq, decide_eq_false_iff_not, Bool.not_eq_true', Bool.not_eq_false', beq_iff_eq, beq_eq_false_iff_ne, ne_eq] at h2
   refine Qy ?_
   refine Qq ?_
   refine Qy ?_
   refine Qq ?_
   refine Qy ?_
   refine Qq ?_
   refine Qq ?_
   refine Qq ?_
   refine Qp_split (fun h3 => ?_) (fun h3 => ?_)
   ·
    try simp only [decide_eq_true_eq, decide_eq_false_iff_not, Bool.not_eq_true', Bool.not_eq_false', beq_iff_eq, beq_eq_false_iff_ne, ne_eq] at h3
    refine Qy ?_
    refine Qq ?_
    refine Qy ?_
    refine Qq ?_
    refine Qy ?_
    refine Qq ?_
    refine Qq ?_
    refine Qq ?_
    refine Qp_split (fun h4 => ?_) (fun h4 => ?_)
    ·
     try simp only [decide_eq_true_eq, decide_eq_false_iff_not, Bool.not_eq_true', Bool.not_eq_false', beq_iff_eq, beq_eq_false_iff_ne, ne_eq] at h4
     refine Qy ?_
     refine Qq ?_
     refine Qy ?_
     refine Qq ?_
     refine Qy ?_
     refine Qq ?_
     refine Qp_split (fun h5 => ?_) (fun h5 => ?_)
     ·
      try simp only [decide_eq_true_eq, decide_eq_false_iff_not, Bool.not_eq_true', Bool.not_eq_false', beq_iff_eq, beq_eq_false_iff_ne, ne_eq] at h5
      refine Qn ?_
      refine Qn ?_
      refine Qn ?_
      refine Qn ?_
      refine Qn ?_
      refine Qn ?_
      refine Qn ?_
      refine Qn ?_
      refine Qy ?_
      refine Qq ?_
      refine Qq ?_
      refine Q_nil ?_
      have tr : ∀ a b c d e f g h i j k m n o p q r s t u v w x y z A B C D E F G H I J K L : AV, let l := lc_most_ok43 a b c d e f g h i j; trim ((39,L)::(38,K)::(37,J)::(36,I)::(35,H)::(34,G)::(33,F)::(32,E)::(31,D)::(30,C)::(29,B)::(28,A)::(27,z)::(26,y)::(25,x)::(24,w)::(23,v)::(22,u)::(21,t)::(20,s)::(19,r)::(18,q)::(17,p)::(16,o)::(15,n)::(14,m)::(13,k)::l) l = [(0,a),(2,b),(3,c),(4,d),(5,e),(6,f),(7,g),(8,h),(9,i),(39,L)] := by intros; rfl
      refine R_nil (tr ..) ?_; clear tr
      refine then_n ?_
      refine cdt ?_
      refine rg rfl ?_
      refine Rq ?_
      refine Rq ?_
      have tr : ∀ a b c d e f g h i j k m : AV, let l := lc_most_ok43 a b c d e f g h i j; trim ((3,m)::(40,k)::l) l = [(0,a),(2,b),(3,m),(4,d),(5,e),(6,f),(7,g),(8,h),(9,i),(39,j)] := by intros; rfl
      refine R_nil (tr ..) ?_; clear tr
      refine blk_n ?_
      refine then_n ?_
      refine rg rfl ?_
      refine Rq ?_
      refine Rq ?_
      have tr : ∀ a b c d e f g h i j k m : AV, let l := lc_most_ok43 a b c d e f g h i j; trim ((8,m)::(41,k)::l) l = [(0,a),(2,b),(3,c),(4,d),(5,e),(6,f),(7,g),(8,m),(9,i),(39,j)] := by intros; rfl
      refine R_nil (tr ..) ?_; clear tr
      refine then_n ?_
      exact ⟨_, _, ⟨u + 1, _, X ++ [some (ocC (gt d u))], _, _, _, _, rfl, rfl, by simp; rfl, by omega, by first | exact most_T hn (by simp_all) (by omega) (by omega) (by omega) | exact most_F hn (by rintro ⟨a1, a2, a3, a4⟩; first | omega | (simp_all; done) | (simp_all; omega))⟩, by rfl, by omega⟩
     ·
      try simp only [decide_eq_true_eq, decide_eq_false_iff_not, Bool.not_eq_true', Bool.not_eq_false', beq_iff_eq, beq_eq_false_iff_ne, ne_eq] at h5
      refine Qy ?_
      refine Qq ?_
      refine Qy ?_
      refine Qq ?_
      refine Qy ?_
      refine Qq ?_
      refine Qy ?_
      refine Qq ?_
      refine Qy ?_
      refine Qq ?_
      refine Qy ?_
      refine Qq ?_
      refine Qy ?_
      refine Qq ?_
      refine Qy ?_
      refine Qq ?_
      refine Qy ?_
      refine Qq ?_
      refine Qq ?_
      refine Q_nil ?_
      have tr : ∀ a b c d e f g h i j k m n o p q r s t u v w x y z A B C D E F G H I J K L : AV, let l := lc_most_ok43 a b c d e f g h i j; trim ((39,L)::(38,K)::(37,J)::(36,I)::(35,H)::(34,G)::(33,F)::(32,E)::(31,D)::(30,C)::(29,B)::(28,A)::(27,z)::(26,y)::(25,x)::(24,w)::(23,v)::(22,u)::(21,t)::(20,s)::(19,r)::(18,q)::(17,p)::(16,o)::(15,n)::(14,m)::(13,k)::l) l = [(0,a),(2,b),(3,c),(4,d),(5,e),(6,f),(7,g),(8,h),(9,i),(39,L)] := by intros; rfl
      refine R_nil (tr ..) ?_; clear tr
      refine then_n ?_
      refine cdd (fun h6 => ?_) (fun h6 => ?_)
      ·
       try simp only [decide_eq_true_eq, decide_eq_false_iff_not, Bool.not_eq_true', Bool.not_eq_false', beq_iff_eq, beq_eq_false_iff_ne, ne_eq] at h6
       refine rg rfl ?_
       refine Rq ?_
       refine Rq ?_
       have tr : ∀ a b c d e f g h i j k m : AV, let l := lc_most_ok43 a b c d e f g h i j; trim ((3,m)::(40,k)::l) l = [(0,a),(2,b),(3,m),(4,d),(5,e),(6,f),(7,g),(8,h),(9,i),(39,j)] := by intros; rfl
       refine R_nil (tr ..) ?_; clear tr
       refine blk_n ?_
       refine then_n ?_
       refine rg rfl ?_
       refine Rq ?_
       refine Rq ?_
       have tr : ∀ a b c d e f g h i j k m : AV, let l := lc_most_ok43 a b c d e f g h i j; trim ((8,m)::(41,k)::l) l = [(0,a),(2,b),(3,c),(4,d),(5,e),(6,f),(7,g),(8,m),(9,i),(39,j)] := by intros; rfl
       refine R_nil (tr ..) ?_; clear tr
       refine then_n ?_
       exact ⟨_, _, ⟨u + 1, _, X ++ [some (ocC (gt d u))], _, _, _, _, rfl, rfl, by simp; rfl, by omega, by first | exact most_T hn (by simp_all) (by omega) (by omega) (by omega) | exact most_F hn (by rintro ⟨a1, a2, a3, a4⟩; first | omega | (simp_all; done) | (simp_all; omega))⟩, by rfl, by omega⟩
      ·
       try simp only [decide_eq_true_eq, decide_eq_false_iff_not, Bool.not_eq_true', Bool.not_eq_false', beq_iff_eq, beq_eq_false_iff_ne, ne_eq] at h6
       refine at_skip rfl ?_
       refine blk_n ?_
       refine then_n ?_
       refine rg rfl ?_
       refine Rq ?_
       refine Rq ?_
       have tr : ∀ a b c d e f g h i j k m : AV, let l := lc_most_ok43 a b c d e f g h i j; trim ((8,m)::(41,k)::l) l = [(0,a),(2,b),(3,c),(4,d),(5,e),(6,f),(7,g),(8,m),(9,i),(39,j)] := by intros; rfl
       refine R_nil (tr ..) ?_; clear tr
       refine then_n ?_
       exact ⟨_, _, ⟨u + 1, _, X ++ [some (ocC (gt d u))], _, _, _, _, rfl, rfl, by simp; rfl, by omega, by first | exact most_T hn (by simp_all) (by omega) (by omega) (by omega) | exact most_F hn (by rintro ⟨a1, a2, a3, a4⟩; first | omega | (simp_all; done) | (simp_all; omega))⟩, by rfl, by omega⟩
    ·
     try simp only [decide_eq_true_eq, decide_eq_false_iff_not, Bool.not_eq_true', Bool.not_eq_false', beq_iff_eq, beq_eq_false_iff_ne, ne_eq] at h4
     refine Qn ?_
     refine Qn ?_
     refine Qn ?_
     refine Qu ?_
     refine Qu ?_
     refine Qu ?_
     refine Qu ?_
     refine Qu ?_
     refine Qu ?_
     refine Qu ?_
     refine Qu ?_
     refine Qn ?_
     refine Qq ?_
     refine Q_nil ?_
     have tr : ∀ a b c d e f g h i j k m n o p q r s t u v w x y z A B C D E F G H I J K L : AV, let l := lc_most_ok43 a b c d e f g h i j; trim ((39,L)::(38,K)::(37,J)::(36,I)::(35,H)::(34,G)::(33,F)::(32,E)::(31,D)::(30,C)::(29,B)::(28,A)::(27,z)::(26,y)::(25,x)::(24,w)::(23,v)::(22,u)::(21,t)::(20,s)::(19,r)::(18,q)::(17,p)::(16,o)::(15,n)::(14,m)::(13,k)::l) l = [(0,a),(2,b),(3,c),(4,d),(5,e),(6,f),(7,g),(8,h),(9,i),(39,L)] := by intros; rfl
     refine R_nil (tr ..) ?_; clear tr
     refine then_n ?_
     refine cdf ?_
     refine at_skip rfl ?_
     refine blk_n ?_
     refine then_n ?_
     refine rg rfl ?_
     refine Rq ?_
     refine Rq ?_
     have tr : ∀ a b c d e f g h i j k m : AV, let l := lc_most_ok43 a b c d e f g h i j; trim ((8,m)::(41,k)::l) l = [(0,a),(2,b),(3,c),(4,d),(5,e),(6,f),(7,g),(8,m),(9,i),(39,j)] := by intros; rfl
     refine R_nil (tr ..) ?_; clear tr
     refine then_n ?_
     exact ⟨_, _, ⟨u + 1, _, X ++ [some (ocC (gt d u))], _, _, _, _, rfl, rfl, by simp; rfl, by omega, by first | exact most_T hn (by simp_all) (by omega) (by omega) (by omega) | exact most_F hn (by rintro ⟨a1, a2, a3, a4⟩; first | omega | (simp_all; done) | (simp_all; omega))⟩, by rfl, by omega⟩
   ·
    try simp only [decide_eq_true_eq, decide_eq_false_iff_not, Bool.not_eq_true', Bool.not_eq_false', beq_iff_eq, beq_eq_false_iff_ne, ne_eq] at h3
    refine Qn ?_
    refine Qn ?_
    refine Qn ?_
    refine Qq ?_
    refine Qq ?_
    refine Qn ?_
    refine Qn ?_
    refine Qn ?_
    refine Qu ?_
    refine Qu ?_
    refine Qu ?_
    refine Qu ?_
    refine Qu ?_
    refine Qu ?_
    refine Qu ?_
    refine Qu ?_
    refine Qn ?_
    refine Qq ?_
    refine Q_nil ?_
    have tr : ∀ a b c d e f g h i j k m n o p q r s t u v w x y z A B C D E F G H I J K L : AV, let l := lc_most_ok43 a b c d e f g h i j; trim ((39,L)::(38,K)::(37,J)::(36,I)::(35,H)::(34,G)::(33,F)::(32,E)::(31,D)::(30,C)::(29,B)::(28,A)::(27,z)::(26,y)::(25,x)::(24,w)::(23,v)::(22,u)::(21,t)::(20,s)::(19,r)::(18,q)::(17,p)::(16,o)::(15,n)::(14,m)::(13,k)::l) l = [(0,a),(2,b),(3,c),(4,d),(5,e),(6,f),(7,g),(8,h),(9,i),(39,L)] := by intros; rfl
    refine R_nil (tr ..) ?_; clear tr
    refine then_n ?_
    refine cdf ?_
    refine at_skip rfl ?_
    refine blk_n ?_
    refine then_n ?_
    refine rg rfl ?_
    refine Rq ?_
    refine Rq ?_
    have tr : ∀ a b c d e f g h i j k m : AV, let l := lc_most_ok43 a b c d e f g h i j; trim ((8,m)::(41,k)::l) l = [(0,a),(2,b),(3,c),(4,d),(5,e),(6,f),(7,g),(8,m),(9,i),(39,j)] := by intros; rfl
    refine R_nil (tr ..) ?_; clear tr
    refine then_n ?_
    exact ⟨_, _, ⟨u + 1, _, X ++ [some (ocC (gt d u))], _, _, _, _, rfl, rfl, by simp; rfl, by omega, by first | exact most_T hn (by simp_all) (by omega) (by omega) (by omega) | exact most_F hn (by rintro ⟨a1, a2, a3, a4⟩; first | omega | (simp_all; done) | (simp_all; omega))⟩, by rfl, by omega⟩
  ·
   try simp only [decide_eq_true_eq, decide_eq_false_iff_not, Bool.not_eq_true', Bool.not_eq_false', beq_iff_eq, beq_eq_false_iff_ne, ne_eq] at h2
   refine Qn ?_
   refine Qn ?_
   refine Qn ?_
   refine Qq ?_
   refine Qq ?_
   refine Qn ?_
   refine Qn ?_
   refine Qn ?_
   refine Qq ?_
   refine Qq ?_
   refine Qn ?_
   refine Qn ?_
   refine Qn ?_
   refine Qu ?_
   refine Qu ?_
   refine Qu ?_
   refine Qu ?_
   refine Qu ?_
   refine Qu ?_
   refine Qu ?_
   refine Qu ?_
   refine Qn ?_
   refine Qq ?_
   refine Q_nil ?_
   have tr : ∀ a b c d e f g h i j k m n o p q r s t u v w x y z A B C D E F G H I J K L : AV, let l := lc_most_ok43 a b c d e f g h i j; trim ((39,L)::(38,K)::(37,J)::(36,I)::(35,H)::(34,G)::(33,F)::(32,E)::(31,D)::(30,C)::(29,B)::(28,A)::(27,z)::(26,y)::(25,x)::(24,w)::(23,v)::(22,u)::(21,t)::(20,s)::(19,r)::(18,q)::(17,p)::(16,o)::(15,n)::(14,m)::(13,k)::l) l = [(0,a),(2,b),(3,c),(4,d),(5,e),(6,f),(7,g),(8,h),(9,i),(39,L)] := by intros; rfl
   refine R_nil (tr ..) ?_; clear tr
   refine then_n ?_
   refine cdf ?_
   refine at_skip rfl ?_
   refine blk_n ?_
   refine then_n ?_
   refine rg rfl ?_
   refine Rq ?_
   refine Rq ?_
   have tr : ∀ a b c d e f g h i j k m : AV, let l := lc_most_ok43 a b c d e f g h i j; trim ((8,m)::(41,k)::l) l = [(0,a),(2,b),(3,c),(4,d),(5,e),(6,f),(7,g),(8,m),(9,i),(39,j)] := by intros; rfl
   refine R_nil (tr ..) ?_; clear tr
   refine then_n ?_
   exact ⟨_, _, ⟨u + 1, _, X ++ [some (ocC (gt d u))], _, _, _, _, rfl, rfl, by simp; rfl, by omega, by first | exact most_T hn (by simp_all) (by omega) (by omega) (by omega) | exact most_F hn (by rintro ⟨a1, a2, a3, a4⟩; first | omega | (simp_all; done) | (simp_all; omega))⟩, by rfl, by omega⟩
 ·
  try simp only [decide_eq_true_eq, decide_eq_false_iff_not, Bool.not_eq_true', Bool.not_eq_false', beq_iff_eq, beq_eq_false_iff_ne, ne_eq] at h1
  refine at_exit rfl ?_
  refine then_x ?_
  refine then_x ?_
  refine blk_x ?_
  refine then_n ?_
  refine at_seq rfl ?_
  refine rg rfl ?_
  refine Rq ?_
  refine Rq ?_
  have tr : ∀ a b c d e f g h i j k m : AV, let l := lc_most_ok43 a b c d e f g h i j; trim ((2,m)::(42,k)::l) l = [(0,a),(2,m),(3,c),(4,d),(5,e),(6,f),(7,g),(8,h),(9,i),(39,j)] := by intros; rfl
  refine R_nil (tr ..) ?_; clear tr
  refine then_n ?_
  refine at_ret rfl ?_
  refine fpure ?_
  refine ⟨?_, rfl⟩
  rw [hn, show u = d.length by omega]

abbrev lc_dot_ok45 (a b c d e f g h i j : AV) : Env := [(0,a),(1,b),(4,c),(5,d),(6,e),(7,f),(8,g),(9,h),(10,i),(27,j)]
theorem dot_ok45 (lim : Nat) (H : Heap) (d : List Oc) (k : Bool) (hd : d.length ≤ 1000) : ACall sig lim 45 [ocsAV d, .v (.bool k)] H fun r H' => r = AV.i (dotI d k) ∧ H' = H := by
 refine ACall_pure (fa := fa45) rfl rfl rfl rfl ?_
 have tr : ∀ a0 a1 : AV, env0 fa45.keep [a0, a1] = [(0,a0),(1,a1),(4,.any),(5,.any),(6,.any),(7,.any),(8,.any),(9,.any),(10,.any),(27,.any)] := fun a0 a1 => rfl
 refine W_to (tr _ _) ?_; clear tr
 refine at_seq rfl ?_
 refine rg rfl ?_
 refine Rq ?_
 have tr : ∀ a b c d e f g h i j k : AV, let l := lc_dot_ok45 a b c d e f g h i j; trim ((4,k)::l) l = [(0,a),(1,b),(4,k),(5,d),(6,e),(7,f),(8,g),(9,h),(10,i),(27,j)] := by intros; rfl
 refine R_nil (tr ..) ?_; clear tr
 refine then_n ?_
 refine at_seq rfl ?_
 refine at_seq rfl ?_
 refine rg rfl ?_
 refine Rq ?_
 refine Rq ?_
 refine Rq ?_
 have tr : ∀ a b c d e f g h i j k m n : AV, let l := lc_dot_ok45 a b c d e f g h i j; trim ((9,n)::(8,m)::(7,k)::l) l = [(0,a),(1,b),(4,c),(5,d),(6,e),(7,k),(8,m),(9,n),(10,i),(27,j)] := by intros; rfl
 refine R_nil (tr ..) ?_; clear tr
 refine then_n ?_
 refine at_block rfl ?_
 refine loop_n rfl (fun mm kv H' => ∃ u : Nat, ∃ X : Heap, ∃ x4 x5 x6 x10 x27 : AV, (kv = [(4, x4), (5, x5), (6, x6), (9, AV.i u), (10, x10), (27, x27)]) ∧ (mm = d.length - u) ∧ (H' = H ++ X) ∧ (u ≤ d.length) ∧ (∀ i, i < u → (fun i => decide ((gt d i).r = 0) && ((gt d i).k == k) && decide (0 < (gt d i).w)) i = false)) ⟨0, [], _, _, _, _, _, rfl, rfl, by simp, by omega, by intro i hi; omega⟩ (by rfl) ?_
 rintro mm kv H1 ⟨u, X, x4, x5, x6, x10, x27, rfl, rfl, hX, hu, hk⟩
 have tr : ∀ a b c d e f g h i j k m n o p q : AV, upd [(0,a),(1,b),(4,c),(5,d),(6,e),(7,f),(8,g),(9,h),(10,i),(27,j)] [(4,k),(5,m),(6,n),(9,o),(10,p),(27,q)] = [(0,a),(1,b),(4,k),(5,m),(6,n),(7,f),(8,g),(9,o),(10,p),(27,q)] := by intros; rfl
 refine W_to (tr ..) ?_; clear tr
 subst hX
 refine at_seq rfl ?_
 refine rg rfl ?_
 refine Rq ?_
 have tr : ∀ a b c d e f g h i j k : AV, let l := lc_dot_ok45 a b c d e f g h i j; trim ((10,k)::l) l = [(0,a),(1,b),(4,c),(5,d),(6,e),(7,f),(8,g),(9,h),(10,k),(27,j)] := by intros; rfl
 refine R_nil (tr ..) ?_; clear tr
 refine then_n ?_
 refine at_seq rfl ?_
 refine cdd (fun h1 => ?_) (fun h1 => ?_)
 ·
  try simp only [decide_eq_true_eq, decide_eq_false_iff_not, Bool.not_eq_true', Bool.not_eq_false', beq_iff_eq, beq_eq_false_iff_ne, ne_eq] at h1
  refine at_skip rfl ?_
  refine then_n ?_
  refine at_seq rfl ?_
  refine at_block rfl ?_
  refine at_seq rfl ?_
  refine rg rfl ?_
  refine Rq ?_
  refine Rq ?_
  refine Rq ?_
  refine R_alloc (by simp (disch := first | omega | (simp only [List.length_map, List.length_append, List.length_set, List.length_cons, List.length_nil]; omega)) only [go_sem, ↓reduceIte, Nat.reduceEqDiff, reduceCtorEq] <;> rfl) rfl (by simp only [List.map_cons, List.map_nil]; rfl) ?_
  refine Rq ?_
  refine R_store ty68 (by simp (disch := first | omega | (simp only [List.length_map, List.length_append, List.length_set, List.length_cons, List.length_nil]; omega)) only [go_sem, ↓reduceIte, Nat.reduceEqDiff, reduceCtorEq] <;> rfl) (by simp (disch := first | omega | (simp only [List.length_map, List.length_append, List.length_set, List.length_cons, List.length_nil]; omega)) only [go_sem, ↓reduceIte, Nat.reduceEqDiff, reduceCtorEq] <;> rfl) (by simp (disch := first | omega | (simp only [List.length_map, List.length_append, List.length_set, List.length_cons, List.length_nil]; omega)) only [go_sem, ↓reduceIte, Nat.reduceEqDiff, reduceCtorEq] <;> rfl) (by simp) (by rfl) (by simp (disch := first | omega | (simp only [List.length_map, List.length_append, List.length_set, List.length_cons, List.length_nil]; omega)) only [go_sem, ↓reduceIte, Nat.reduceEqDiff, reduceCtorEq] <;> rfl) ?_
  have tr : ∀ a b c d e f g h i j k m n o p : AV, let l := lc_dot_ok45 a b c d e f g h i j; trim ((5,p)::(6,o)::(13,n)::(12,m)::(11,k)::l) l = [(0,a),(1,b),(4,c),(5,p),(6,o),(7,f),(8,g),(9,h),(10,i),(27,j)] := by intros; rfl
  refine R_nil (tr ..) ?_; clear tr
  refine then_n ?_
  refine at_seq rfl ?_
  refine rg rfl ?_
  refine Rq ?_
  refine Rq ?_
  refine Rq ?_
  refine Rq ?_
  refine Rp_split (fun h2 => ?_) (fun h2 => ?_)
  ·
   try simp only [decide_eq_true_eq, decide_eq_false_iff_not, Bool.not_eq_true', Bool.not_eq_false', beq_iff_eq, beq_eq_false_iff_ne, ne_eq] at h2
   refine Ry ?_
   refine Rq ?_
   refine Ry ?_
   refine Rq ?_
   refine Ry ?_
   refine Rq ?_
   refine Ry ?_
   refine Rq ?_
   refine Rq ?_
   refine Rq ?_
   refine Rp_split (fun h3 => ?_) (fun h3 => ?_)
   ·
    try simp only [decide_eq_true_eq, decide_eq_false_iff_not, Bool.not_eq_true', Bool.not_eq_false', beq_iff_eq, beq_eq_false_iff_ne, ne_eq] at h3
    refine Ry ?_
    refine Rq ?_
    refine Ry ?_
    refine Rq ?_
    refine Ry ?_
    refine Rq ?_
    refine Rq ?_
    have tr : ∀ a b c d e f g h i j k m n o p q r s t u v w x y : AV, let l := lc_dot_ok45 a b c d e f g h i j; trim ((27,y)::(26,x)::(25,w)::(24,v)::(23,u)::(22,t)::(21,s)::(20,r)::(19,q)::(18,p)::(17,o)::(16,n)::(15,m)::(14,k)::l) l = [(0,a),(1,b),(4,c),(5,d),(6,e),(7,f),(8,g),(9,h),(10,i),(27,y)] := by intros; rfl
    refine R_nil (tr ..) ?_; clear tr
    refine then_n ?_
    refine cdd (fun h4 => ?_) (fun h4 => ?_)
    ·
     try simp only [decide_eq_true_eq, decide_eq_false_iff_not, Bool.not_eq_true', Bool.not_eq_false', beq_iff_eq, beq_eq_false_iff_ne, ne_eq] at h4
     refine at_seq rfl ?_
     refine rg rfl ?_
     refine Rq ?_
     refine Rq ?_
     have tr : ∀ a b c d e f g h i j k m : AV, let l := lc_dot_ok45 a b c d e f g h i j; trim ((4,m)::(28,k)::l) l = [(0,a),(1,b),(4,m),(5,d),(6,e),(7,f),(8,g),(9,h),(10,i),(27,j)] := by intros; rfl
     refine R_nil (tr ..) ?_; clear tr
     refine then_n ?_
     refine at_ret rfl ?_
     refine blk_r ?_
     refine then_r ?_
     refine then_r ?_
     refine blk_r ?_
     refine then_r ?_
     refine fpure ?_
     refine ⟨?_, rfl⟩
     rw [dotI, fidx_hit (v := u) (by omega) hk (by first | (simp_all; done) | (simp_all; omega))]
    ·
     try simp only [decide_eq_true_eq, decide_eq_false_iff_not, Bool.not_eq_true', Bool.not_eq_false', beq_iff_eq, beq_eq_false_iff_ne, ne_eq] at h4
     refine at_skip rfl ?_
     refine blk_n ?_
     refine then_n ?_
     refine rg rfl ?_
     refine Rq ?_
     refine Rq ?_
     have tr : ∀ a b c d e f g h i j k m : AV, let l := lc_dot_ok45 a b c d e f g h i j; trim ((9,m)::(29,k)::l) l = [(0,a),(1,b),(4,c),(5,d),(6,e),(7,f),(8,g),(9,m),(10,i),(27,j)] := by intros; rfl
     refine R_nil (tr ..) ?_; clear tr
     refine then_n ?_
     exact ⟨_, _, ⟨u + 1, X ++ [some (ocC (gt d u))], _, _, _, _, _, rfl, rfl, by simp; rfl, by omega, by exact all_step hk (by first | (simp_all; done) | (simp_all; omega))⟩, by rfl, by omega⟩
   ·
    try simp only [decide_eq_true_eq, decide_eq_false_iff_not, Bool.not_eq_true', Bool.not_eq_false', beq_iff_eq, beq_eq_false_iff_ne, ne_eq] at h3
    refine Rn ?_
    refine Rn ?_
    refine Rn ?_
    refine Rq ?_
    have tr : ∀ a b c d e f g h i j k m n o p q r s t u v w x y : AV, let l := lc_dot_ok45 a b c d e f g h i j; trim ((27,y)::(26,x)::(25,w)::(24,v)::(23,u)::(22,t)::(21,s)::(20,r)::(19,q)::(18,p)::(17,o)::(16,n)::(15,m)::(14,k)::l) l = [(0,a),(1,b),(4,c),(5,d),(6,e),(7,f),(8,g),(9,h),(10,i),(27,y)] := by intros; rfl
    refine R_nil (tr ..) ?_; clear tr
    refine then_n ?_
    refine cdf ?_
    refine at_skip rfl ?_
    refine blk_n ?_
    refine then_n ?_
    refine rg rfl ?_
    refine Rq ?_
    refine Rq ?_
    have tr : ∀ a b c d e f g h i j k m : AV, let l := lc_dot_ok45 a b c d e f g h i j; trim ((9,m)::(29,k)::l) l = [(0,a),(1,b),(4,c),(5,d),(6,e),(7,f),(8,g),(9,m),(10,i),(27,j)] := by intros; rfl
    refine R_nil (tr ..) ?_; clear tr
    refine then_n ?_
    exact ⟨_, _, ⟨u + 1, X ++ [some (ocC (gt d u))], _, _, _, _, _, rfl, rfl, by simp; rfl, by omega, by exact all_step hk (by first | (simp_all; done) | (simp_all; omega))⟩, by rfl, by omega⟩
  ·
   try simp only [decide_eq_true_eq, decide_eq_false_iff_not, Bool.not_eq_true', Bool.not_eq_false', beq_iff_eq, beq_eq_false_iff_ne, ne_eq] at h2
   refine Rn ?_
   refine Rn ?_
   refine Rn ?_
   refine Rn ?_
   refine Rq ?_
   refine Rq ?_
   refine Rn ?_
   refine Rn ?_
   refine Rn ?_
   refine Rq ?_
   have tr : ∀ a b c d e f g h i j k m n o p q r s t u v w x y : AV, let l := lc_dot_ok45 a b c d e f g h i j; trim ((27,y)::(26,x)::(25,w)::(24,v)::(23,u)::(22,t)::(21,s)::(20,r)::(19,q)::(18,p)::(17,o)::(16,n)::(15,m)::(14,k)::l) l = [(0,a),(1,b),(4,c),(5,d),(6,e),(7,f),(8,g),(9,h),(10,i),(27,y)] := by intros; rfl
   refine R_nil (tr ..) ?_; clear tr
   refine then_n ?_
   refine cdf ?_
   refine at_skip rfl ?_
   refine blk_n ?_
   refine then_n ?_
   refine rg rfl ?_
   refine Rq ?_
   refine Rq ?_
   have tr : ∀ a b c d e f g h i j k m : AV, let l := lc_dot_ok45 a b c d e f g h i j; trim ((9,m)::(29,k)::l) l = [(0,a),(1,b),(4,c),(5,d),(6,e),(7,f),(8,g),(9,m),(10,i),(27,j)] := by intros; rfl
   refine R_nil (tr ..) ?_; clear tr
   refine then_n ?_
   exact ⟨_, _, ⟨u + 1, X ++ [some (ocC (gt d u))], _, _, _, _, _, rfl, rfl, by simp; rfl, by omega, by exact all_step hk (by first | (simp_all; done) | (simp_all; omega))⟩, by rfl, by omega⟩
 ·
  try simp only [decide_eq_true_eq, decide_eq_false_iff_not, Bool.not_eq_true', Bool.not_eq_false', beq_iff_eq, beq_eq_false_iff_ne, ne_eq] at h1
  refine at_exit rfl ?_
  refine then_x ?_
  refine then_x ?_
  refine blk_x ?_
  refine then_n ?_
  refine at_seq rfl ?_
  refine rg rfl ?_
  refine Rq ?_
  have tr : ∀ a b c d e f g h i j k : AV, let l := lc_dot_ok45 a b c d e f g h i j; trim ((4,k)::l) l = [(0,a),(1,b),(4,k),(5,d),(6,e),(7,f),(8,g),(9,h),(10,i),(27,j)] := by intros; rfl
  refine R_nil (tr ..) ?_; clear tr
  refine then_n ?_
  refine at_ret rfl ?_
  refine fpure ?_
  refine ⟨?_, rfl⟩
  rw [dotI, fidx_miss (v := u) (by omega) hk]

abbrev lc_move_ok (a b c d e f g h i j k : AV) : Env := [(0,a),(1,b),(2,c),(5,d),(6,e),(7,f),(8,g),(21,h),(22,i),(23,j),(42,k)]
theorem move_ok (lim : Nat) (H : Heap) (d : List Oc) (f : Int) (t : Oc) (g : GL d) (hd : d.length ≤ 1000) (hf0 : 0 ≤ f) (hf1 : f < d.length) :
    ACall sig lim 44 [ocsAV d, AV.i f, .agg (ocC t)] H fun r H' => r = ocsAV (mvO d f.toNat t.r t.k) ∧ H' = H := by
 have q5 : True := trivial
 have q7 : True := trivial
 have qn : True := trivial
 refine ACall_pure (fa := fa44) rfl rfl rfl rfl ?_
 have tr : ∀ a0 a1 a2 : AV, env0 fa44.keep [a0, a1, a2] = [(0,a0),(1,a1),(2,a2),(5,.any),(6,.any),(7,.any),(8,.any),(21,.any),(22,.any),(23,.any),(42,.any)] := fun a0 a1 a2 => rfl
 refine W_to (tr _ _ _) ?_; clear tr
 refine at_seq rfl ?_
 refine rg rfl ?_
 refine A_box rfl (by simp (disch := first | omega | (simp only [List.length_map, List.length_append, List.length_set, List.length_cons, List.length_nil]; omega)) only [go_sem, ↓reduceIte, Nat.reduceEqDiff, reduceCtorEq] <;> rfl) ?_
 intro H1 n1
 have en1 := n1.len
 have q5 := n1.new
 refine Rq ?_
 have tr : ∀ a b c d e f g h i j k m n : AV, let l := lc_move_ok a b c d e f g h i j k; trim ((6,n)::(5,m)::l) l = [(0,a),(1,b),(2,c),(5,m),(6,n),(7,f),(8,g),(21,h),(22,i),(23,j),(42,k)] := by intros; rfl
 refine R_nil (tr ..) ?_; clear tr
 refine then_n ?_
 refine at_seq rfl ?_
 refine rg rfl ?_
 refine A_buildSlice (bs29e _ _ _) ?_
 intro H2 n2
 have en2 := n2.len
 have q5 := (n2.old _ (hget_lt q5)).trans q5
 have q7 : hget H2 H1.length = some (flatO []) := n2.new
 refine Rq ?_
 have lq5 := hget_lt q5
 obtain ⟨H3, ha3, g3⟩ := app29g (lim := H.length) (n := 0) q7 (src_all d) (by omega) rfl (by omega)
 refine A_append ⟨H3, by simp (disch := first | omega | (simp only [List.length_map, List.length_append, List.length_set, List.length_cons, List.length_nil]; omega)) only [go_sem, ↓reduceIte, Nat.reduceEqDiff, reduceCtorEq]; exact ha3, g3⟩ ?_
 intro H4 g4
 have eg4 := g4.len
 have q5 := (g4.old _ (by omega) lq5).trans q5
 have q7 := g4.new
 rewrite [Nat.zero_add]
 refine Rq ?_
 have tr : ∀ a b c d e f g h i j k m n o p : AV, let l := lc_move_ok a b c d e f g h i j k; trim ((7,p)::(11,o)::(10,n)::(9,m)::l) l = [(0,a),(1,b),(2,c),(5,d),(6,e),(7,p),(8,g),(21,h),(22,i),(23,j),(42,k)] := by intros; rfl
 refine R_nil (tr ..) ?_; clear tr
 refine then_n ?_
 refine at_seq rfl ?_
 refine rg rfl ?_
 refine Rq ?_
 refine Rq ?_
 refine Rq ?_
 refine Rq ?_
 have hfr := g.rg f.toNat (by omega)
 have hfl := g.le (i := f.toNat) (by omega)
 refine R_q (r := AV.i (gt d f.toNat).w) rfl (by simp (disch := first | omega | (simp only [List.length_map, List.length_append, List.length_set, List.length_cons, List.length_nil]; omega)) only [go_sem, ↓reduceIte, Nat.reduceEqDiff, reduceCtorEq, q7] <;> first | rfl | exact flatO2 _ _ (by omega) | (rw [Nat.zero_add]; exact flatO2 _ _ (by omega))) ?_
 refine Rq ?_
 refine Rq ?_
 refine Rq ?_
 have lq5 := hget_lt q5
 have lq7 := hget_lt q7
 refine A_store ty2 (by simp (disch := first | omega | (simp only [List.length_map, List.length_append, List.length_set, List.length_cons, List.length_nil]; omega)) only [go_sem, ↓reduceIte, Nat.reduceEqDiff, reduceCtorEq, q7] <;> rfl) (by simp (disch := first | omega | (simp only [List.length_map, List.length_append, List.length_set, List.length_cons, List.length_nil]; omega)) only [go_sem, ↓reduceIte, Nat.reduceEqDiff, reduceCtorEq, q7] <;> rfl) q7 ⟨by omega, rfl, by simp only [flatO_len, List.nil_append]; omega⟩ (k' := flatO (dnO d f.toNat)) (by first | exact flatO_set2 d f.toNat _ (by omega) | (rw [Nat.zero_add]; exact flatO_set2 d f.toNat _ (by omega))) ?_
 intro H5 w5
 have ew5 := w5.len
 have q5 := (w5.old _ (by omega)).trans q5
 have q7 := w5.new
 have hD : (dnO d f.toNat).length = d.length := dnO_len _ _
 have tr : ∀ a b c d e f g h i j k m n o p q r s t : AV, let l := lc_move_ok a b c d e f g h i j k; trim ((19,t)::(18,s)::(17,r)::(16,q)::(15,p)::(14,o)::(13,n)::(12,m)::l) l = [(0,a),(1,b),(2,c),(5,d),(6,e),(7,f),(8,g),(21,h),(22,i),(23,j),(42,k)] := by intros; rfl
 refine R_nil (tr ..) ?_; clear tr
 refine then_n ?_
 refine at_seq rfl ?_
 refine at_seq rfl ?_
 refine rg rfl ?_
 refine Rq ?_
 refine Rq ?_
 refine Rq ?_
 have tr : ∀ a b c d e f g h i j k m n o : AV, let l := lc_move_ok a b c d e f g h i j k; trim ((22,o)::(21,n)::(20,m)::l) l = [(0,a),(1,b),(2,c),(5,d),(6,e),(7,f),(8,g),(21,n),(22,o),(23,j),(42,k)] := by intros; rfl
 refine R_nil (tr ..) ?_; clear tr
 refine then_n ?_
 refine at_block rfl ?_
 refine loop_n rfl (fun mm kv H' => ∃ u : Nat, ∃ x6 x8 x23 x42 : AV, (kv = [(6, x6), (8, x8), (22, AV.i u), (23, x23), (42, x42)]) ∧ (mm = d.length - u) ∧ (u ≤ d.length) ∧ (hget H' H.length = some (ocC t)) ∧ (hget H' H2.length = some (flatO (dnO d f.toNat))) ∧ (∀ i, i < u → (fun i => decide ((gt (dnO d f.toNat) i).r = t.r) && ((gt (dnO d f.toNat) i).k == t.k)) i = false)) ⟨0, _, _, _, _, rfl, rfl, by omega, by exact q5, by exact q7, by intro i hi; omega⟩ (by rfl) ?_
 rintro mm kv HL ⟨u, x6, x8, x23, x42, rfl, rfl, hu, q5, q7, hk⟩
 have tr : ∀ a b c d e f g h i j k m n o p q : AV, upd [(0,a),(1,b),(2,c),(5,d),(6,e),(7,f),(8,g),(21,h),(22,i),(23,j),(42,k)] [(6,m),(8,n),(22,o),(23,p),(42,q)] = [(0,a),(1,b),(2,c),(5,d),(6,m),(7,f),(8,n),(21,h),(22,o),(23,p),(42,q)] := by intros; rfl
 refine W_to (tr ..) ?_; clear tr
 refine at_seq rfl ?_
 refine rg rfl ?_
 refine Rq ?_
 have tr : ∀ a b c d e f g h i j k m : AV, let l := lc_move_ok a b c d e f g h i j k; trim ((23,m)::l) l = [(0,a),(1,b),(2,c),(5,d),(6,e),(7,f),(8,g),(21,h),(22,i),(23,m),(42,k)] := by intros; rfl
 refine R_nil (tr ..) ?_; clear tr
 refine then_n ?_
 refine at_seq rfl ?_
 refine cdd (fun h1 => ?_) (fun h1 => ?_)
 ·
  try simp only [decide_eq_true_eq, decide_eq_false_iff_not, Bool.not_eq_true', Bool.not_eq_false', beq_iff_eq, beq_eq_false_iff_ne, ne_eq] at h1
  refine at_skip rfl ?_
  refine then_n ?_
  refine at_seq rfl ?_
  refine at_block rfl ?_
  refine at_seq rfl ?_
  refine rg rfl ?_
  refine Rq ?_
  refine Rq ?_
  have tr : ∀ a b c d e f g h i j k m n : AV, let l := lc_move_ok a b c d e f g h i j k; trim ((8,n)::(24,m)::l) l = [(0,a),(1,b),(2,c),(5,d),(6,e),(7,f),(8,n),(21,h),(22,i),(23,j),(42,k)] := by intros; rfl
  refine R_nil (tr ..) ?_; clear tr
  refine then_n ?_
  refine at_seq rfl ?_
  refine rd rfl rfl ?_
  refine Qq ?_
  refine Qq ?_
  refine Qq ?_
  refine Qq ?_
  refine Q_q (r := AV.i (gt (dnO d f.toNat) u).r) rfl (by simp (disch := first | omega | (simp only [List.length_map, List.length_append, List.length_set, List.length_cons, List.length_nil]; omega)) only [go_sem, ↓reduceIte, Nat.reduceEqDiff, reduceCtorEq, q7] <;> first | rfl | exact flatO0 _ _ (by omega) | (rw [Nat.zero_add]; exact flatO0 _ _ (by omega))) ?_
  refine Qq ?_
  refine Q_q rfl (by simp (disch := first | omega | (simp only [List.length_map, List.length_append, List.length_set, List.length_cons, List.length_nil]; omega)) only [go_sem, ↓reduceIte, Nat.reduceEqDiff, reduceCtorEq, q5, q7, qn] <;> rfl) ?_
  refine Qq ?_
  refine Qq ?_
  refine Qp_split (fun h2 => ?_) (fun h2 => ?_)
  ·
   try simp only [decide_eq_true_eq, decide_eq_false_iff_not, Bool.not_eq_true', Bool.not_eq_false', beq_iff_eq, beq_eq_false_iff_ne, ne_eq] at h2
   refine Qy ?_
   refine Qq ?_
   refine Qy ?_
   refine Qq ?_
   refine Qy ?_
   refine Qq ?_
   refine Qy ?_
   refine Qq ?_
   refine Qy ?_
   refine Q_q (r := .v (.bool (gt (dnO d f.toNat) u).k)) rfl (by simp (disch := first | omega | (simp only [List.length_map, List.length_append, List.length_set, List.length_cons, List.length_nil]; omega)) only [go_sem, ↓reduceIte, Nat.reduceEqDiff, reduceCtorEq, q7] <;> first | rfl | exact flatO1 _ _ (by omega) | (rw [Nat.zero_add]; exact flatO1 _ _ (by omega))) ?_
   refine Qy ?_
   refine Qq ?_
   refine Qy ?_
   refine Q_q rfl (by simp (disch := first | omega | (simp only [List.length_map, List.length_append, List.length_set, List.length_cons, List.length_nil]; omega)) only [go_sem, ↓reduceIte, Nat.reduceEqDiff, reduceCtorEq, q5, q7, qn] <;> rfl) ?_
   refine Qy ?_
   refine Qq ?_
   refine Qq ?_
   refine Q_nil ?_
   have tr : ∀ a b c d e f g h i j k m n o p q r s t u v w x y z A B C D : AV, let l := lc_move_ok a b c d e f g h i j k; trim ((42,D)::(41,C)::(40,B)::(39,A)::(38,z)::(37,y)::(36,x)::(35,w)::(34,v)::(33,u)::(32,t)::(31,s)::(30,r)::(29,q)::(28,p)::(27,o)::(26,n)::(25,m)::l) l = [(0,a),(1,b),(2,c),(5,d),(6,e),(7,f),(8,g),(21,h),(22,i),(23,j),(42,D)] := by intros; rfl
   refine R_nil (tr ..) ?_; clear tr
   refine then_n ?_
   refine cdd (fun h3 => ?_) (fun h3 => ?_)
   ·
    try simp only [decide_eq_true_eq, decide_eq_false_iff_not, Bool.not_eq_true', Bool.not_eq_false', beq_iff_eq, beq_eq_false_iff_ne, ne_eq] at h3
    refine at_seq rfl ?_
    refine rg rfl ?_
    refine Rq ?_
    refine Rq ?_
    refine Rq ?_
    refine Rq ?_
    have hwb := dnO_box g (f := f.toNat) (by omega) u (by omega)
    refine R_q (r := AV.i (gt (dnO d f.toNat) u).w) rfl (by simp (disch := first | omega | (simp only [List.length_map, List.length_append, List.length_set, List.length_cons, List.length_nil]; omega)) only [go_sem, ↓reduceIte, Nat.reduceEqDiff, reduceCtorEq, q7] <;> first | rfl | exact flatO2 _ _ (by omega) | (rw [Nat.zero_add]; exact flatO2 _ _ (by omega))) ?_
    refine Rq ?_
    refine Rq ?_
    refine Rq ?_
    have lq5 := hget_lt q5
    have lq7 := hget_lt q7
    refine A_store ty2 (by simp (disch := first | omega | (simp only [List.length_map, List.length_append, List.length_set, List.length_cons, List.length_nil]; omega)) only [go_sem, ↓reduceIte, Nat.reduceEqDiff, reduceCtorEq, q7] <;> rfl) (by simp (disch := first | omega | (simp only [List.length_map, List.length_append, List.length_set, List.length_cons, List.length_nil]; omega)) only [go_sem, ↓reduceIte, Nat.reduceEqDiff, reduceCtorEq, q7] <;> rfl) q7 ⟨by omega, rfl, by simp only [flatO_len]; omega⟩ (k' := flatO ((dnO d f.toNat).set u ⟨(gt (dnO d f.toNat) u).r, (gt (dnO d f.toNat) u).k, (gt (dnO d f.toNat) u).w + 1⟩)) (by first | exact flatO_set2 _ u _ (by omega) | (rw [Nat.zero_add]; exact flatO_set2 _ u _ (by omega))) ?_
    intro H7 w7
    have ew7 := w7.len
    have q7 := w7.new
    have tr : ∀ a b c d e f g h i j k m n o p q r s t : AV, let l := lc_move_ok a b c d e f g h i j k; trim ((50,t)::(49,s)::(48,r)::(47,q)::(46,p)::(45,o)::(44,n)::(43,m)::l) l = [(0,a),(1,b),(2,c),(5,d),(6,e),(7,f),(8,g),(21,h),(22,i),(23,j),(42,k)] := by intros; rfl
    refine R_nil (tr ..) ?_; clear tr
    refine then_n ?_
    refine at_seq rfl ?_
    refine rg rfl ?_
    refine Rq ?_
    refine Rq ?_
    have tr : ∀ a b c d e f g h i j k m n : AV, let l := lc_move_ok a b c d e f g h i j k; trim ((6,n)::(51,m)::l) l = [(0,a),(1,b),(2,c),(5,d),(6,n),(7,f),(8,g),(21,h),(22,i),(23,j),(42,k)] := by intros; rfl
    refine R_nil (tr ..) ?_; clear tr
    refine then_n ?_
    refine at_ret rfl ?_
    refine blk_r ?_
    refine then_r ?_
    refine then_r ?_
    refine blk_r ?_
    refine then_r ?_
    refine fpure ?_
    refine ⟨?_, rfl⟩
    have hkey : keyI (dnO d f.toNat) t.r t.k = u := fidx_hit (by omega) hk (by first | (simp_all; done) | (simp_all; omega))
    have hup : upO (dnO d f.toNat) t.r t.k = (dnO d f.toNat).set u ⟨(gt (dnO d f.toNat) u).r, (gt (dnO d f.toNat) u).k, (gt (dnO d f.toNat) u).w + 1⟩ := (by rw [upO, if_pos (by omega), hkey, Int.toNat_natCast])
    exact (frz_own3' (by omega) q7).trans (by rw [List.drop_zero, frz_flatO, mvO, hup, ocsAV, List.length_set, hD])
   ·
    try simp only [decide_eq_true_eq, decide_eq_false_iff_not, Bool.not_eq_true', Bool.not_eq_false', beq_iff_eq, beq_eq_false_iff_ne, ne_eq] at h3
    refine at_skip rfl ?_
    refine blk_n ?_
    refine then_n ?_
    refine rg rfl ?_
    refine Rq ?_
    refine Rq ?_
    have tr : ∀ a b c d e f g h i j k m n : AV, let l := lc_move_ok a b c d e f g h i j k; trim ((22,n)::(52,m)::l) l = [(0,a),(1,b),(2,c),(5,d),(6,e),(7,f),(8,g),(21,h),(22,n),(23,j),(42,k)] := by intros; rfl
    refine R_nil (tr ..) ?_; clear tr
    refine then_n ?_
    exact ⟨_, _, ⟨u + 1, _, _, _, _, rfl, rfl, by omega, by exact q5, by exact q7, by exact all_step hk (by first | (simp_all; done) | (simp_all; omega))⟩, by rfl, by omega⟩
  ·
   try simp only [decide_eq_true_eq, decide_eq_false_iff_not, Bool.not_eq_true', Bool.not_eq_false', beq_iff_eq, beq_eq_false_iff_ne, ne_eq] at h2
   refine Qn ?_
   refine Qn ?_
   refine Qn ?_
   refine Qn ?_
   refine Qn ?_
   refine Qn ?_
   refine Qn ?_
   refine Qn ?_
   refine Qq ?_
   refine Q_nil ?_
   have tr : ∀ a b c d e f g h i j k m n o p q r s t u v w x y z A B C D : AV, let l := lc_move_ok a b c d e f g h i j k; trim ((42,D)::(41,C)::(40,B)::(39,A)::(38,z)::(37,y)::(36,x)::(35,w)::(34,v)::(33,u)::(32,t)::(31,s)::(30,r)::(29,q)::(28,p)::(27,o)::(26,n)::(25,m)::l) l = [(0,a),(1,b),(2,c),(5,d),(6,e),(7,f),(8,g),(21,h),(22,i),(23,j),(42,D)] := by intros; rfl
   refine R_nil (tr ..) ?_; clear tr
   refine then_n ?_
   refine cdf ?_
   refine at_skip rfl ?_
   refine blk_n ?_
   refine then_n ?_
   refine rg rfl ?_
   refine Rq ?_
   refine Rq ?_
   have tr : ∀ a b c d e f g h i j k m n : AV, let l := lc_move_ok a b c d e f g h i j k; trim ((22,n)::(52,m)::l) l = [(0,a),(1,b),(2,c),(5,d),(6,e),(7,f),(8,g),(21,h),(22,n),(23,j),(42,k)] := by intros; rfl
   refine R_nil (tr ..) ?_; clear tr
   refine then_n ?_
   exact ⟨_, _, ⟨u + 1, _, _, _, _, rfl, rfl, by omega, by exact q5, by exact q7, by exact all_step hk (by first | (simp_all; done) | (simp_all; omega))⟩, by rfl, by omega⟩
 ·
  try simp only [decide_eq_true_eq, decide_eq_false_iff_not, Bool.not_eq_true', Bool.not_eq_false', beq_iff_eq, beq_eq_false_iff_ne, ne_eq] at h1
  refine at_exit rfl ?_
  refine then_x ?_
  refine then_x ?_
  refine blk_x ?_
  refine then_n ?_
  refine at_seq rfl ?_
  refine rg rfl ?_
  refine Rq ?_
  have lq5 := hget_lt q5
  have lq7 := hget_lt q7
  refine A_store ty2 (by simp (disch := first | omega | (simp only [List.length_map, List.length_append, List.length_set, List.length_cons, List.length_nil]; omega)) only [go_sem, ↓reduceIte, Nat.reduceEqDiff, reduceCtorEq, q5] <;> rfl) (by simp (disch := first | omega | (simp only [List.length_map, List.length_append, List.length_set, List.length_cons, List.length_nil]; omega)) only [go_sem, ↓reduceIte, Nat.reduceEqDiff, reduceCtorEq, q5] <;> rfl) q5 ⟨by omega, rfl, by simp⟩ (k' := ocC ⟨t.r, t.k, 1⟩) rfl ?_
  intro H8 w8
  have ew8 := w8.len
  have q5 := w8.new
  have q7 := (w8.old _ (by omega)).trans q7
  have tr : ∀ a b c d e f g h i j k m : AV, let l := lc_move_ok a b c d e f g h i j k; trim ((53,m)::l) l = [(0,a),(1,b),(2,c),(5,d),(6,e),(7,f),(8,g),(21,h),(22,i),(23,j),(42,k)] := by intros; rfl
  refine R_nil (tr ..) ?_; clear tr
  refine then_n ?_
  refine at_seq rfl ?_
  refine rg rfl ?_
  refine Rq ?_
  refine R_q rfl (by simp (disch := first | omega | (simp only [List.length_map, List.length_append, List.length_set, List.length_cons, List.length_nil]; omega)) only [go_sem, ↓reduceIte, Nat.reduceEqDiff, reduceCtorEq, q5, q7, qn] <;> rfl) ?_
  refine A_buildSlice (bs29 _ _ _ _ ⟨t.r, t.k, 1⟩ (by simp (disch := first | omega | (simp only [List.length_map, List.length_append, List.length_set, List.length_cons, List.length_nil]; omega)) only [go_sem, ↓reduceIte, Nat.reduceEqDiff, reduceCtorEq, q5] <;> rfl)) ?_
  intro H9 n9
  have en9 := n9.len
  have q7 := (n9.old _ (hget_lt q7)).trans q7
  have qn := n9.new
  obtain ⟨HA, ha, ga⟩ := app29g (lim := H.length) (n := d.length) (m := 1) (u := [⟨t.r, t.k, 1⟩]) q7 (src_own (l := [⟨t.r, t.k, 1⟩]) qn rfl) (by omega) hD.symm (by omega)
  refine A_append ⟨HA, by simp (disch := first | omega | (simp only [List.length_map, List.length_append, List.length_set, List.length_cons, List.length_nil]; omega)) only [go_sem, ↓reduceIte, Nat.reduceEqDiff, reduceCtorEq]; exact ha, ga⟩ ?_
  intro HB gb
  have egb := gb.len
  refine Rq ?_
  have tr : ∀ a b c d e f g h i j k m n o p q : AV, let l := lc_move_ok a b c d e f g h i j k; trim ((6,q)::(57,p)::(56,o)::(55,n)::(54,m)::l) l = [(0,a),(1,b),(2,c),(5,d),(6,q),(7,f),(8,g),(21,h),(22,i),(23,j),(42,k)] := by intros; rfl
  refine R_nil (tr ..) ?_; clear tr
  refine then_n ?_
  refine at_ret rfl ?_
  refine fpure ?_
  refine ⟨?_, rfl⟩
  have hkey : keyI (dnO d f.toNat) t.r t.k = -1 := fidx_miss (v := u) (by omega) hk
  have hup : upO (dnO d f.toNat) t.r t.k = (dnO d f.toNat) ++ [⟨t.r, t.k, 1⟩] := (by rw [upO, if_neg (by omega)])
  exact (frz_own3' (by omega) gb.new).trans (by rw [List.drop_zero, frz_flatO, mvO, hup, ocsAV, List.length_append, hD]; rfl)

end Go.Proofs.Ytplockpopmaejaa
end
section
set_option linter.unusedSimpArgs false
set_option linter.unusedVariables false
set_option maxHeartbeats 40000000
set_option maxRecDepth 4000
namespace Go.Proofs.Ytplockpopmaejaa
open Go Go.Am

abbrev lc_rnorm_ok (a b c d e f g h i j k m n o p q r s t u v w x y z A B C : AV) : Env := [(0,a),(2,b),(3,c),(4,d),(6,e),(7,f),(8,g),(10,h),(11,i),(13,j),(16,k),(17,m),(18,n),(19,o),(20,p),(40,q),(47,r),(49,s),(52,t),(53,u),(54,v),(55,w),(61,x),(62,y),(63,z),(64,A),(76,B),(86,C)]
theorem rnorm_ok (lim : Nat) (H : Heap) (d : List Oc) (g : GL d) (hd : d.length ≤ 64) : ACall sig lim 46 [ocsAV d] H fun r H' => r = .tup [ocsAV (pos (outL (wv d))), AV.i 0] ∧ H' = H := by
 have q11 : True := trivial
 have q13 : True := trivial
 have q52 : True := trivial
 have qn : True := trivial
 refine ACall_pure (fa := fa46) rfl rfl rfl rfl ?_
 have tr : ∀ a0 : AV, env0 fa46.keep [a0] = [(0,a0),(2,.any),(3,.any),(4,.any),(6,.any),(7,.any),(8,.any),(10,.any),(11,.any),(13,.any),(16,.any),(17,.any),(18,.any),(19,.any),(20,.any),(40,.any),(47,.any),(49,.any),(52,.any),(53,.any),(54,.any),(55,.any),(61,.any),(62,.any),(63,.any),(64,.any),(76,.any),(86,.any)] := fun a0 => rfl
 refine W_to (tr _) ?_; clear tr
 refine at_seq rfl ?_
 refine rg rfl ?_
 refine Rq ?_
 refine Rq ?_
 have tr : ∀ a b c d e f g h i j k m n o p q r s t u v w x y z A B C D E : AV, let l := lc_rnorm_ok a b c d e f g h i j k m n o p q r s t u v w x y z A B C; trim ((3,E)::(2,D)::l) l = [(0,a),(2,D),(3,E),(4,d),(6,e),(7,f),(8,g),(10,h),(11,i),(13,j),(16,k),(17,m),(18,n),(19,o),(20,p),(40,q),(47,r),(49,s),(52,t),(53,u),(54,v),(55,w),(61,x),(62,y),(63,z),(64,A),(76,B),(86,C)] := by intros; rfl
 refine R_nil (tr ..) ?_; clear tr
 refine then_n ?_
 refine at_seq rfl ?_
 refine at_seq rfl ?_
 refine rg rfl ?_
 refine Rq ?_
 refine Rq ?_
 refine Rq ?_
 have tr : ∀ a b c d e f g h i j k m n o p q r s t u v w x y z A B C D E F : AV, let l := lc_rnorm_ok a b c d e f g h i j k m n o p q r s t u v w x y z A B C; trim ((16,F)::(15,E)::(14,D)::l) l = [(0,a),(2,b),(3,c),(4,d),(6,e),(7,f),(8,g),(10,h),(11,i),(13,j),(16,F),(17,m),(18,n),(19,o),(20,p),(40,q),(47,r),(49,s),(52,t),(53,u),(54,v),(55,w),(61,x),(62,y),(63,z),(64,A),(76,B),(86,C)] := by intros; rfl
 refine R_nil (tr ..) ?_; clear tr
 refine then_n ?_
 refine cdd (fun h1 => ?_) (fun h1 => ?_)
 ·
  try simp only [decide_eq_true_eq, decide_eq_false_iff_not, Bool.not_eq_true', Bool.not_eq_false', beq_iff_eq, beq_eq_false_iff_ne, ne_eq] at h1
  omega
 ·
  try simp only [decide_eq_true_eq, decide_eq_false_iff_not, Bool.not_eq_true', Bool.not_eq_false', beq_iff_eq, beq_eq_false_iff_ne, ne_eq] at h1
  refine at_skip rfl ?_
  refine then_n ?_
  refine at_seq rfl ?_
  refine rg rfl ?_
  refine Rq ?_
  have tr : ∀ a b c d e f g h i j k m n o p q r s t u v w x y z A B C D : AV, let l := lc_rnorm_ok a b c d e f g h i j k m n o p q r s t u v w x y z A B C; trim ((4,D)::l) l = [(0,a),(2,b),(3,c),(4,D),(6,e),(7,f),(8,g),(10,h),(11,i),(13,j),(16,k),(17,m),(18,n),(19,o),(20,p),(40,q),(47,r),(49,s),(52,t),(53,u),(54,v),(55,w),(61,x),(62,y),(63,z),(64,A),(76,B),(86,C)] := by intros; rfl
  refine R_nil (tr ..) ?_; clear tr
  refine then_n ?_
  refine at_seq rfl ?_
  refine at_seq rfl ?_
  refine rg rfl ?_
  refine Rq ?_
  refine Rq ?_
  refine Rq ?_
  have tr : ∀ a b c d e f g h i j k m n o p q r s t u v w x y z A B C D E F : AV, let l := lc_rnorm_ok a b c d e f g h i j k m n o p q r s t u v w x y z A B C; trim ((19,F)::(18,E)::(17,D)::l) l = [(0,a),(2,b),(3,c),(4,d),(6,e),(7,f),(8,g),(10,h),(11,i),(13,j),(16,k),(17,D),(18,E),(19,F),(20,p),(40,q),(47,r),(49,s),(52,t),(53,u),(54,v),(55,w),(61,x),(62,y),(63,z),(64,A),(76,B),(86,C)] := by intros; rfl
  refine R_nil (tr ..) ?_; clear tr
  refine then_n ?_
  refine at_block rfl ?_
  refine loop_n rfl (fun mm kv H' => ∃ u : Nat, ∃ n : Int, ∃ X : Heap, ∃ x2 x3 x6 x20 x40 : AV, (kv = [(2, x2), (3, x3), (4, AV.i n), (6, x6), (19, AV.i u), (20, x20), (40, x40)]) ∧ (mm = d.length - u) ∧ (H' = H ++ X) ∧ (u ≤ d.length) ∧ (n = sW d u)) ⟨0, 0, [], _, _, _, _, _, rfl, rfl, by simp, by omega, by rfl⟩ (by rfl) ?_
  rintro mm kv H0 ⟨u, n, X, x2, x3, x6, x20, x40, rfl, rfl, hX, hu, hn⟩
  have tr : ∀ a b c d e f g h i j k m n o p q r s t u v w x y z A B C D E F G H I J : AV, upd [(0,a),(2,b),(3,c),(4,d),(6,e),(7,f),(8,g),(10,h),(11,i),(13,j),(16,k),(17,m),(18,n),(19,o),(20,p),(40,q),(47,r),(49,s),(52,t),(53,u),(54,v),(55,w),(61,x),(62,y),(63,z),(64,A),(76,B),(86,C)] [(2,D),(3,E),(4,F),(6,G),(19,H),(20,I),(40,J)] = [(0,a),(2,D),(3,E),(4,F),(6,G),(7,f),(8,g),(10,h),(11,i),(13,j),(16,k),(17,m),(18,n),(19,H),(20,I),(40,J),(47,r),(49,s),(52,t),(53,u),(54,v),(55,w),(61,x),(62,y),(63,z),(64,A),(76,B),(86,C)] := by intros; rfl
  refine W_to (tr ..) ?_; clear tr
  subst hX
  have hrg := fun hu : u < d.length => g.rg u hu
  have hle := fun hu : u < d.length => g.le (i := u) hu
  have hsb := sW_nn g u hu
  refine at_seq rfl ?_
  refine rg rfl ?_
  refine Rq ?_
  have tr : ∀ a b c d e f g h i j k m n o p q r s t u v w x y z A B C D : AV, let l := lc_rnorm_ok a b c d e f g h i j k m n o p q r s t u v w x y z A B C; trim ((20,D)::l) l = [(0,a),(2,b),(3,c),(4,d),(6,e),(7,f),(8,g),(10,h),(11,i),(13,j),(16,k),(17,m),(18,n),(19,o),(20,D),(40,q),(47,r),(49,s),(52,t),(53,u),(54,v),(55,w),(61,x),(62,y),(63,z),(64,A),(76,B),(86,C)] := by intros; rfl
  refine R_nil (tr ..) ?_; clear tr
  refine then_n ?_
  refine at_seq rfl ?_
  refine cdd (fun h2 => ?_) (fun h2 => ?_)
  ·
   try simp only [decide_eq_true_eq, decide_eq_false_iff_not, Bool.not_eq_true', Bool.not_eq_false', beq_iff_eq, beq_eq_false_iff_ne, ne_eq] at h2
   refine at_skip rfl ?_
   refine then_n ?_
   refine at_seq rfl ?_
   refine at_block rfl ?_
   refine at_seq rfl ?_
   refine rg rfl ?_
   refine Rq ?_
   refine R_q rfl (by simp (disch := first | omega | (simp only [List.length_map, List.length_append, List.length_set, List.length_cons, List.length_nil]; omega)) only [go_sem, ↓reduceIte, Nat.reduceEqDiff, reduceCtorEq, q11, q13, q52, qn] <;> rfl) ?_
   refine R_alloc (by simp (disch := first | omega | (simp only [List.length_map, List.length_append, List.length_set, List.length_cons, List.length_nil]; omega)) only [go_sem, ↓reduceIte, Nat.reduceEqDiff, reduceCtorEq, q11, q13, q52, qn] <;> rfl) rfl (by simp only [List.map_cons, List.map_nil]; rfl) ?_
   refine R_store ty68 (by simp (disch := first | omega | (simp only [List.length_map, List.length_append, List.length_set, List.length_cons, List.length_nil]; omega)) only [go_sem, ↓reduceIte, Nat.reduceEqDiff, reduceCtorEq, q11, q13, q52, qn] <;> rfl) (by simp (disch := first | omega | (simp only [List.length_map, List.length_append, List.length_set, List.length_cons, List.length_nil]; omega)) only [go_sem, ↓reduceIte, Nat.reduceEqDiff, reduceCtorEq, q11, q13, q52, qn] <;> rfl) (by simp (disch := first | omega | (simp only [List.length_map, List.length_append, List.length_set, List.length_cons, List.length_nil]; omega)) only [go_sem, ↓reduceIte, Nat.reduceEqDiff, reduceCtorEq, q11, q13, q52, qn] <;> rfl) (by simp) (by rfl) (by simp (disch := first | omega | (simp only [List.length_map, List.length_append, List.length_set, List.length_cons, List.length_nil]; omega)) only [go_sem, ↓reduceIte, Nat.reduceEqDiff, reduceCtorEq, q11, q13, q52, qn] <;> rfl) ?_
   have tr : ∀ a b c d e f g h i j k m n o p q r s t u v w x y z A B C D E F : AV, let l := lc_rnorm_ok a b c d e f g h i j k m n o p q r s t u v w x y z A B C; trim ((6,F)::(22,E)::(21,D)::l) l = [(0,a),(2,b),(3,c),(4,d),(6,F),(7,f),(8,g),(10,h),(11,i),(13,j),(16,k),(17,m),(18,n),(19,o),(20,p),(40,q),(47,r),(49,s),(52,t),(53,u),(54,v),(55,w),(61,x),(62,y),(63,z),(64,A),(76,B),(86,C)] := by intros; rfl
   refine R_nil (tr ..) ?_; clear tr
   refine then_n ?_
   refine at_seq rfl ?_
   refine at_seq rfl ?_
   refine rg rfl ?_
   refine Rq ?_
   refine R_q rfl (by simp (disch := first | omega | (simp only [List.length_map, List.length_append, List.length_set, List.length_cons, List.length_nil]; omega)) only [go_sem, ↓reduceIte, Nat.reduceEqDiff, reduceCtorEq, q11, q13, q52, qn] <;> rfl) ?_
   refine Rq ?_
   refine Rq ?_
   refine Rp_split (fun h3 => ?_) (fun h3 => ?_)
   ·
    try simp only [decide_eq_true_eq, decide_eq_false_iff_not, Bool.not_eq_true', Bool.not_eq_false', beq_iff_eq, beq_eq_false_iff_ne, ne_eq] at h3
    have h1 := hrg (by omega); have h2 := hle (by omega); omega
   ·
    try simp only [decide_eq_true_eq, decide_eq_false_iff_not, Bool.not_eq_true', Bool.not_eq_false', beq_iff_eq, beq_eq_false_iff_ne, ne_eq] at h3
    refine Ry ?_
    refine Rq ?_
    refine Ry ?_
    refine R_q rfl (by simp (disch := first | omega | (simp only [List.length_map, List.length_append, List.length_set, List.length_cons, List.length_nil]; omega)) only [go_sem, ↓reduceIte, Nat.reduceEqDiff, reduceCtorEq, q11, q13, q52, qn] <;> rfl) ?_
    refine Ry ?_
    refine Rq ?_
    refine Rq ?_
    refine Rq ?_
    refine Rp_split (fun h4 => ?_) (fun h4 => ?_)
    ·
     try simp only [decide_eq_true_eq, decide_eq_false_iff_not, Bool.not_eq_true', Bool.not_eq_false', beq_iff_eq, beq_eq_false_iff_ne, ne_eq] at h4
     have h1 := hrg (by omega); have h2 := hle (by omega); omega
    ·
     try simp only [decide_eq_true_eq, decide_eq_false_iff_not, Bool.not_eq_true', Bool.not_eq_false', beq_iff_eq, beq_eq_false_iff_ne, ne_eq] at h4
     refine Ry ?_
     refine Rq ?_
     refine Ry ?_
     refine R_q rfl (by simp (disch := first | omega | (simp only [List.length_map, List.length_append, List.length_set, List.length_cons, List.length_nil]; omega)) only [go_sem, ↓reduceIte, Nat.reduceEqDiff, reduceCtorEq, q11, q13, q52, qn] <;> rfl) ?_
     refine Ry ?_
     refine Rq ?_
     refine Rq ?_
     refine Rq ?_
     refine Rp_split (fun h5 => ?_) (fun h5 => ?_)
     ·
      try simp only [decide_eq_true_eq, decide_eq_false_iff_not, Bool.not_eq_true', Bool.not_eq_false', beq_iff_eq, beq_eq_false_iff_ne, ne_eq] at h5
      have h1 := hrg (by omega); have h2 := hle (by omega); omega
     ·
      try simp only [decide_eq_true_eq, decide_eq_false_iff_not, Bool.not_eq_true', Bool.not_eq_false', beq_iff_eq, beq_eq_false_iff_ne, ne_eq] at h5
      refine Ry ?_
      refine Rq ?_
      refine Ry ?_
      refine R_q rfl (by simp (disch := first | omega | (simp only [List.length_map, List.length_append, List.length_set, List.length_cons, List.length_nil]; omega)) only [go_sem, ↓reduceIte, Nat.reduceEqDiff, reduceCtorEq, q11, q13, q52, qn] <;> rfl) ?_
      refine Ry ?_
      refine Rq ?_
      refine Rq ?_
      have tr : ∀ a b c d e f g h i j k m n o p q r s t u v w x y z A B C D E F G H I J K L M N O P Q R S T U : AV, let l := lc_rnorm_ok a b c d e f g h i j k m n o p q r s t u v w x y z A B C; trim ((40,U)::(39,T)::(38,S)::(37,R)::(36,Q)::(35,P)::(34,O)::(33,N)::(32,M)::(31,L)::(30,K)::(29,J)::(28,I)::(27,H)::(26,G)::(25,F)::(24,E)::(23,D)::l) l = [(0,a),(2,b),(3,c),(4,d),(6,e),(7,f),(8,g),(10,h),(11,i),(13,j),(16,k),(17,m),(18,n),(19,o),(20,p),(40,U),(47,r),(49,s),(52,t),(53,u),(54,v),(55,w),(61,x),(62,y),(63,z),(64,A),(76,B),(86,C)] := by intros; rfl
      refine R_nil (tr ..) ?_; clear tr
      refine then_n ?_
      refine cdd (fun h6 => ?_) (fun h6 => ?_)
      ·
       try simp only [decide_eq_true_eq, decide_eq_false_iff_not, Bool.not_eq_true', Bool.not_eq_false', beq_iff_eq, beq_eq_false_iff_ne, ne_eq] at h6
       have h1 := hrg (by omega); have h2 := hle (by omega); omega
      ·
       try simp only [decide_eq_true_eq, decide_eq_false_iff_not, Bool.not_eq_true', Bool.not_eq_false', beq_iff_eq, beq_eq_false_iff_ne, ne_eq] at h6
       refine at_skip rfl ?_
       refine then_n ?_
       refine rg rfl ?_
       refine Rq ?_
       refine Rq ?_
       refine R_q rfl (by simp (disch := first | omega | (simp only [List.length_map, List.length_append, List.length_set, List.length_cons, List.length_nil]; omega)) only [go_sem, ↓reduceIte, Nat.reduceEqDiff, reduceCtorEq, q11, q13, q52, qn] <;> rfl) ?_
       refine Rq ?_
       refine Rq ?_
       have tr : ∀ a b c d e f g h i j k m n o p q r s t u v w x y z A B C D E F G H : AV, let l := lc_rnorm_ok a b c d e f g h i j k m n o p q r s t u v w x y z A B C; trim ((4,H)::(44,G)::(43,F)::(42,E)::(41,D)::l) l = [(0,a),(2,b),(3,c),(4,H),(6,e),(7,f),(8,g),(10,h),(11,i),(13,j),(16,k),(17,m),(18,n),(19,o),(20,p),(40,q),(47,r),(49,s),(52,t),(53,u),(54,v),(55,w),(61,x),(62,y),(63,z),(64,A),(76,B),(86,C)] := by intros; rfl
       refine R_nil (tr ..) ?_; clear tr
       refine blk_n ?_
       refine then_n ?_
       refine rg rfl ?_
       refine Rq ?_
       refine Rq ?_
       have tr : ∀ a b c d e f g h i j k m n o p q r s t u v w x y z A B C D E : AV, let l := lc_rnorm_ok a b c d e f g h i j k m n o p q r s t u v w x y z A B C; trim ((19,E)::(45,D)::l) l = [(0,a),(2,b),(3,c),(4,d),(6,e),(7,f),(8,g),(10,h),(11,i),(13,j),(16,k),(17,m),(18,n),(19,E),(20,p),(40,q),(47,r),(49,s),(52,t),(53,u),(54,v),(55,w),(61,x),(62,y),(63,z),(64,A),(76,B),(86,C)] := by intros; rfl
       refine R_nil (tr ..) ?_; clear tr
       refine then_n ?_
       exact ⟨_, _, ⟨u + 1, n + (gt d u).w, X ++ [some (ocC (gt d u))], _, _, _, _, _, rfl, rfl, by simp; rfl, by omega, by rw [hn]; rfl⟩, by rfl, by omega⟩
  ·
   try simp only [decide_eq_true_eq, decide_eq_false_iff_not, Bool.not_eq_true', Bool.not_eq_false', beq_iff_eq, beq_eq_false_iff_ne, ne_eq] at h2
   refine at_exit rfl ?_
   refine then_x ?_
   refine then_x ?_
   refine blk_x ?_
   refine then_n ?_
   refine at_seq rfl ?_
   refine at_seq rfl ?_
   refine rg rfl ?_
   refine Rq ?_
   refine Rq ?_
   have tr : ∀ a b c d e f g h i j k m n o p q r s t u v w x y z A B C D E : AV, let l := lc_rnorm_ok a b c d e f g h i j k m n o p q r s t u v w x y z A B C; trim ((47,E)::(46,D)::l) l = [(0,a),(2,b),(3,c),(4,d),(6,e),(7,f),(8,g),(10,h),(11,i),(13,j),(16,k),(17,m),(18,n),(19,o),(20,p),(40,q),(47,E),(49,s),(52,t),(53,u),(54,v),(55,w),(61,x),(62,y),(63,z),(64,A),(76,B),(86,C)] := by intros; rfl
   refine R_nil (tr ..) ?_; clear tr
   refine then_n ?_
   refine cdd (fun h7 => ?_) (fun h7 => ?_)
   ·
    try simp only [decide_eq_true_eq, decide_eq_false_iff_not, Bool.not_eq_true', Bool.not_eq_false', beq_iff_eq, beq_eq_false_iff_ne, ne_eq] at h7
    have h1 := g.sum; have huD : u = d.length := (by omega); subst huD; omega
   ·
    try simp only [decide_eq_true_eq, decide_eq_false_iff_not, Bool.not_eq_true', Bool.not_eq_false', beq_iff_eq, beq_eq_false_iff_ne, ne_eq] at h7
    refine at_skip rfl ?_
    refine then_n ?_
    refine at_seq rfl ?_
    refine rg rfl ?_
    refine Rq ?_
    have tr : ∀ a b c d e f g h i j k m n o p q r s t u v w x y z A B C D : AV, let l := lc_rnorm_ok a b c d e f g h i j k m n o p q r s t u v w x y z A B C; trim ((7,D)::l) l = [(0,a),(2,b),(3,c),(4,d),(6,e),(7,D),(8,g),(10,h),(11,i),(13,j),(16,k),(17,m),(18,n),(19,o),(20,p),(40,q),(47,r),(49,s),(52,t),(53,u),(54,v),(55,w),(61,x),(62,y),(63,z),(64,A),(76,B),(86,C)] := by intros; rfl
    refine R_nil (tr ..) ?_; clear tr
    refine then_n ?_
    refine at_seq rfl ?_
    refine at_seq rfl ?_
    refine rg rfl ?_
    refine Rq ?_
    have tr : ∀ a b c d e f g h i j k m n o p q r s t u v w x y z A B C D : AV, let l := lc_rnorm_ok a b c d e f g h i j k m n o p q r s t u v w x y z A B C; trim ((8,D)::l) l = [(0,a),(2,b),(3,c),(4,d),(6,e),(7,f),(8,D),(10,h),(11,i),(13,j),(16,k),(17,m),(18,n),(19,o),(20,p),(40,q),(47,r),(49,s),(52,t),(53,u),(54,v),(55,w),(61,x),(62,y),(63,z),(64,A),(76,B),(86,C)] := by intros; rfl
    refine R_nil (tr ..) ?_; clear tr
    refine then_n ?_
    refine at_block rfl ?_
    refine loop_n rfl (fun mm kv H' => ∃ r : Nat, ∃ o : AV, ∃ x10 x11 x13 x49 x52 x53 x54 x55 x61 x62 x63 x64 x76 x86 : AV, (kv = [(7, o), (8, AV.i r), (10, x10), (11, x11), (13, x13), (49, x49), (52, x52), (53, x53), (54, x54), (55, x55), (61, x61), (62, x62), (63, x63), (64, x64), (76, x76), (86, x86)]) ∧ (mm = 8 - r) ∧ (r ≤ 8) ∧ (H.length ≤ H'.length) ∧ (OutO H.length H' o (pos ((outL (wv d)).take (2 * r))))) ⟨0, nilO, _, _, _, _, _, _, _, _, _, _, _, _, _, _, rfl, rfl, by omega, by simp, by exact .inl ⟨rfl, rfl⟩⟩ (by rfl) ?_
    rintro mm kv HA ⟨r, o, x10, x11, x13, x49, x52, x53, x54, x55, x61, x62, x63, x64, x76, x86, rfl, rfl, hr, hlA, hO⟩
    have tr : ∀ a b c d e f g h i j k m n o p q r s t u v w x y z A B C D E F G H I J K L M N O P Q R S : AV, upd [(0,a),(2,b),(3,c),(4,d),(6,e),(7,f),(8,g),(10,h),(11,i),(13,j),(16,k),(17,m),(18,n),(19,o),(20,p),(40,q),(47,r),(49,s),(52,t),(53,u),(54,v),(55,w),(61,x),(62,y),(63,z),(64,A),(76,B),(86,C)] [(7,D),(8,E),(10,F),(11,G),(13,H),(49,I),(52,J),(53,K),(54,L),(55,M),(61,N),(62,O),(63,P),(64,Q),(76,R),(86,S)] = [(0,a),(2,b),(3,c),(4,d),(6,e),(7,D),(8,E),(10,F),(11,G),(13,H),(16,k),(17,m),(18,n),(19,o),(20,p),(40,q),(47,r),(49,I),(52,J),(53,K),(54,L),(55,M),(61,N),(62,O),(63,P),(64,Q),(76,R),(86,S)] := by intros; rfl
    refine W_to (tr ..) ?_; clear tr
    refine at_seq rfl ?_
    refine at_seq rfl ?_
    refine rg rfl ?_
    refine Rq ?_
    refine Rq ?_
    have tr : ∀ a b c d e f g h i j k m n o p q r s t u v w x y z A B C D E : AV, let l := lc_rnorm_ok a b c d e f g h i j k m n o p q r s t u v w x y z A B C; trim ((49,E)::(48,D)::l) l = [(0,a),(2,b),(3,c),(4,d),(6,e),(7,f),(8,g),(10,h),(11,i),(13,j),(16,k),(17,m),(18,n),(19,o),(20,p),(40,q),(47,r),(49,E),(52,t),(53,u),(54,v),(55,w),(61,x),(62,y),(63,z),(64,A),(76,B),(86,C)] := by intros; rfl
    refine R_nil (tr ..) ?_; clear tr
    refine then_n ?_
    refine cdd (fun h8 => ?_) (fun h8 => ?_)
    ·
     try simp only [decide_eq_true_eq, decide_eq_false_iff_not, Bool.not_eq_true', Bool.not_eq_false', beq_iff_eq, beq_eq_false_iff_ne, ne_eq] at h8
     refine at_skip rfl ?_
     refine then_n ?_
     refine at_seq rfl ?_
     refine at_block rfl ?_
     refine at_seq rfl ?_
     refine rg rfl ?_
     refine A_buildSlice (bs88 _ _ _ _ _ (by simp (disch := first | omega | (simp only [List.length_map, List.length_append, List.length_set, List.length_cons, List.length_nil]; omega)) only [go_sem, ↓reduceIte, Nat.reduceEqDiff, reduceCtorEq] <;> rfl) (by simp (disch := first | omega | (simp only [List.length_map, List.length_append, List.length_set, List.length_cons, List.length_nil]; omega)) only [go_sem, ↓reduceIte, Nat.reduceEqDiff, reduceCtorEq] <;> rfl)) ?_
     intro H5 n5
     have en5 := n5.len
     have q52 := n5.new
     have hO := hO.mono fun b hb k hk => (n5.old _ (hget_lt hk)).trans hk
     have hl52 : H.length ≤ H5.length := by omega
     refine Rq ?_
     refine Rq ?_
     have tr : ∀ a b c d e f g h i j k m n o p q r s t u v w x y z A B C D E F : AV, let l := lc_rnorm_ok a b c d e f g h i j k m n o p q r s t u v w x y z A B C; trim ((54,F)::(53,E)::(52,D)::l) l = [(0,a),(2,b),(3,c),(4,d),(6,e),(7,f),(8,g),(10,h),(11,i),(13,j),(16,k),(17,m),(18,n),(19,o),(20,p),(40,q),(47,r),(49,s),(52,D),(53,E),(54,F),(55,w),(61,x),(62,y),(63,z),(64,A),(76,B),(86,C)] := by intros; rfl
     refine R_nil (tr ..) ?_; clear tr
     refine then_n ?_
     refine at_block rfl ?_
     refine loop_n rfl (fun mm kv H' => ∃ k : Nat, ∃ o2 : AV, ∃ x10 x11 x13 x55 x61 x62 x63 x64 x76 x86 : AV, (kv = [(7, o2), (10, x10), (11, x11), (13, x13), (54, AV.i k), (55, x55), (61, x61), (62, x62), (63, x63), (64, x64), (76, x76), (86, x86)]) ∧ (mm = 2 - k) ∧ (k ≤ 2) ∧ (H.length ≤ H'.length) ∧ (hget H' HA.length = some [.v (.bool false), .v (.bool true)]) ∧ (OutO H.length H' o2 (pos ((outL (wv d)).take (2 * r + k))))) ⟨0, o, _, _, _, _, _, _, _, _, _, _, rfl, rfl, by omega, by exact hl52, by exact q52, by exact hO⟩ (by rfl) ?_
     rintro mm kv HB ⟨k, o2, x10, x11, x13, x55, x61, x62, x63, x64, x76, x86, rfl, rfl, hk, hlB, q52, hO⟩
     have tr : ∀ a b c d e f g h i j k m n o p q r s t u v w x y z A B C D E F G H I J K L M N O : AV, upd [(0,a),(2,b),(3,c),(4,d),(6,e),(7,f),(8,g),(10,h),(11,i),(13,j),(16,k),(17,m),(18,n),(19,o),(20,p),(40,q),(47,r),(49,s),(52,t),(53,u),(54,v),(55,w),(61,x),(62,y),(63,z),(64,A),(76,B),(86,C)] [(7,D),(10,E),(11,F),(13,G),(54,H),(55,I),(61,J),(62,K),(63,L),(64,M),(76,N),(86,O)] = [(0,a),(2,b),(3,c),(4,d),(6,e),(7,D),(8,g),(10,E),(11,F),(13,G),(16,k),(17,m),(18,n),(19,o),(20,p),(40,q),(47,r),(49,s),(52,t),(53,u),(54,H),(55,I),(61,J),(62,K),(63,L),(64,M),(76,N),(86,O)] := by intros; rfl
     refine W_to (tr ..) ?_; clear tr
     refine at_seq rfl ?_
     refine rg rfl ?_
     refine Rq ?_
     have tr : ∀ a b c d e f g h i j k m n o p q r s t u v w x y z A B C D : AV, let l := lc_rnorm_ok a b c d e f g h i j k m n o p q r s t u v w x y z A B C; trim ((55,D)::l) l = [(0,a),(2,b),(3,c),(4,d),(6,e),(7,f),(8,g),(10,h),(11,i),(13,j),(16,k),(17,m),(18,n),(19,o),(20,p),(40,q),(47,r),(49,s),(52,t),(53,u),(54,v),(55,D),(61,x),(62,y),(63,z),(64,A),(76,B),(86,C)] := by intros; rfl
     refine R_nil (tr ..) ?_; clear tr
     refine then_n ?_
     refine at_seq rfl ?_
     refine cdd (fun h9 => ?_) (fun h9 => ?_)
     ·
      try simp only [decide_eq_true_eq, decide_eq_false_iff_not, Bool.not_eq_true', Bool.not_eq_false', beq_iff_eq, beq_eq_false_iff_ne, ne_eq] at h9
      refine at_skip rfl ?_
      refine then_n ?_
      refine at_seq rfl ?_
      refine at_block rfl ?_
      refine at_seq rfl ?_
      refine rg rfl ?_
      refine Rq ?_
      refine R_q (r := .v (.bool (decide (k = 1)))) rfl (by simp (disch := first | omega | (simp only [List.length_map, List.length_append, List.length_set, List.length_cons, List.length_nil]; omega)) only [go_sem, ↓reduceIte, Nat.reduceEqDiff, reduceCtorEq, q52] <;> first | rfl | exact b2_at k (by omega) | (rw [Nat.zero_add]; exact b2_at k (by omega)) | (rw [Nat.zero_add, Nat.mul_one]; exact b2_at k (by omega))) ?_
      refine Rq ?_
      have tr : ∀ a b c d e f g h i j k m n o p q r s t u v w x y z A B C D E F : AV, let l := lc_rnorm_ok a b c d e f g h i j k m n o p q r s t u v w x y z A B C; trim ((10,F)::(57,E)::(56,D)::l) l = [(0,a),(2,b),(3,c),(4,d),(6,e),(7,f),(8,g),(10,F),(11,i),(13,j),(16,k),(17,m),(18,n),(19,o),(20,p),(40,q),(47,r),(49,s),(52,t),(53,u),(54,v),(55,w),(61,x),(62,y),(63,z),(64,A),(76,B),(86,C)] := by intros; rfl
      refine R_nil (tr ..) ?_; clear tr
      refine then_n ?_
      refine at_seq rfl ?_
      refine rg rfl ?_
      refine Rq ?_
      refine Rq ?_
      refine R_q (r := .agg (ocC ⟨(r : Int), decide (k = 1), 0⟩)) rfl (by simp (disch := first | omega | (simp only [List.length_map, List.length_append, List.length_set, List.length_cons, List.length_nil]; omega)) only [go_sem, ↓reduceIte, Nat.reduceEqDiff, reduceCtorEq] <;> exact bld68b _ _) ?_
      refine A_alloc rfl ?_
      intro H6 n6
      have en6 := n6.len
      have q11 := n6.new
      have lq11 := hget_lt q11
      refine A_store ty68 (by simp (disch := first | omega | (simp only [List.length_map, List.length_append, List.length_set, List.length_cons, List.length_nil]; omega)) only [go_sem, ↓reduceIte, Nat.reduceEqDiff, reduceCtorEq, q11] <;> rfl) (by simp (disch := first | omega | (simp only [List.length_map, List.length_append, List.length_set, List.length_cons, List.length_nil]; omega)) only [go_sem, ↓reduceIte, Nat.reduceEqDiff, reduceCtorEq, q11] <;> rfl) q11 ⟨by omega, rfl, by first | exact Nat.le_refl _ | simp⟩ (k' := [AV.i r, .v (.bool (decide (k = 1))), AV.i 0]) rfl ?_
      intro H7 w7
      have ew7 := w7.len
      have q11 := w7.new
      have hold7 : ∀ c, c < HB.length → hget H7 c = hget HB c := fun c hc => (w7.old c (by omega)).trans (n6.old c hc)
      have hl11 : HB.length < H7.length := by omega
      have tr : ∀ a b c d e f g h i j k m n o p q r s t u v w x y z A B C D E F G : AV, let l := lc_rnorm_ok a b c d e f g h i j k m n o p q r s t u v w x y z A B C; trim ((11,G)::(60,F)::(59,E)::(58,D)::l) l = [(0,a),(2,b),(3,c),(4,d),(6,e),(7,f),(8,g),(10,h),(11,G),(13,j),(16,k),(17,m),(18,n),(19,o),(20,p),(40,q),(47,r),(49,s),(52,t),(53,u),(54,v),(55,w),(61,x),(62,y),(63,z),(64,A),(76,B),(86,C)] := by intros; rfl
      refine R_nil (tr ..) ?_; clear tr
      refine then_n ?_
      refine at_seq rfl ?_
      refine at_seq rfl ?_
      refine rg rfl ?_
      refine Rq ?_
      refine Rq ?_
      refine Rq ?_
      have tr : ∀ a b c d e f g h i j k m n o p q r s t u v w x y z A B C D E F : AV, let l := lc_rnorm_ok a b c d e f g h i j k m n o p q r s t u v w x y z A B C; trim ((63,F)::(62,E)::(61,D)::l) l = [(0,a),(2,b),(3,c),(4,d),(6,e),(7,f),(8,g),(10,h),(11,i),(13,j),(16,k),(17,m),(18,n),(19,o),(20,p),(40,q),(47,r),(49,s),(52,t),(53,u),(54,v),(55,w),(61,D),(62,E),(63,F),(64,A),(76,B),(86,C)] := by intros; rfl
      refine R_nil (tr ..) ?_; clear tr
      refine then_n ?_
      refine at_block rfl ?_
      refine loop_n rfl (fun mm kv H' => ∃ u : Nat, ∃ n : Int, ∃ x13 x64 x76 : AV, (kv = [(13, x13), (63, AV.i u), (64, x64), (76, x76)]) ∧ (mm = d.length - u) ∧ (u ≤ d.length) ∧ (HB.length < H'.length) ∧ (∀ c, c < HB.length → hget H' c = hget HB c) ∧ (hget H' HB.length = some [AV.i r, .v (.bool (decide (k = 1))), AV.i n]) ∧ (n = cnt d (r + 8 * k) u)) ⟨0, 0, _, _, _, rfl, rfl, by omega, by exact hl11, by exact hold7, by exact q11, by rfl⟩ (by rfl) ?_
      rintro mm kv HC ⟨u, n, x13, x64, x76, rfl, rfl, hu, hlC, holdC, q11, hn⟩
      have tr : ∀ a b c d e f g h i j k m n o p q r s t u v w x y z A B C D E F G : AV, upd [(0,a),(2,b),(3,c),(4,d),(6,e),(7,f),(8,g),(10,h),(11,i),(13,j),(16,k),(17,m),(18,n),(19,o),(20,p),(40,q),(47,r),(49,s),(52,t),(53,u),(54,v),(55,w),(61,x),(62,y),(63,z),(64,A),(76,B),(86,C)] [(13,D),(63,E),(64,F),(76,G)] = [(0,a),(2,b),(3,c),(4,d),(6,e),(7,f),(8,g),(10,h),(11,i),(13,D),(16,k),(17,m),(18,n),(19,o),(20,p),(40,q),(47,r),(49,s),(52,t),(53,u),(54,v),(55,w),(61,x),(62,y),(63,E),(64,F),(76,G),(86,C)] := by intros; rfl
      refine W_to (tr ..) ?_; clear tr
      have hcb := cnt_box g (r + 8 * k) u hu
      refine at_seq rfl ?_
      refine rg rfl ?_
      refine Rq ?_
      have tr : ∀ a b c d e f g h i j k m n o p q r s t u v w x y z A B C D : AV, let l := lc_rnorm_ok a b c d e f g h i j k m n o p q r s t u v w x y z A B C; trim ((64,D)::l) l = [(0,a),(2,b),(3,c),(4,d),(6,e),(7,f),(8,g),(10,h),(11,i),(13,j),(16,k),(17,m),(18,n),(19,o),(20,p),(40,q),(47,r),(49,s),(52,t),(53,u),(54,v),(55,w),(61,x),(62,y),(63,z),(64,D),(76,B),(86,C)] := by intros; rfl
      refine R_nil (tr ..) ?_; clear tr
      refine then_n ?_
      refine at_seq rfl ?_
      refine cdd (fun h10 => ?_) (fun h10 => ?_)
      ·
       try simp only [decide_eq_true_eq, decide_eq_false_iff_not, Bool.not_eq_true', Bool.not_eq_false', beq_iff_eq, beq_eq_false_iff_ne, ne_eq] at h10
       refine at_skip rfl ?_
       refine then_n ?_
       refine at_seq rfl ?_
       refine at_block rfl ?_
       refine at_seq rfl ?_
       refine rg rfl ?_
       refine Rq ?_
       refine R_q rfl (by simp (disch := first | omega | (simp only [List.length_map, List.length_append, List.length_set, List.length_cons, List.length_nil]; omega)) only [go_sem, ↓reduceIte, Nat.reduceEqDiff, reduceCtorEq, q11, q13, q52, qn] <;> rfl) ?_
       refine A_alloc rfl ?_
       intro H8 n8
       have en8 := n8.len
       have q11 := (n8.old _ (hget_lt q11)).trans q11
       have q13 := n8.new
       have lq11 := hget_lt q11
       have lq13 := hget_lt q13
       refine A_store ty68 (by simp (disch := first | omega | (simp only [List.length_map, List.length_append, List.length_set, List.length_cons, List.length_nil]; omega)) only [go_sem, ↓reduceIte, Nat.reduceEqDiff, reduceCtorEq, q13] <;> rfl) (by simp (disch := first | omega | (simp only [List.length_map, List.length_append, List.length_set, List.length_cons, List.length_nil]; omega)) only [go_sem, ↓reduceIte, Nat.reduceEqDiff, reduceCtorEq, q13] <;> rfl) q13 ⟨by omega, rfl, by first | exact Nat.le_refl _ | simp⟩ (k' := ocC (gt d u)) rfl ?_
       intro H9 w9
       have ew9 := w9.len
       have q11 := (w9.old _ (by omega)).trans q11
       have q13 := w9.new
       have holdD : ∀ c, c < HB.length → hget H9 c = hget HB c := fun c hc => (w9.old c (by omega)).trans ((n8.old c (by omega)).trans (holdC c hc))
       have hlD : HB.length < H9.length := by omega
       have tr : ∀ a b c d e f g h i j k m n o p q r s t u v w x y z A B C D E F : AV, let l := lc_rnorm_ok a b c d e f g h i j k m n o p q r s t u v w x y z A B C; trim ((13,F)::(66,E)::(65,D)::l) l = [(0,a),(2,b),(3,c),(4,d),(6,e),(7,f),(8,g),(10,h),(11,i),(13,F),(16,k),(17,m),(18,n),(19,o),(20,p),(40,q),(47,r),(49,s),(52,t),(53,u),(54,v),(55,w),(61,x),(62,y),(63,z),(64,A),(76,B),(86,C)] := by intros; rfl
       refine R_nil (tr ..) ?_; clear tr
       refine then_n ?_
       refine at_seq rfl ?_
       refine rg rfl ?_
       refine Rq ?_
       refine R_q rfl (by simp (disch := first | omega | (simp only [List.length_map, List.length_append, List.length_set, List.length_cons, List.length_nil]; omega)) only [go_sem, ↓reduceIte, Nat.reduceEqDiff, reduceCtorEq, q11, q13, q52, qn] <;> rfl) ?_
       refine Rq ?_
       refine Rq ?_
       refine Rq ?_
       refine Rp_split (fun h11 => ?_) (fun h11 => ?_)
       ·
        try simp only [decide_eq_true_eq, decide_eq_false_iff_not, Bool.not_eq_true', Bool.not_eq_false', beq_iff_eq, beq_eq_false_iff_ne, ne_eq] at h11
        refine Ry ?_
        refine Rq ?_
        refine Ry ?_
        refine R_q rfl (by simp (disch := first | omega | (simp only [List.length_map, List.length_append, List.length_set, List.length_cons, List.length_nil]; omega)) only [go_sem, ↓reduceIte, Nat.reduceEqDiff, reduceCtorEq, q11, q13, q52, qn] <;> rfl) ?_
        refine Ry ?_
        refine Rq ?_
        refine Ry ?_
        refine Rq ?_
        refine Rq ?_
        have tr : ∀ a b c d e f g h i j k m n o p q r s t u v w x y z A B C D E F G H I J K L M : AV, let l := lc_rnorm_ok a b c d e f g h i j k m n o p q r s t u v w x y z A B C; trim ((76,M)::(75,L)::(74,K)::(73,J)::(72,I)::(71,H)::(70,G)::(69,F)::(68,E)::(67,D)::l) l = [(0,a),(2,b),(3,c),(4,d),(6,e),(7,f),(8,g),(10,h),(11,i),(13,j),(16,k),(17,m),(18,n),(19,o),(20,p),(40,q),(47,r),(49,s),(52,t),(53,u),(54,v),(55,w),(61,x),(62,y),(63,z),(64,A),(76,M),(86,C)] := by intros; rfl
        refine R_nil (tr ..) ?_; clear tr
        refine then_n ?_
        refine cdd (fun h12 => ?_) (fun h12 => ?_)
        ·
         try simp only [decide_eq_true_eq, decide_eq_false_iff_not, Bool.not_eq_true', Bool.not_eq_false', beq_iff_eq, beq_eq_false_iff_ne, ne_eq] at h12
         refine rg rfl ?_
         refine Rq ?_
         refine R_q rfl (by simp (disch := first | omega | (simp only [List.length_map, List.length_append, List.length_set, List.length_cons, List.length_nil]; omega)) only [go_sem, ↓reduceIte, Nat.reduceEqDiff, reduceCtorEq, q11, q13, q52, qn] <;> rfl) ?_
         refine Rq ?_
         refine R_q rfl (by simp (disch := first | omega | (simp only [List.length_map, List.length_append, List.length_set, List.length_cons, List.length_nil]; omega)) only [go_sem, ↓reduceIte, Nat.reduceEqDiff, reduceCtorEq, q11, q13, q52, qn] <;> rfl) ?_
         refine Rq ?_
         refine Rq ?_
         have lq11 := hget_lt q11
         have lq13 := hget_lt q13
         have hwu := g.rg u (by omega)
         have hwl := g.le (i := u) (by omega)
         refine A_store ty2 (by simp (disch := first | omega | (simp only [List.length_map, List.length_append, List.length_set, List.length_cons, List.length_nil]; omega)) only [go_sem, ↓reduceIte, Nat.reduceEqDiff, reduceCtorEq, q11, q13] <;> rfl) (by simp (disch := first | omega | (simp only [List.length_map, List.length_append, List.length_set, List.length_cons, List.length_nil]; omega)) only [go_sem, ↓reduceIte, Nat.reduceEqDiff, reduceCtorEq, q11, q13] <;> rfl) q11 ⟨by omega, rfl, by simp⟩ (k' := [AV.i r, .v (.bool (decide (k = 1))), AV.i (n + (gt d u).w)]) rfl ?_
         intro HD wD
         have ewD := wD.len
         have q11 := wD.new
         have holdD : ∀ c, c < HB.length → hget HD c = hget HB c := fun c hc => (wD.old c (by omega)).trans (holdD c hc)
         have hlD : HB.length < HD.length := by omega
         have tr : ∀ a b c d e f g h i j k m n o p q r s t u v w x y z A B C D E F G H I : AV, let l := lc_rnorm_ok a b c d e f g h i j k m n o p q r s t u v w x y z A B C; trim ((82,I)::(81,H)::(80,G)::(79,F)::(78,E)::(77,D)::l) l = [(0,a),(2,b),(3,c),(4,d),(6,e),(7,f),(8,g),(10,h),(11,i),(13,j),(16,k),(17,m),(18,n),(19,o),(20,p),(40,q),(47,r),(49,s),(52,t),(53,u),(54,v),(55,w),(61,x),(62,y),(63,z),(64,A),(76,B),(86,C)] := by intros; rfl
         refine R_nil (tr ..) ?_; clear tr
         refine blk_n ?_
         refine then_n ?_
         refine rg rfl ?_
         refine Rq ?_
         refine Rq ?_
         have tr : ∀ a b c d e f g h i j k m n o p q r s t u v w x y z A B C D E : AV, let l := lc_rnorm_ok a b c d e f g h i j k m n o p q r s t u v w x y z A B C; trim ((63,E)::(83,D)::l) l = [(0,a),(2,b),(3,c),(4,d),(6,e),(7,f),(8,g),(10,h),(11,i),(13,j),(16,k),(17,m),(18,n),(19,o),(20,p),(40,q),(47,r),(49,s),(52,t),(53,u),(54,v),(55,w),(61,x),(62,y),(63,E),(64,A),(76,B),(86,C)] := by intros; rfl
         refine R_nil (tr ..) ?_; clear tr
         refine then_n ?_
         exact ⟨_, _, ⟨u + 1, _, _, _, _, rfl, rfl, by omega, by exact hlD, by exact holdD, by exact q11, by first | exact cnt_T hn (ix_T (by omega) (by first | assumption | simp_all) (by omega)) | exact cnt_F hn (ix_F ⟨(g.rg u (by omega)).1, (g.rg u (by omega)).2.1⟩ (by omega) (by omega) (by rintro ⟨a1, a2⟩; first | omega | simp_all))⟩, by rfl, by omega⟩
        ·
         try simp only [decide_eq_true_eq, decide_eq_false_iff_not, Bool.not_eq_true', Bool.not_eq_false', beq_iff_eq, beq_eq_false_iff_ne, ne_eq] at h12
         refine at_skip rfl ?_
         refine blk_n ?_
         refine then_n ?_
         refine rg rfl ?_
         refine Rq ?_
         refine Rq ?_
         have tr : ∀ a b c d e f g h i j k m n o p q r s t u v w x y z A B C D E : AV, let l := lc_rnorm_ok a b c d e f g h i j k m n o p q r s t u v w x y z A B C; trim ((63,E)::(83,D)::l) l = [(0,a),(2,b),(3,c),(4,d),(6,e),(7,f),(8,g),(10,h),(11,i),(13,j),(16,k),(17,m),(18,n),(19,o),(20,p),(40,q),(47,r),(49,s),(52,t),(53,u),(54,v),(55,w),(61,x),(62,y),(63,E),(64,A),(76,B),(86,C)] := by intros; rfl
         refine R_nil (tr ..) ?_; clear tr
         refine then_n ?_
         exact ⟨_, _, ⟨u + 1, _, _, _, _, rfl, rfl, by omega, by exact hlD, by exact holdD, by exact q11, by first | exact cnt_T hn (ix_T (by omega) (by first | assumption | simp_all) (by omega)) | exact cnt_F hn (ix_F ⟨(g.rg u (by omega)).1, (g.rg u (by omega)).2.1⟩ (by omega) (by omega) (by rintro ⟨a1, a2⟩; first | omega | simp_all))⟩, by rfl, by omega⟩
       ·
        try simp only [decide_eq_true_eq, decide_eq_false_iff_not, Bool.not_eq_true', Bool.not_eq_false', beq_iff_eq, beq_eq_false_iff_ne, ne_eq] at h11
        refine Rn ?_
        refine Rn ?_
        refine Rn ?_
        refine Rn ?_
        refine Rq ?_
        have tr : ∀ a b c d e f g h i j k m n o p q r s t u v w x y z A B C D E F G H I J K L M : AV, let l := lc_rnorm_ok a b c d e f g h i j k m n o p q r s t u v w x y z A B C; trim ((76,M)::(75,L)::(74,K)::(73,J)::(72,I)::(71,H)::(70,G)::(69,F)::(68,E)::(67,D)::l) l = [(0,a),(2,b),(3,c),(4,d),(6,e),(7,f),(8,g),(10,h),(11,i),(13,j),(16,k),(17,m),(18,n),(19,o),(20,p),(40,q),(47,r),(49,s),(52,t),(53,u),(54,v),(55,w),(61,x),(62,y),(63,z),(64,A),(76,M),(86,C)] := by intros; rfl
        refine R_nil (tr ..) ?_; clear tr
        refine then_n ?_
        refine cdf ?_
        refine at_skip rfl ?_
        refine blk_n ?_
        refine then_n ?_
        refine rg rfl ?_
        refine Rq ?_
        refine Rq ?_
        have tr : ∀ a b c d e f g h i j k m n o p q r s t u v w x y z A B C D E : AV, let l := lc_rnorm_ok a b c d e f g h i j k m n o p q r s t u v w x y z A B C; trim ((63,E)::(83,D)::l) l = [(0,a),(2,b),(3,c),(4,d),(6,e),(7,f),(8,g),(10,h),(11,i),(13,j),(16,k),(17,m),(18,n),(19,o),(20,p),(40,q),(47,r),(49,s),(52,t),(53,u),(54,v),(55,w),(61,x),(62,y),(63,E),(64,A),(76,B),(86,C)] := by intros; rfl
        refine R_nil (tr ..) ?_; clear tr
        refine then_n ?_
        exact ⟨_, _, ⟨u + 1, _, _, _, _, rfl, rfl, by omega, by exact hlD, by exact holdD, by exact q11, by first | exact cnt_T hn (ix_T (by omega) (by first | assumption | simp_all) (by omega)) | exact cnt_F hn (ix_F ⟨(g.rg u (by omega)).1, (g.rg u (by omega)).2.1⟩ (by omega) (by omega) (by rintro ⟨a1, a2⟩; first | omega | simp_all))⟩, by rfl, by omega⟩
      ·
       try simp only [decide_eq_true_eq, decide_eq_false_iff_not, Bool.not_eq_true', Bool.not_eq_false', beq_iff_eq, beq_eq_false_iff_ne, ne_eq] at h10
       refine at_exit rfl ?_
       refine then_x ?_
       refine then_x ?_
       refine blk_x ?_
       refine then_n ?_
       refine at_seq rfl ?_
       refine rg rfl ?_
       have huD : u = d.length := (by omega)
       subst huD
       subst hn
       have hz2 := cnt_box g (r + 8 * k) d.length (Nat.le_refl _)
       have q52 := (holdC _ (hget_lt q52)).trans q52
       have hO := hO.mono fun b hb k hk => (holdC b (hget_lt hk)).trans hk
       have hlE : H.length ≤ HC.length := by omega
       refine Rq ?_
       refine R_q rfl (by simp (disch := first | omega | (simp only [List.length_map, List.length_append, List.length_set, List.length_cons, List.length_nil]; omega)) only [go_sem, ↓reduceIte, Nat.reduceEqDiff, reduceCtorEq, q11, q13, q52, qn] <;> rfl) ?_
       refine Rq ?_
       have tr : ∀ a b c d e f g h i j k m n o p q r s t u v w x y z A B C D E F : AV, let l := lc_rnorm_ok a b c d e f g h i j k m n o p q r s t u v w x y z A B C; trim ((86,F)::(85,E)::(84,D)::l) l = [(0,a),(2,b),(3,c),(4,d),(6,e),(7,f),(8,g),(10,h),(11,i),(13,j),(16,k),(17,m),(18,n),(19,o),(20,p),(40,q),(47,r),(49,s),(52,t),(53,u),(54,v),(55,w),(61,x),(62,y),(63,z),(64,A),(76,B),(86,F)] := by intros; rfl
       refine R_nil (tr ..) ?_; clear tr
       refine then_n ?_
       refine cdd (fun h13 => ?_) (fun h13 => ?_)
       ·
        try simp only [decide_eq_true_eq, decide_eq_false_iff_not, Bool.not_eq_true', Bool.not_eq_false', beq_iff_eq, beq_eq_false_iff_ne, ne_eq] at h13
        have hz : ¬ cnt d (r + 8 * k) d.length = 0 := by omega
        refine rg rfl ?_
        refine Rq ?_
        refine R_q rfl (by simp (disch := first | omega | (simp only [List.length_map, List.length_append, List.length_set, List.length_cons, List.length_nil]; omega)) only [go_sem, ↓reduceIte, Nat.reduceEqDiff, reduceCtorEq, q11, q13, q52, qn] <;> rfl) ?_
        refine A_buildSlice (bs29 _ _ _ _ ⟨(r : Int), decide (k = 1), cnt d (r + 8 * k) d.length⟩ (by simp (disch := first | omega | (simp only [List.length_map, List.length_append, List.length_set, List.length_cons, List.length_nil]; omega)) only [go_sem, ↓reduceIte, Nat.reduceEqDiff, reduceCtorEq, q11] <;> rfl)) ?_
        intro HF n11
        have en11 := n11.len
        have q52 := (n11.old _ (hget_lt q52)).trans q52
        have qn := n11.new
        have hO := hO.mono fun b hb k hk => (n11.old _ (hget_lt hk)).trans hk
        have lq52 := hget_lt q52
        obtain ⟨b8, hb8, HG, hap, hgr, hold8, hwh⟩ := outO_appG (lim := H.length) (m := 1) (u := [⟨(r : Int), decide (k = 1), cnt d (r + 8 * k) d.length⟩]) hO (src_own (l := [⟨(r : Int), decide (k = 1), cnt d (r + 8 * k) d.length⟩]) qn rfl) (by omega) (by omega) (by omega) (by have := pos_take_len (outL (wv d)) (2 * r + k); omega)
        have hne : HA.length ≠ b8 := by
          rcases hwh with h | h
          · omega
          · exact (hO.ne q52 _ h).symm
        refine A_append ⟨HG, by simp (disch := first | omega | (simp only [List.length_map, List.length_append, List.length_set, List.length_cons, List.length_nil]; omega)) only [go_sem, ↓reduceIte, Nat.reduceEqDiff, reduceCtorEq]; exact hap, hgr⟩ ?_
        intro HE gE
        have egE := gE.len
        have q52 := (gE.old _ hne lq52).trans q52
        have hlE : H.length ≤ HE.length := by omega
        have hOE : OutO H.length HE (.own 3 HF.length 0 ((pos ((outL (wv d)).take (2 * r + k))).length + 1)) (pos ((outL (wv d)).take (2 * r + (k + 1)))) := by
          rw [show 2 * r + (k + 1) = 2 * r + k + 1 by omega, pos_step (by rw [outL_len]; omega), outL_at (by omega) (by omega), if_neg hz]
          exact .inr ⟨by simp, HF.length, by simp, by omega, gE.new⟩
        refine Rq ?_
        have tr : ∀ a b c d e f g h i j k m n o p q r s t u v w x y z A B C D E F G H : AV, let l := lc_rnorm_ok a b c d e f g h i j k m n o p q r s t u v w x y z A B C; trim ((7,H)::(90,G)::(89,F)::(88,E)::(87,D)::l) l = [(0,a),(2,b),(3,c),(4,d),(6,e),(7,H),(8,g),(10,h),(11,i),(13,j),(16,k),(17,m),(18,n),(19,o),(20,p),(40,q),(47,r),(49,s),(52,t),(53,u),(54,v),(55,w),(61,x),(62,y),(63,z),(64,A),(76,B),(86,C)] := by intros; rfl
        refine R_nil (tr ..) ?_; clear tr
        refine blk_n ?_
        refine then_n ?_
        refine rg rfl ?_
        refine Rq ?_
        refine Rq ?_
        have tr : ∀ a b c d e f g h i j k m n o p q r s t u v w x y z A B C D E : AV, let l := lc_rnorm_ok a b c d e f g h i j k m n o p q r s t u v w x y z A B C; trim ((54,E)::(91,D)::l) l = [(0,a),(2,b),(3,c),(4,d),(6,e),(7,f),(8,g),(10,h),(11,i),(13,j),(16,k),(17,m),(18,n),(19,o),(20,p),(40,q),(47,r),(49,s),(52,t),(53,u),(54,E),(55,w),(61,x),(62,y),(63,z),(64,A),(76,B),(86,C)] := by intros; rfl
        refine R_nil (tr ..) ?_; clear tr
        refine then_n ?_
        exact ⟨_, _, ⟨k + 1, _, _, _, _, _, _, _, _, _, _, _, rfl, rfl, by omega, by exact hlE, by exact q52, by first | exact hOE | (rw [show 2 * r + (k + 1) = 2 * r + k + 1 by omega, pos_step (by rw [outL_len]; omega), outL_at (by omega) (by omega), if_pos hz]; exact hO)⟩, by rfl, by omega⟩
       ·
        try simp only [decide_eq_true_eq, decide_eq_false_iff_not, Bool.not_eq_true', Bool.not_eq_false', beq_iff_eq, beq_eq_false_iff_ne, ne_eq] at h13
        have hz : cnt d (r + 8 * k) d.length = 0 := by omega
        refine at_skip rfl ?_
        refine blk_n ?_
        refine then_n ?_
        refine rg rfl ?_
        refine Rq ?_
        refine Rq ?_
        have tr : ∀ a b c d e f g h i j k m n o p q r s t u v w x y z A B C D E : AV, let l := lc_rnorm_ok a b c d e f g h i j k m n o p q r s t u v w x y z A B C; trim ((54,E)::(91,D)::l) l = [(0,a),(2,b),(3,c),(4,d),(6,e),(7,f),(8,g),(10,h),(11,i),(13,j),(16,k),(17,m),(18,n),(19,o),(20,p),(40,q),(47,r),(49,s),(52,t),(53,u),(54,E),(55,w),(61,x),(62,y),(63,z),(64,A),(76,B),(86,C)] := by intros; rfl
        refine R_nil (tr ..) ?_; clear tr
        refine then_n ?_
        exact ⟨_, _, ⟨k + 1, _, _, _, _, _, _, _, _, _, _, _, rfl, rfl, by omega, by exact hlE, by exact q52, by first | exact hOE | (rw [show 2 * r + (k + 1) = 2 * r + k + 1 by omega, pos_step (by rw [outL_len]; omega), outL_at (by omega) (by omega), if_pos hz]; exact hO)⟩, by rfl, by omega⟩
     ·
      try simp only [decide_eq_true_eq, decide_eq_false_iff_not, Bool.not_eq_true', Bool.not_eq_false', beq_iff_eq, beq_eq_false_iff_ne, ne_eq] at h9
      refine at_exit rfl ?_
      refine then_x ?_
      refine then_x ?_
      refine blk_x ?_
      refine blk_n ?_
      refine then_n ?_
      refine rg rfl ?_
      refine Rq ?_
      refine Rq ?_
      refine Rq ?_
      have tr : ∀ a b c d e f g h i j k m n o p q r s t u v w x y z A B C D E F : AV, let l := lc_rnorm_ok a b c d e f g h i j k m n o p q r s t u v w x y z A B C; trim ((8,F)::(51,E)::(50,D)::l) l = [(0,a),(2,b),(3,c),(4,d),(6,e),(7,f),(8,F),(10,h),(11,i),(13,j),(16,k),(17,m),(18,n),(19,o),(20,p),(40,q),(47,r),(49,s),(52,t),(53,u),(54,v),(55,w),(61,x),(62,y),(63,z),(64,A),(76,B),(86,C)] := by intros; rfl
      refine R_nil (tr ..) ?_; clear tr
      refine then_n ?_
      exact ⟨_, _, ⟨r + 1, _, _, _, _, _, _, _, _, _, _, _, _, _, _, _, rfl, rfl, by omega, by exact hlB, by rw [show 2 * (r + 1) = 2 * r + 2 by omega]; have hk2 : k = 2 := (by omega); subst hk2; exact hO⟩, by rfl, by omega⟩
    ·
     try simp only [decide_eq_true_eq, decide_eq_false_iff_not, Bool.not_eq_true', Bool.not_eq_false', beq_iff_eq, beq_eq_false_iff_ne, ne_eq] at h8
     refine at_exit rfl ?_
     refine then_x ?_
     refine then_x ?_
     refine blk_x ?_
     refine then_n ?_
     refine at_seq rfl ?_
     refine rg rfl ?_
     refine Rq ?_
     refine Rq ?_
     refine Rq ?_
     have tr : ∀ a b c d e f g h i j k m n o p q r s t u v w x y z A B C D E F : AV, let l := lc_rnorm_ok a b c d e f g h i j k m n o p q r s t u v w x y z A B C; trim ((3,F)::(2,E)::(92,D)::l) l = [(0,a),(2,E),(3,F),(4,d),(6,e),(7,f),(8,g),(10,h),(11,i),(13,j),(16,k),(17,m),(18,n),(19,o),(20,p),(40,q),(47,r),(49,s),(52,t),(53,u),(54,v),(55,w),(61,x),(62,y),(63,z),(64,A),(76,B),(86,C)] := by intros; rfl
     refine R_nil (tr ..) ?_; clear tr
     refine then_n ?_
     refine at_ret rfl ?_
     first | (refine fpure ?_; refine ⟨?_, rfl⟩; have e16 : (outL (wv d)).take (2 * r) = (outL (wv d)) := List.take_of_length_le (by rw [outL_len]; omega); rw [e16] at hO; exact congrArg (fun z => AV.tup [z, AV.i 0]) (hO.frz.trans (outO_ne (pos_out_ne g.gd))))

end Go.Proofs.Ytplockpopmaejaa
end
