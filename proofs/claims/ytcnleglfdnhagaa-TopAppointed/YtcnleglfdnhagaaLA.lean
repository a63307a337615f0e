/-
  Walks of the law of chapter 55. The steps are written by program (walk.py).
-/
import Derived.Test.YtcnleglfdnhagaaLSig
import Derived.Test.YtcnleglfdnhagaaLp
set_option linter.unusedSimpArgs false
set_option linter.unusedVariables false
set_option maxHeartbeats 4000000
set_option maxRecDepth 20000
namespace Go.Proofs.Ytcnleglfdnhagaa.L
open Go Go.Am
abbrev lc_clo_ok (a b c d e : AV) : Env := [(0,a),(1,b),(2,c),(3,d),(4,e)]
theorem clo_ok (lim : Nat) (H : Heap) (b6 b16 : Nat) (nums : List Int) (x : Du) (y : Um) (h6 : hget H b6 = some [intsAV nums]) (h16 : hget H b16 = some (umC y)) (hn : nums.length ≤ 1000000) (hl : y.ds.length ≤ 1000000) : ACall sig lim 7 [.agg (duC x), .ptr b6 0, .ptr b16 0] H fun r H' => r = .v (.bool (qB nums y x)) ∧ H' = H := by
 have hnx : True := trivial
 refine ACall_pure (fa := fa7) rfl rfl rfl rfl ?_
 have tr : ∀ a0 a1 a2 : AV, env0 fa7.keep [a0, a1, a2] = [(0,a0),(1,a1),(2,a2),(3,.any),(4,.any)] := fun a0 a1 a2 => rfl
 refine W_to (tr _ _ _) ?_; clear tr
 refine at_seq rfl ?_
 refine rg rfl ?_
 refine A_box rfl (by simp (disch := first | omega | (simp only [List.length_map, List.length_append, List.length_set, List.length_cons, List.length_nil]; omega)) only [go_sem, ↓reduceIte, Nat.reduceEqDiff, reduceCtorEq]; rfl) ?_
 intro H1 n1
 have h6 := (n1.old _ (hget_lt h6)).trans h6
 have h16 := (n1.old _ (hget_lt h16)).trans h16
 have hnx := n1.new
 refine Rq ?_
 have tr : ∀ a b c d e f g : AV, let l := lc_clo_ok a b c d e; trim ((4,g)::(3,f)::l) l = [(0,a),(1,b),(2,c),(3,f),(4,g)] := by intros; rfl
 refine R_nil (tr ..) ?_; clear tr
 refine then_n ?_
 refine at_seq rfl ?_
 refine rg rfl ?_
 refine R_q rfl (by simp (disch := first | omega | (simp only [List.length_map, List.length_append, List.length_set, List.length_cons, List.length_nil]; omega)) only [go_sem, ↓reduceIte, Nat.reduceEqDiff, reduceCtorEq, h6, h16, hnx]; rfl) ?_
 refine Rq ?_
 refine R_q rfl (by simp (disch := first | omega | (simp only [List.length_map, List.length_append, List.length_set, List.length_cons, List.length_nil]; omega)) only [go_sem, ↓reduceIte, Nat.reduceEqDiff, reduceCtorEq, h6, h16, hnx]; rfl) ?_
 refine Rcall ?_
 refine ACall_prim (r := .v (.bool (nums.contains x.mt))) rfl (cont_eq hn) ?_
 refine Rq ?_
 refine Rp_split (fun h1 => ?_) (fun h1 => ?_)
 ·
  try simp only [decide_eq_true_eq, decide_eq_false_iff_not, Bool.not_eq_true', Bool.not_eq_false', beq_iff_eq, beq_eq_false_iff_ne, ne_eq] at h1
  refine Ry ?_
  refine Rq ?_
  refine Ry ?_
  refine R_q rfl (by simp (disch := first | omega | (simp only [List.length_map, List.length_append, List.length_set, List.length_cons, List.length_nil]; omega)) only [go_sem, ↓reduceIte, Nat.reduceEqDiff, reduceCtorEq, h6, h16, hnx]; rfl) ?_
  refine Ry ?_
  refine Rq ?_
  refine Ry ?_
  refine R_q rfl (by simp (disch := first | omega | (simp only [List.length_map, List.length_append, List.length_set, List.length_cons, List.length_nil]; omega)) only [go_sem, ↓reduceIte, Nat.reduceEqDiff, reduceCtorEq, h6, h16, hnx]; rfl) ?_
  refine Ry ?_
  refine Rcall ?_
  refine ACall_prim (r := .v (.bool (y.ds.contains x.dy))) rfl (cont_eq hl) ?_
  refine Rq ?_
  refine Rq ?_
  refine Rp_split (fun h2 => ?_) (fun h2 => ?_)
  ·
   try simp only [decide_eq_true_eq, decide_eq_false_iff_not, Bool.not_eq_true', Bool.not_eq_false', beq_iff_eq, beq_eq_false_iff_ne, ne_eq] at h2
   refine Ry ?_
   refine Rq ?_
   refine Ry ?_
   refine R_q rfl (by simp (disch := first | omega | (simp only [List.length_map, List.length_append, List.length_set, List.length_cons, List.length_nil]; omega)) only [go_sem, ↓reduceIte, Nat.reduceEqDiff, reduceCtorEq, h6, h16, hnx]; rfl) ?_
   refine Ry ?_
   refine Rq ?_
   refine Ry ?_
   refine Rq ?_
   refine Rp_split (fun h3 => ?_) (fun h3 => ?_)
   ·
    try simp only [decide_eq_true_eq, decide_eq_false_iff_not, Bool.not_eq_true', Bool.not_eq_false', beq_iff_eq, beq_eq_false_iff_ne, ne_eq] at h3
    refine Rn ?_
    refine Rn ?_
    refine Rn ?_
    refine Rn ?_
    refine Rn ?_
    refine Rn ?_
    refine Ru ?_
    refine Ru ?_
    refine Ru ?_
    refine Ru ?_
    refine Ru ?_
    refine Rn ?_
    refine Ry ?_
    refine Rq ?_
    refine Rq ?_
    refine Rq ?_
    have tr : ∀ a b c d e f g h i j k m n o p q r s t u v w x y z A B C D E F G H I J K : AV, let l := lc_clo_ok a b c d e; trim ((4,K)::(34,J)::(33,I)::(32,H)::(31,G)::(30,F)::(29,E)::(28,D)::(27,C)::(26,B)::(25,A)::(24,z)::(23,y)::(22,x)::(21,w)::(20,v)::(19,u)::(18,t)::(17,s)::(16,r)::(15,q)::(14,p)::(13,o)::(12,n)::(11,m)::(10,k)::(9,j)::(8,i)::(7,h)::(6,g)::(5,f)::l) l = [(0,a),(1,b),(2,c),(3,d),(4,K)] := by intros; rfl
    refine R_nil (tr ..) ?_; clear tr
    refine then_n ?_
    refine at_ret rfl ?_
    refine fpure ?_
    refine ⟨?_, rfl⟩
    refine congrArg (fun b => AV.v (.bool b)) ?_
    unfold qB mayB eqB
    first | rfl | (simp_all <;> fail) | (rw [Bool.eq_iff_iff]; simp_all <;> fail) | (rw [Bool.eq_iff_iff]; simp_all; intro h8 h9; simp_all) | (cases h8 : (y.tm.toList == x.aw.toList) <;> simp_all)
   ·
    try simp only [decide_eq_true_eq, decide_eq_false_iff_not, Bool.not_eq_true', Bool.not_eq_false', beq_iff_eq, beq_eq_false_iff_ne, ne_eq] at h3
    refine Ry ?_
    refine Rq ?_
    refine Ry ?_
    refine R_q rfl (by simp (disch := first | omega | (simp only [List.length_map, List.length_append, List.length_set, List.length_cons, List.length_nil]; omega)) only [go_sem, ↓reduceIte, Nat.reduceEqDiff, reduceCtorEq, h6, h16, hnx]; rfl) ?_
    refine Ry ?_
    refine Rq ?_
    refine Ry ?_
    refine R_q rfl (by simp (disch := first | omega | (simp only [List.length_map, List.length_append, List.length_set, List.length_cons, List.length_nil]; omega)) only [go_sem, ↓reduceIte, Nat.reduceEqDiff, reduceCtorEq, h6, h16, hnx]; rfl) ?_
    refine Ry ?_
    refine Rq ?_
    refine Ry ?_
    refine Rq ?_
    refine Rp_split (fun h4 => ?_) (fun h4 => ?_)
    ·
     try simp only [decide_eq_true_eq, decide_eq_false_iff_not, Bool.not_eq_true', Bool.not_eq_false', beq_iff_eq, beq_eq_false_iff_ne, ne_eq] at h4
     refine Ry ?_
     refine Rq ?_
     refine Ry ?_
     refine R_q rfl (by simp (disch := first | omega | (simp only [List.length_map, List.length_append, List.length_set, List.length_cons, List.length_nil]; omega)) only [go_sem, ↓reduceIte, Nat.reduceEqDiff, reduceCtorEq, h6, h16, hnx]; rfl) ?_
     refine Ry ?_
     refine Rq ?_
     refine Ry ?_
     refine R_q rfl (by simp (disch := first | omega | (simp only [List.length_map, List.length_append, List.length_set, List.length_cons, List.length_nil]; omega)) only [go_sem, ↓reduceIte, Nat.reduceEqDiff, reduceCtorEq, h6, h16, hnx]; rfl) ?_
     refine Ry ?_
     refine Rq ?_
     refine Ry ?_
     refine Rq ?_
     refine Ry ?_
     refine Rq ?_
     refine Rq ?_
     refine Rq ?_
     have tr : ∀ a b c d e f g h i j k m n o p q r s t u v w x y z A B C D E F G H I J K : AV, let l := lc_clo_ok a b c d e; trim ((4,K)::(34,J)::(33,I)::(32,H)::(31,G)::(30,F)::(29,E)::(28,D)::(27,C)::(26,B)::(25,A)::(24,z)::(23,y)::(22,x)::(21,w)::(20,v)::(19,u)::(18,t)::(17,s)::(16,r)::(15,q)::(14,p)::(13,o)::(12,n)::(11,m)::(10,k)::(9,j)::(8,i)::(7,h)::(6,g)::(5,f)::l) l = [(0,a),(1,b),(2,c),(3,d),(4,K)] := by intros; rfl
     refine R_nil (tr ..) ?_; clear tr
     refine then_n ?_
     refine at_ret rfl ?_
     refine fpure ?_
     refine ⟨?_, rfl⟩
     refine congrArg (fun b => AV.v (.bool b)) ?_
     unfold qB mayB eqB
     first | rfl | (simp_all <;> fail) | (rw [Bool.eq_iff_iff]; simp_all <;> fail) | (rw [Bool.eq_iff_iff]; simp_all; intro h8 h9; simp_all) | (cases h8 : (y.tm.toList == x.aw.toList) <;> simp_all)
    ·
     try simp only [decide_eq_true_eq, decide_eq_false_iff_not, Bool.not_eq_true', Bool.not_eq_false', beq_iff_eq, beq_eq_false_iff_ne, ne_eq] at h4
     refine Rn ?_
     refine Rn ?_
     refine Rn ?_
     refine Rn ?_
     refine Rn ?_
     refine Ry ?_
     refine Rq ?_
     refine Ry ?_
     refine Rq ?_
     refine Rq ?_
     refine Rq ?_
     have tr : ∀ a b c d e f g h i j k m n o p q r s t u v w x y z A B C D E F G H I J K : AV, let l := lc_clo_ok a b c d e; trim ((4,K)::(34,J)::(33,I)::(32,H)::(31,G)::(30,F)::(29,E)::(28,D)::(27,C)::(26,B)::(25,A)::(24,z)::(23,y)::(22,x)::(21,w)::(20,v)::(19,u)::(18,t)::(17,s)::(16,r)::(15,q)::(14,p)::(13,o)::(12,n)::(11,m)::(10,k)::(9,j)::(8,i)::(7,h)::(6,g)::(5,f)::l) l = [(0,a),(1,b),(2,c),(3,d),(4,K)] := by intros; rfl
     refine R_nil (tr ..) ?_; clear tr
     refine then_n ?_
     refine at_ret rfl ?_
     refine fpure ?_
     refine ⟨?_, rfl⟩
     refine congrArg (fun b => AV.v (.bool b)) ?_
     unfold qB mayB eqB
     first | rfl | (simp_all <;> fail) | (rw [Bool.eq_iff_iff]; simp_all <;> fail) | (rw [Bool.eq_iff_iff]; simp_all; intro h8 h9; simp_all) | (cases h8 : (y.tm.toList == x.aw.toList) <;> simp_all)
  ·
   try simp only [decide_eq_true_eq, decide_eq_false_iff_not, Bool.not_eq_true', Bool.not_eq_false', beq_iff_eq, beq_eq_false_iff_ne, ne_eq] at h2
   refine Rn ?_
   refine Rn ?_
   refine Rn ?_
   refine Rn ?_
   refine Ru ?_
   refine Ru ?_
   refine Ru ?_
   refine Ru ?_
   refine Ru ?_
   refine Ru ?_
   refine Ru ?_
   refine Ru ?_
   refine Ru ?_
   refine Ru ?_
   refine Ru ?_
   refine Ru ?_
   refine Rn ?_
   refine Rq ?_
   refine Rq ?_
   have tr : ∀ a b c d e f g h i j k m n o p q r s t u v w x y z A B C D E F G H I J K : AV, let l := lc_clo_ok a b c d e; trim ((4,K)::(34,J)::(33,I)::(32,H)::(31,G)::(30,F)::(29,E)::(28,D)::(27,C)::(26,B)::(25,A)::(24,z)::(23,y)::(22,x)::(21,w)::(20,v)::(19,u)::(18,t)::(17,s)::(16,r)::(15,q)::(14,p)::(13,o)::(12,n)::(11,m)::(10,k)::(9,j)::(8,i)::(7,h)::(6,g)::(5,f)::l) l = [(0,a),(1,b),(2,c),(3,d),(4,K)] := by intros; rfl
   refine R_nil (tr ..) ?_; clear tr
   refine then_n ?_
   refine at_ret rfl ?_
   refine fpure ?_
   refine ⟨?_, rfl⟩
   refine congrArg (fun b => AV.v (.bool b)) ?_
   unfold qB mayB eqB
   first | rfl | (simp_all <;> fail) | (rw [Bool.eq_iff_iff]; simp_all <;> fail) | (rw [Bool.eq_iff_iff]; simp_all; intro h8 h9; simp_all) | (cases h8 : (y.tm.toList == x.aw.toList) <;> simp_all)
 ·
  try simp only [decide_eq_true_eq, decide_eq_false_iff_not, Bool.not_eq_true', Bool.not_eq_false', beq_iff_eq, beq_eq_false_iff_ne, ne_eq] at h1
  refine Rn ?_
  refine Rn ?_
  refine Rn ?_
  refine Rn ?_
  refine Rn ?_
  refine Rq ?_
  refine Rq ?_
  refine Rn ?_
  refine Rn ?_
  refine Rn ?_
  refine Rn ?_
  refine Ru ?_
  refine Ru ?_
  refine Ru ?_
  refine Ru ?_
  refine Ru ?_
  refine Ru ?_
  refine Ru ?_
  refine Ru ?_
  refine Ru ?_
  refine Ru ?_
  refine Ru ?_
  refine Ru ?_
  refine Rn ?_
  refine Rq ?_
  refine Rq ?_
  have tr : ∀ a b c d e f g h i j k m n o p q r s t u v w x y z A B C D E F G H I J K : AV, let l := lc_clo_ok a b c d e; trim ((4,K)::(34,J)::(33,I)::(32,H)::(31,G)::(30,F)::(29,E)::(28,D)::(27,C)::(26,B)::(25,A)::(24,z)::(23,y)::(22,x)::(21,w)::(20,v)::(19,u)::(18,t)::(17,s)::(16,r)::(15,q)::(14,p)::(13,o)::(12,n)::(11,m)::(10,k)::(9,j)::(8,i)::(7,h)::(6,g)::(5,f)::l) l = [(0,a),(1,b),(2,c),(3,d),(4,K)] := by intros; rfl
  refine R_nil (tr ..) ?_; clear tr
  refine then_n ?_
  refine at_ret rfl ?_
  refine fpure ?_
  refine ⟨?_, rfl⟩
  refine congrArg (fun b => AV.v (.bool b)) ?_
  unfold qB mayB eqB
  first | rfl | (simp_all <;> fail) | (rw [Bool.eq_iff_iff]; simp_all <;> fail) | (rw [Bool.eq_iff_iff]; simp_all; intro h8 h9; simp_all) | (cases h8 : (y.tm.toList == x.aw.toList) <;> simp_all)

abbrev lc_index_ok (a b c d e f g h : AV) : Env := [(0,a),(1,b),(4,c),(5,d),(7,e),(8,f),(9,g),(16,h)]
theorem index_ok (lim : Nat) (H : Heap) (b6 b16 : Nat) (nums : List Int) (l : List Du) (k : Nat) (hkl : k ≤ l.length) (hk1 : k ≤ 1000) (y : Um) (h6 : hget H b6 = some [intsAV nums]) (h16 : hget H b16 = some (umC y)) (hn : nums.length ≤ 1000000) (hl : y.ds.length ≤ 1000000) : ACall sig lim 16 [.sl k (flatD l), .clo 7 [.ptr b6 0, .ptr b16 0]] H fun r H' => r = AV.i (fidx (fun u => qB nums y (gt l u)) k) ∧ H' = H := by
 refine ACall_pure (fa := fa16) rfl rfl rfl rfl ?_
 have tr : ∀ a0 a1 : AV, env0 fa16.keep [a0, a1] = [(0,a0),(1,a1),(4,.any),(5,.any),(7,.any),(8,.any),(9,.any),(16,.any)] := fun a0 a1 => rfl
 refine W_to (tr _ _) ?_; clear tr
 refine at_seq rfl ?_
 refine rg rfl ?_
 refine Rq ?_
 have tr : ∀ a b c d e f g h i : AV, let l := lc_index_ok a b c d e f g h; trim ((4,i)::l) l = [(0,a),(1,b),(4,i),(5,d),(7,e),(8,f),(9,g),(16,h)] := by intros; rfl
 refine R_nil (tr ..) ?_; clear tr
 refine then_n ?_
 refine at_seq rfl ?_
 refine at_seq rfl ?_
 refine rg rfl ?_
 refine Rq ?_
 refine Rq ?_
 refine Rq ?_
 have tr : ∀ a b c d e f g h i j k : AV, let l := lc_index_ok a b c d e f g h; trim ((8,k)::(7,j)::(6,i)::l) l = [(0,a),(1,b),(4,c),(5,d),(7,j),(8,k),(9,g),(16,h)] := by intros; rfl
 refine R_nil (tr ..) ?_; clear tr
 refine then_n ?_
 refine at_block rfl ?_
 refine loop_n rfl (fun mm kv H' => ∃ u : Nat, ∃ x4 x5 x9 x16 : AV, (kv = [(4, x4), (5, x5), (8, AV.i (u : Int)), (9, x9), (16, x16)]) ∧ (mm = k - u) ∧ (H' = H) ∧ (u ≤ k) ∧ (∀ i, i < u → (fun u => qB nums y (gt l u)) i = false)) ⟨0, _, _, _, _, rfl, rfl, rfl, by omega, by intro i hi; omega⟩ (by rfl) ?_
 rintro mm kv H' ⟨u, x4, x5, x9, x16, rfl, rfl, rfl, hu, hk⟩
 have tr : ∀ a b c d e f g h i j k m n : AV, upd [(0,a),(1,b),(4,c),(5,d),(7,e),(8,f),(9,g),(16,h)] [(4,i),(5,j),(8,k),(9,m),(16,n)] = [(0,a),(1,b),(4,i),(5,j),(7,e),(8,k),(9,m),(16,n)] := by intros; rfl
 refine W_to (tr ..) ?_; clear tr
 refine at_seq rfl ?_
 refine rg rfl ?_
 refine Rq ?_
 have tr : ∀ a b c d e f g h i : AV, let l := lc_index_ok a b c d e f g h; trim ((9,i)::l) l = [(0,a),(1,b),(4,c),(5,d),(7,e),(8,f),(9,i),(16,h)] := by intros; rfl
 refine R_nil (tr ..) ?_; clear tr
 refine then_n ?_
 refine at_seq rfl ?_
 refine cdd (fun h1 => ?_) (fun h1 => ?_)
 ·
  try simp only [decide_eq_true_eq, decide_eq_false_iff_not, Bool.not_eq_true', Bool.not_eq_false', beq_iff_eq, beq_eq_false_iff_ne, ne_eq] at h1
  refine at_skip rfl ?_
  refine then_n ?_
  refine at_seq rfl ?_
  refine at_block rfl ?_
  refine at_seq rfl ?_
  refine rg rfl ?_
  refine Rq ?_
  refine Rq ?_
  have tr : ∀ a b c d e f g h i j : AV, let l := lc_index_ok a b c d e f g h; trim ((5,j)::(10,i)::l) l = [(0,a),(1,b),(4,c),(5,j),(7,e),(8,f),(9,g),(16,h)] := by intros; rfl
  refine R_nil (tr ..) ?_; clear tr
  refine then_n ?_
  refine at_seq rfl ?_
  refine rg rfl ?_
  refine Rq ?_
  refine Rq ?_
  refine Rq ?_
  refine Rq ?_
  refine Rq ?_
  refine R_callv (by simp (disch := first | omega | (simp only [List.length_map, List.length_append, List.length_set, List.length_cons, List.length_nil]; omega)) only [go_sem, ↓reduceIte, Nat.reduceEqDiff, reduceCtorEq]; rfl) (by simp only [List.map_cons, List.map_nil, List.cons_append, List.nil_append, go_sem, ↓reduceIte, Nat.reduceEqDiff]; rfl) ?_
  refine ACall_eq (clo_ok _ _ b6 b16 nums (gt l u) y h6 h16 hn hl) ?_
  have tr : ∀ a b c d e f g h i j k m n o : AV, let l := lc_index_ok a b c d e f g h; trim ((16,o)::(15,n)::(14,m)::(13,k)::(12,j)::(11,i)::l) l = [(0,a),(1,b),(4,c),(5,d),(7,e),(8,f),(9,g),(16,o)] := by intros; rfl
  refine R_nil (tr ..) ?_; clear tr
  refine then_n ?_
  refine cdd (fun h2 => ?_) (fun h2 => ?_)
  ·
   try simp only [decide_eq_true_eq, decide_eq_false_iff_not, Bool.not_eq_true', Bool.not_eq_false', beq_iff_eq, beq_eq_false_iff_ne, ne_eq] at h2
   refine at_seq rfl ?_
   refine rg rfl ?_
   refine Rq ?_
   refine Rq ?_
   have tr : ∀ a b c d e f g h i j : AV, let l := lc_index_ok a b c d e f g h; trim ((4,j)::(17,i)::l) l = [(0,a),(1,b),(4,j),(5,d),(7,e),(8,f),(9,g),(16,h)] := by intros; rfl
   refine R_nil (tr ..) ?_; clear tr
   refine then_n ?_
   refine at_ret rfl ?_
   refine blk_r ?_
   refine then_r ?_
   refine then_r ?_
   refine blk_r ?_
   refine then_r ?_
   first | (refine fpure ?_; refine ⟨?_, rfl⟩; rw [fidx_hit (v := u) (by omega) hk (by simp_all)]) | (refine fpure ?_; refine ⟨?_, rfl⟩; rw [fidx_miss (v := u) (by omega) hk])
  ·
   try simp only [decide_eq_true_eq, decide_eq_false_iff_not, Bool.not_eq_true', Bool.not_eq_false', beq_iff_eq, beq_eq_false_iff_ne, ne_eq] at h2
   refine at_skip rfl ?_
   refine blk_n ?_
   refine then_n ?_
   refine rg rfl ?_
   refine Rq ?_
   refine Rq ?_
   have tr : ∀ a b c d e f g h i j : AV, let l := lc_index_ok a b c d e f g h; trim ((8,j)::(18,i)::l) l = [(0,a),(1,b),(4,c),(5,d),(7,e),(8,j),(9,g),(16,h)] := by intros; rfl
   refine R_nil (tr ..) ?_; clear tr
   refine then_n ?_
   exact ⟨_, _, ⟨u + 1, _, _, _, _, rfl, rfl, rfl, by omega, by exact all_step hk (by simp_all)⟩, by rfl, by omega⟩
 ·
  try simp only [decide_eq_true_eq, decide_eq_false_iff_not, Bool.not_eq_true', Bool.not_eq_false', beq_iff_eq, beq_eq_false_iff_ne, ne_eq] at h1
  refine at_exit rfl ?_
  refine then_x ?_
  refine then_x ?_
  refine blk_x ?_
  refine then_n ?_
  refine at_seq rfl ?_
  refine rg rfl ?_
  refine Rq ?_
  have tr : ∀ a b c d e f g h i : AV, let l := lc_index_ok a b c d e f g h; trim ((4,i)::l) l = [(0,a),(1,b),(4,i),(5,d),(7,e),(8,f),(9,g),(16,h)] := by intros; rfl
  refine R_nil (tr ..) ?_; clear tr
  refine then_n ?_
  refine at_ret rfl ?_
  first | (refine fpure ?_; refine ⟨?_, rfl⟩; rw [fidx_hit (v := u) (by omega) hk (by simp_all)]) | (refine fpure ?_; refine ⟨?_, rfl⟩; rw [fidx_miss (v := u) (by omega) hk])

abbrev lc_contf_ok (a b c : AV) : Env := [(0,a),(1,b),(4,c)]
theorem contf_ok (lim : Nat) (H : Heap) (b6 b16 : Nat) (nums : List Int) (l : List Du) (k : Nat) (hkl : k ≤ l.length) (hk1 : k ≤ 1000) (y : Um) (h6 : hget H b6 = some [intsAV nums]) (h16 : hget H b16 = some (umC y)) (hn : nums.length ≤ 1000000) (hl : y.ds.length ≤ 1000000) : ACall sig lim 6 [.sl k (flatD l), .clo 7 [.ptr b6 0, .ptr b16 0]] H fun r H' => r = .v (.bool (decide (0 ≤ fidx (fun u => qB nums y (gt l u)) k))) ∧ H' = H := by
 refine ACall_pure (fa := fa6) rfl rfl rfl rfl ?_
 have tr : ∀ a0 a1 : AV, env0 fa6.keep [a0, a1] = [(0,a0),(1,a1),(4,.any)] := fun a0 a1 => rfl
 refine W_to (tr _ _) ?_; clear tr
 refine at_seq rfl ?_
 refine rg rfl ?_
 refine Rq ?_
 have tr : ∀ a b c d : AV, let l := lc_contf_ok a b c; trim ((4,d)::l) l = [(0,a),(1,b),(4,d)] := by intros; rfl
 refine R_nil (tr ..) ?_; clear tr
 refine then_n ?_
 refine at_seq rfl ?_
 refine rg rfl ?_
 refine Rq ?_
 refine Rq ?_
 refine Rcall ?_
 refine ACall_eq (index_ok _ _ b6 b16 nums l k hkl hk1 y h6 h16 hn hl) ?_
 refine Rq ?_
 refine Rq ?_
 have tr : ∀ a b c d e f g h : AV, let l := lc_contf_ok a b c; trim ((4,h)::(8,g)::(7,f)::(6,e)::(5,d)::l) l = [(0,a),(1,b),(4,h)] := by intros; rfl
 refine R_nil (tr ..) ?_; clear tr
 refine then_n ?_
 refine at_ret rfl ?_
 refine fpure ?_
 refine ⟨?_, rfl⟩
 first | rfl | simp

end Go.Proofs.Ytcnleglfdnhagaa.L
