/-
  Walks of the seat of TopReserve. The steps are written by program (walk.py).
-/
import Derived.Test.YtkjgmpjnhfmecaaMe
import Derived.Test.YtkjgmpjnhfmecaaSig
set_option linter.unusedSimpArgs false
set_option linter.unusedVariables false
set_option maxHeartbeats 40000000
set_option maxRecDepth 4000
namespace Go.Proofs.Ytkjgmpjnhfmecaa
open Go Go.Am

abbrev lc_next_ok (a b c d e f g h i j k m : AV) : Env := [(0,a),(1,b),(2,c),(6,d),(7,e),(8,f),(9,g),(10,h),(11,i),(12,j),(13,k),(41,m)]
theorem next_ok (lim : Nat) (H : Heap) (x x' : AV) (J : List Jb) (hx : frz H 0 8 x = x') (hJ : AnyJ x' J) (hJl : J.length ≤ 400) (y : AV) (D : List Int) (hy : frz H 0 8 y = intsAV D) (hD : D.length = J.length) (day : Int) :
    ACall sig lim 16 [x, y, AV.i day] H fun r H' => r = AV.i (nx J D day J.length) ∧ H' = H := by
 have hargs : [x, y, AV.i day].map (frz H 0 8) = [x', intsAV D, AV.i day] := by
   show [frz H 0 8 x, frz H 0 8 y, frz H 0 8 (AV.i day)] = _
   rw [hx, hy]
   try rfl
 have q9 : True := trivial
 refine ACall_data (fa := fa16) rfl rfl rfl rfl hargs ?_
 have tr : ∀ a0 a1 a2 : AV, env0 fa16.keep [a0, a1, a2] = [(0,a0),(1,a1),(2,a2),(6,.any),(7,.any),(8,.any),(9,.any),(10,.any),(11,.any),(12,.any),(13,.any),(41,.any)] := fun a0 a1 a2 => rfl
 refine W_to (tr _ _ _) ?_; clear tr
 refine at_seq rfl ?_
 refine rg rfl ?_
 refine Rq ?_
 have tr : ∀ a b c d e f g h i j k m n : AV, let l := lc_next_ok a b c d e f g h i j k m; trim ((6,n)::l) l = [(0,a),(1,b),(2,c),(6,n),(7,e),(8,f),(9,g),(10,h),(11,i),(12,j),(13,k),(41,m)] := by intros; rfl
 refine R_nil (tr ..) ?_; clear tr
 refine then_n ?_
 refine at_seq rfl ?_
 refine rg rfl ?_
 refine Rq ?_
 have tr : ∀ a b c d e f g h i j k m n : AV, let l := lc_next_ok a b c d e f g h i j k m; trim ((7,n)::l) l = [(0,a),(1,b),(2,c),(6,d),(7,n),(8,f),(9,g),(10,h),(11,i),(12,j),(13,k),(41,m)] := by intros; rfl
 refine R_nil (tr ..) ?_; clear tr
 refine then_n ?_
 refine at_seq rfl ?_
 refine at_seq rfl ?_
 refine rg rfl ?_
 refine Rq ?_
 refine R_q (r := AV.i (J.length : Nat)) rfl (by simp (disch := first | omega | (simp only [List.length_map, List.length_append, List.length_set, List.length_cons, List.length_nil]; omega)) only [go_sem, ↓reduceIte, Nat.reduceEqDiff, reduceCtorEq]; exact hJ.len) ?_
 refine Rq ?_
 have tr : ∀ a b c d e f g h i j k m n o p : AV, let l := lc_next_ok a b c d e f g h i j k m; trim ((12,p)::(11,o)::(10,n)::l) l = [(0,a),(1,b),(2,c),(6,d),(7,e),(8,f),(9,g),(10,n),(11,o),(12,p),(13,k),(41,m)] := by intros; rfl
 refine R_nil (tr ..) ?_; clear tr
 refine then_n ?_
 refine at_block rfl ?_
 refine loop_n rfl (fun mm kv H' => ∃ u : Nat, ∃ n : Int, ∃ x8 x9 x13 x41 : AV, (kv = [(7, AV.i n), (8, x8), (9, x9), (12, AV.i u), (13, x13), (41, x41)]) ∧ (mm = J.length - u) ∧ (u ≤ J.length) ∧ (n = nx J D day u)) ⟨0, -1, _, _, _, _, rfl, rfl, by omega, by rfl⟩ (by rfl) ?_
 rintro mm kv HL ⟨u, n, x8, x9, x13, x41, rfl, rfl, hu, hn⟩
 have tr : ∀ a b c d e f g h i j k m n o p q r s : AV, upd [(0,a),(1,b),(2,c),(6,d),(7,e),(8,f),(9,g),(10,h),(11,i),(12,j),(13,k),(41,m)] [(7,n),(8,o),(9,p),(12,q),(13,r),(41,s)] = [(0,a),(1,b),(2,c),(6,d),(7,n),(8,o),(9,p),(10,h),(11,i),(12,q),(13,r),(41,s)] := by intros; rfl
 refine W_to (tr ..) ?_; clear tr
 have hnb := nx_box J D day u
 rewrite [← hn] at hnb
 refine at_seq rfl ?_
 refine rg rfl ?_
 refine Rq ?_
 have tr : ∀ a b c d e f g h i j k m n : AV, let l := lc_next_ok a b c d e f g h i j k m; trim ((13,n)::l) l = [(0,a),(1,b),(2,c),(6,d),(7,e),(8,f),(9,g),(10,h),(11,i),(12,j),(13,n),(41,m)] := by intros; rfl
 refine R_nil (tr ..) ?_; clear tr
 refine then_n ?_
 refine at_seq rfl ?_
 refine cdd (fun h1 => ?_) (fun h1 => ?_)
 ·
  try simp only [decide_eq_true_eq, decide_eq_false_iff_not, Bool.not_eq_true', Bool.not_eq_false', beq_iff_eq, beq_eq_false_iff_ne, ne_eq] at h1
  refine at_skip rfl ?_
  refine then_n ?_
  refine at_seq rfl ?_
  refine at_block rfl ?_
  refine at_seq rfl ?_
  refine rg rfl ?_
  obtain rfl := hJ.sl (by omega)
  refine Rq ?_
  refine Rq ?_
  refine R_q rfl (by simp (disch := first | omega | (simp only [List.length_map, List.length_append, List.length_set, List.length_cons, List.length_nil]; omega)) only [go_sem, ↓reduceIte, Nat.reduceEqDiff, reduceCtorEq, q9]; rfl) ?_
  refine A_alloc rfl ?_
  intro H4 n4
  have en4 := n4.len
  have q9 := n4.new
  refine Rq ?_
  have lq9 := hget_lt q9
  refine A_store ty43 (by simp (disch := first | omega | (simp only [List.length_map, List.length_append, List.length_set, List.length_cons, List.length_nil]; omega)) only [go_sem, ↓reduceIte, Nat.reduceEqDiff, reduceCtorEq, q9] <;> rfl) (by simp (disch := first | omega | (simp only [List.length_map, List.length_append, List.length_set, List.length_cons, List.length_nil]; omega)) only [go_sem, ↓reduceIte, Nat.reduceEqDiff, reduceCtorEq, q9] <;> rfl) q9 ⟨by omega, rfl, by first | exact Nat.le_refl _ | simp⟩ (k' := jbC (gt J u)) rfl ?_
  intro H4w w4
  have ew4 := w4.len
  have q9 := w4.new
  have tr : ∀ a b c d e f g h i j k m n o p q r : AV, let l := lc_next_ok a b c d e f g h i j k m; trim ((8,r)::(9,q)::(16,p)::(15,o)::(14,n)::l) l = [(0,a),(1,b),(2,c),(6,d),(7,e),(8,r),(9,q),(10,h),(11,i),(12,j),(13,k),(41,m)] := by intros; rfl
  refine R_nil (tr ..) ?_; clear tr
  refine then_n ?_
  refine at_seq rfl ?_
  refine rd rfl rfl ?_
  refine Qq ?_
  refine Qq ?_
  refine Qq ?_
  refine Q_q (r := AV.i (gt D u)) rfl (by simp (disch := first | omega | (simp only [List.length_map, List.length_append, List.length_set, List.length_cons, List.length_nil]; omega)) only [go_sem, ↓reduceIte, Nat.reduceEqDiff, reduceCtorEq] <;> exact ints_at D u (by omega)) ?_
  refine Qq ?_
  refine Qq ?_
  refine Qp_split (fun h2 => ?_) (fun h2 => ?_)
  ·
   try simp only [decide_eq_true_eq, decide_eq_false_iff_not, Bool.not_eq_true', Bool.not_eq_false', beq_iff_eq, beq_eq_false_iff_ne, ne_eq] at h2
   refine Qy ?_
   refine Qq ?_
   refine Qy ?_
   refine Q_q (r := AV.i (gt J u).f) rfl (by simp (disch := first | omega | (simp only [List.length_map, List.length_append, List.length_set, List.length_cons, List.length_nil]; omega)) only [go_sem, ↓reduceIte, Nat.reduceEqDiff, reduceCtorEq, q9] <;> rfl) ?_
   refine Qy ?_
   refine Qq ?_
   refine Qy ?_
   refine Qq ?_
   refine Qq ?_
   refine Qq ?_
   refine Qp_split (fun h3 => ?_) (fun h3 => ?_)
   ·
    try simp only [decide_eq_true_eq, decide_eq_false_iff_not, Bool.not_eq_true', Bool.not_eq_false', beq_iff_eq, beq_eq_false_iff_ne, ne_eq] at h3
    refine Qy ?_
    refine Qq ?_
    refine Qy ?_
    refine Qq ?_
    refine Qy ?_
    refine Qq ?_
    refine Qp_split (fun h4 => ?_) (fun h4 => ?_)
    ·
     try simp only [decide_eq_true_eq, decide_eq_false_iff_not, Bool.not_eq_true', Bool.not_eq_false', beq_iff_eq, beq_eq_false_iff_ne, ne_eq] at h4
     refine Qn ?_
     refine Qn ?_
     refine Qn ?_
     refine Qn ?_
     refine Qn ?_
     refine Qn ?_
     refine Qn ?_
     refine Qn ?_
     refine Qy ?_
     refine Qq ?_
     refine Qq ?_
     refine Q_nil ?_
     have tr : ∀ a b c d e f g h i j k m n o p q r s t u v w x y z A B C D E F G H I J K L : AV, let l := lc_next_ok a b c d e f g h i j k m; trim ((41,L)::(40,K)::(39,J)::(38,I)::(37,H)::(36,G)::(35,F)::(34,E)::(33,D)::(32,C)::(31,B)::(30,A)::(29,z)::(28,y)::(27,x)::(26,w)::(25,v)::(24,u)::(23,t)::(22,s)::(21,r)::(20,q)::(19,p)::(18,o)::(17,n)::l) l = [(0,a),(1,b),(2,c),(6,d),(7,e),(8,f),(9,g),(10,h),(11,i),(12,j),(13,k),(41,L)] := by intros; rfl
     refine R_nil (tr ..) ?_; clear tr
     refine then_n ?_
     refine cdt ?_
     refine rg rfl ?_
     refine Rq ?_
     refine Rq ?_
     have tr : ∀ a b c d e f g h i j k m n o : AV, let l := lc_next_ok a b c d e f g h i j k m; trim ((7,o)::(42,n)::l) l = [(0,a),(1,b),(2,c),(6,d),(7,o),(8,f),(9,g),(10,h),(11,i),(12,j),(13,k),(41,m)] := by intros; rfl
     refine R_nil (tr ..) ?_; clear tr
     refine blk_n ?_
     refine then_n ?_
     refine rg rfl ?_
     refine Rq ?_
     refine Rq ?_
     have tr : ∀ a b c d e f g h i j k m n o : AV, let l := lc_next_ok a b c d e f g h i j k m; trim ((12,o)::(43,n)::l) l = [(0,a),(1,b),(2,c),(6,d),(7,e),(8,f),(9,g),(10,h),(11,i),(12,o),(13,k),(41,m)] := by intros; rfl
     refine R_nil (tr ..) ?_; clear tr
     refine then_n ?_
     exact ⟨_, _, ⟨u + 1, _, _, _, _, _, rfl, rfl, by omega, by first | exact nx_T hn (by omega) (by omega) (by first | (left; omega) | (right; omega)) | exact nx_F hn (fun hh => by have h1 := hh.1; have h2 := hh.2.1; have h3 := hh.2.2; omega)⟩, by rfl, by omega⟩
    ·
     try simp only [decide_eq_true_eq, decide_eq_false_iff_not, Bool.not_eq_true', Bool.not_eq_false', beq_iff_eq, beq_eq_false_iff_ne, ne_eq] at h4
     refine Qy ?_
     refine Qq ?_
     refine Qy ?_
     refine Q_q (r := AV.i (gt J u).t) rfl (by simp (disch := first | omega | (simp only [List.length_map, List.length_append, List.length_set, List.length_cons, List.length_nil]; omega)) only [go_sem, ↓reduceIte, Nat.reduceEqDiff, reduceCtorEq, q9] <;> rfl) ?_
     refine Qy ?_
     refine Qq ?_
     refine Qy ?_
     refine Qq ?_
     refine Qy ?_
     refine Qq ?_
     refine Qy ?_
     refine Qq ?_
     refine Qy ?_
     refine Q_q (r := AV.i (gt J n.toNat).t) rfl (by simp (disch := first | omega | (simp only [List.length_map, List.length_append, List.length_set, List.length_cons, List.length_nil]; omega)) only [go_sem, ↓reduceIte, Nat.reduceEqDiff, reduceCtorEq] <;> exact flatJ1 J n.toNat (by omega)) ?_
     refine Qy ?_
     refine Qq ?_
     refine Qy ?_
     refine Qq ?_
     refine Qq ?_
     refine Q_nil ?_
     have tr : ∀ a b c d e f g h i j k m n o p q r s t u v w x y z A B C D E F G H I J K L : AV, let l := lc_next_ok a b c d e f g h i j k m; trim ((41,L)::(40,K)::(39,J)::(38,I)::(37,H)::(36,G)::(35,F)::(34,E)::(33,D)::(32,C)::(31,B)::(30,A)::(29,z)::(28,y)::(27,x)::(26,w)::(25,v)::(24,u)::(23,t)::(22,s)::(21,r)::(20,q)::(19,p)::(18,o)::(17,n)::l) l = [(0,a),(1,b),(2,c),(6,d),(7,e),(8,f),(9,g),(10,h),(11,i),(12,j),(13,k),(41,L)] := by intros; rfl
     refine R_nil (tr ..) ?_; clear tr
     refine then_n ?_
     refine cdd (fun h5 => ?_) (fun h5 => ?_)
     ·
      try simp only [decide_eq_true_eq, decide_eq_false_iff_not, Bool.not_eq_true', Bool.not_eq_false', beq_iff_eq, beq_eq_false_iff_ne, ne_eq] at h5
      refine rg rfl ?_
      refine Rq ?_
      refine Rq ?_
      have tr : ∀ a b c d e f g h i j k m n o : AV, let l := lc_next_ok a b c d e f g h i j k m; trim ((7,o)::(42,n)::l) l = [(0,a),(1,b),(2,c),(6,d),(7,o),(8,f),(9,g),(10,h),(11,i),(12,j),(13,k),(41,m)] := by intros; rfl
      refine R_nil (tr ..) ?_; clear tr
      refine blk_n ?_
      refine then_n ?_
      refine rg rfl ?_
      refine Rq ?_
      refine Rq ?_
      have tr : ∀ a b c d e f g h i j k m n o : AV, let l := lc_next_ok a b c d e f g h i j k m; trim ((12,o)::(43,n)::l) l = [(0,a),(1,b),(2,c),(6,d),(7,e),(8,f),(9,g),(10,h),(11,i),(12,o),(13,k),(41,m)] := by intros; rfl
      refine R_nil (tr ..) ?_; clear tr
      refine then_n ?_
      exact ⟨_, _, ⟨u + 1, _, _, _, _, _, rfl, rfl, by omega, by first | exact nx_T hn (by omega) (by omega) (by first | (left; omega) | (right; omega)) | exact nx_F hn (fun hh => by have h1 := hh.1; have h2 := hh.2.1; have h3 := hh.2.2; omega)⟩, by rfl, by omega⟩
     ·
      try simp only [decide_eq_true_eq, decide_eq_false_iff_not, Bool.not_eq_true', Bool.not_eq_false', beq_iff_eq, beq_eq_false_iff_ne, ne_eq] at h5
      refine at_skip rfl ?_
      refine blk_n ?_
      refine then_n ?_
      refine rg rfl ?_
      refine Rq ?_
      refine Rq ?_
      have tr : ∀ a b c d e f g h i j k m n o : AV, let l := lc_next_ok a b c d e f g h i j k m; trim ((12,o)::(43,n)::l) l = [(0,a),(1,b),(2,c),(6,d),(7,e),(8,f),(9,g),(10,h),(11,i),(12,o),(13,k),(41,m)] := by intros; rfl
      refine R_nil (tr ..) ?_; clear tr
      refine then_n ?_
      exact ⟨_, _, ⟨u + 1, _, _, _, _, _, rfl, rfl, by omega, by first | exact nx_T hn (by omega) (by omega) (by first | (left; omega) | (right; omega)) | exact nx_F hn (fun hh => by have h1 := hh.1; have h2 := hh.2.1; have h3 := hh.2.2; omega)⟩, by rfl, by omega⟩
   ·
    try simp only [decide_eq_true_eq, decide_eq_false_iff_not, Bool.not_eq_true', Bool.not_eq_false', beq_iff_eq, beq_eq_false_iff_ne, ne_eq] at h3
    refine Qn ?_
    refine Qn ?_
    refine Qn ?_
    refine Qu ?_
    refine Qu ?_
    refine Qu ?_
    refine Qu ?_
    refine Qu ?_
    refine Qu ?_
    refine Qu ?_
    refine Qu ?_
    refine Qn ?_
    refine Qq ?_
    refine Q_nil ?_
    have tr : ∀ a b c d e f g h i j k m n o p q r s t u v w x y z A B C D E F G H I J K L : AV, let l := lc_next_ok a b c d e f g h i j k m; trim ((41,L)::(40,K)::(39,J)::(38,I)::(37,H)::(36,G)::(35,F)::(34,E)::(33,D)::(32,C)::(31,B)::(30,A)::(29,z)::(28,y)::(27,x)::(26,w)::(25,v)::(24,u)::(23,t)::(22,s)::(21,r)::(20,q)::(19,p)::(18,o)::(17,n)::l) l = [(0,a),(1,b),(2,c),(6,d),(7,e),(8,f),(9,g),(10,h),(11,i),(12,j),(13,k),(41,L)] := by intros; rfl
    refine R_nil (tr ..) ?_; clear tr
    refine then_n ?_
    refine cdf ?_
    refine at_skip rfl ?_
    refine blk_n ?_
    refine then_n ?_
    refine rg rfl ?_
    refine Rq ?_
    refine Rq ?_
    have tr : ∀ a b c d e f g h i j k m n o : AV, let l := lc_next_ok a b c d e f g h i j k m; trim ((12,o)::(43,n)::l) l = [(0,a),(1,b),(2,c),(6,d),(7,e),(8,f),(9,g),(10,h),(11,i),(12,o),(13,k),(41,m)] := by intros; rfl
    refine R_nil (tr ..) ?_; clear tr
    refine then_n ?_
    exact ⟨_, _, ⟨u + 1, _, _, _, _, _, rfl, rfl, by omega, by first | exact nx_T hn (by omega) (by omega) (by first | (left; omega) | (right; omega)) | exact nx_F hn (fun hh => by have h1 := hh.1; have h2 := hh.2.1; have h3 := hh.2.2; omega)⟩, by rfl, by omega⟩
  ·
   try simp only [decide_eq_true_eq, decide_eq_false_iff_not, Bool.not_eq_true', Bool.not_eq_false', beq_iff_eq, beq_eq_false_iff_ne, ne_eq] at h2
   refine Qn ?_
   refine Qn ?_
   refine Qn ?_
   refine Qn ?_
   refine Qq ?_
   refine Qq ?_
   refine Qn ?_
   refine Qn ?_
   refine Qn ?_
   refine Qu ?_
   refine Qu ?_
   refine Qu ?_
   refine Qu ?_
   refine Qu ?_
   refine Qu ?_
   refine Qu ?_
   refine Qu ?_
   refine Qn ?_
   refine Qq ?_
   refine Q_nil ?_
   have tr : ∀ a b c d e f g h i j k m n o p q r s t u v w x y z A B C D E F G H I J K L : AV, let l := lc_next_ok a b c d e f g h i j k m; trim ((41,L)::(40,K)::(39,J)::(38,I)::(37,H)::(36,G)::(35,F)::(34,E)::(33,D)::(32,C)::(31,B)::(30,A)::(29,z)::(28,y)::(27,x)::(26,w)::(25,v)::(24,u)::(23,t)::(22,s)::(21,r)::(20,q)::(19,p)::(18,o)::(17,n)::l) l = [(0,a),(1,b),(2,c),(6,d),(7,e),(8,f),(9,g),(10,h),(11,i),(12,j),(13,k),(41,L)] := by intros; rfl
   refine R_nil (tr ..) ?_; clear tr
   refine then_n ?_
   refine cdf ?_
   refine at_skip rfl ?_
   refine blk_n ?_
   refine then_n ?_
   refine rg rfl ?_
   refine Rq ?_
   refine Rq ?_
   have tr : ∀ a b c d e f g h i j k m n o : AV, let l := lc_next_ok a b c d e f g h i j k m; trim ((12,o)::(43,n)::l) l = [(0,a),(1,b),(2,c),(6,d),(7,e),(8,f),(9,g),(10,h),(11,i),(12,o),(13,k),(41,m)] := by intros; rfl
   refine R_nil (tr ..) ?_; clear tr
   refine then_n ?_
   exact ⟨_, _, ⟨u + 1, _, _, _, _, _, rfl, rfl, by omega, by first | exact nx_T hn (by omega) (by omega) (by first | (left; omega) | (right; omega)) | exact nx_F hn (fun hh => by have h1 := hh.1; have h2 := hh.2.1; have h3 := hh.2.2; omega)⟩, by rfl, by omega⟩
 ·
  try simp only [decide_eq_true_eq, decide_eq_false_iff_not, Bool.not_eq_true', Bool.not_eq_false', beq_iff_eq, beq_eq_false_iff_ne, ne_eq] at h1
  refine at_exit rfl ?_
  refine then_x ?_
  refine then_x ?_
  refine blk_x ?_
  refine then_n ?_
  refine at_seq rfl ?_
  refine rg rfl ?_
  refine Rq ?_
  refine Rq ?_
  have tr : ∀ a b c d e f g h i j k m n o : AV, let l := lc_next_ok a b c d e f g h i j k m; trim ((6,o)::(44,n)::l) l = [(0,a),(1,b),(2,c),(6,o),(7,e),(8,f),(9,g),(10,h),(11,i),(12,j),(13,k),(41,m)] := by intros; rfl
  refine R_nil (tr ..) ?_; clear tr
  refine then_n ?_
  refine at_ret rfl ?_
  refine fpure ?_
  refine ⟨rfl, ?_, rfl⟩
  rw [hn, show u = J.length by omega]

abbrev lc_check_ok (a b c d e f g h i j k m n o p q r s t : AV) : Env := [(0,a),(1,b),(2,c),(6,d),(8,e),(10,f),(11,g),(20,h),(27,i),(28,j),(29,k),(30,m),(38,n),(40,o),(41,p),(42,q),(43,r),(46,s),(52,t)]
theorem check_ok (lim : Nat) (H : Heap) (x x' : AV) (J : List Jb) (hx : frz H 0 8 x = x') (hJ : AnyJ x' J) (hJl : J.length ≤ 400) (y : AV) (cs : List Int) (hy : frz H 0 8 y = intsAV cs) (hcl : cs.length ≤ 400) (h01 : ∀ i, i < cs.length → gt cs i = 0 ∨ gt cs i = 1) (first : Int) (g1 : 0 ≤ first ∧ first ≤ 109172) (g2 : ∀ j, j < J.length → first ≤ (gt J j).f ∧ (gt J j).f ≤ (gt J j).t ∧ (gt J j).t ≤ first + cs.length - 1) :
    ACall sig lim 15 [x, AV.i first, y] H fun r H' => r = AV.i 0 ∧ H' = H := by
 have hargs : [x, AV.i first, y].map (frz H 0 8) = [x', AV.i first, intsAV cs] := by
   show [frz H 0 8 x, frz H 0 8 (AV.i first), frz H 0 8 y] = _
   rw [hx, hy]
   try rfl
 have q10 : True := trivial
 refine ACall_data (fa := fa15) rfl rfl rfl rfl hargs ?_
 have tr : ∀ a0 a1 a2 : AV, env0 fa15.keep [a0, a1, a2] = [(0,a0),(1,a1),(2,a2),(6,.any),(8,.any),(10,.any),(11,.any),(20,.any),(27,.any),(28,.any),(29,.any),(30,.any),(38,.any),(40,.any),(41,.any),(42,.any),(43,.any),(46,.any),(52,.any)] := fun a0 a1 a2 => rfl
 refine W_to (tr _ _ _) ?_; clear tr
 refine at_seq rfl ?_
 refine rg rfl ?_
 refine Rq ?_
 have tr : ∀ a b c d e f g h i j k m n o p q r s t u : AV, let l := lc_check_ok a b c d e f g h i j k m n o p q r s t; trim ((6,u)::l) l = [(0,a),(1,b),(2,c),(6,u),(8,e),(10,f),(11,g),(20,h),(27,i),(28,j),(29,k),(30,m),(38,n),(40,o),(41,p),(42,q),(43,r),(46,s),(52,t)] := by intros; rfl
 refine R_nil (tr ..) ?_; clear tr
 refine then_n ?_
 refine at_seq rfl ?_
 refine at_block rfl ?_
 refine at_seq rfl ?_
 refine rg rfl ?_
 refine Rq ?_
 refine R_q (r := AV.i (J.length : Nat)) rfl (by simp (disch := first | omega | (simp only [List.length_map, List.length_append, List.length_set, List.length_cons, List.length_nil]; omega)) only [go_sem, ↓reduceIte, Nat.reduceEqDiff, reduceCtorEq]; exact hJ.len) ?_
 refine Rq ?_
 refine Rq ?_
 refine Rp_split (fun h1 => ?_) (fun h1 => ?_)
 ·
  try simp only [decide_eq_true_eq, decide_eq_false_iff_not, Bool.not_eq_true', Bool.not_eq_false', beq_iff_eq, beq_eq_false_iff_ne, ne_eq] at h1
  refine Rn ?_
  refine Rn ?_
  refine Rn ?_
  refine Rq ?_
  refine Rq ?_
  have tr : ∀ a b c d e f g h i j k m n o p q r s t u v w x y z A B C : AV, let l := lc_check_ok a b c d e f g h i j k m n o p q r s t; trim ((11,C)::(19,B)::(18,A)::(17,z)::(16,y)::(15,x)::(14,w)::(13,v)::(12,u)::l) l = [(0,a),(1,b),(2,c),(6,d),(8,e),(10,f),(11,C),(20,h),(27,i),(28,j),(29,k),(30,m),(38,n),(40,o),(41,p),(42,q),(43,r),(46,s),(52,t)] := by intros; rfl
  refine R_nil (tr ..) ?_; clear tr
  refine then_n ?_
  refine cdt ?_
  refine at_seq rfl ?_
  refine rg rfl ?_
  refine Rq ?_
  have tr : ∀ a b c d e f g h i j k m n o p q r s t u : AV, let l := lc_check_ok a b c d e f g h i j k m n o p q r s t; trim ((6,u)::l) l = [(0,a),(1,b),(2,c),(6,u),(8,e),(10,f),(11,g),(20,h),(27,i),(28,j),(29,k),(30,m),(38,n),(40,o),(41,p),(42,q),(43,r),(46,s),(52,t)] := by intros; rfl
  refine R_nil (tr ..) ?_; clear tr
  refine then_n ?_
  refine at_ret rfl ?_
  refine blk_r ?_
  refine then_r ?_
  first | (exfalso; omega) | (refine fpure ?_; refine ⟨rfl, ?_, rfl⟩; rfl)
 ·
  try simp only [decide_eq_true_eq, decide_eq_false_iff_not, Bool.not_eq_true', Bool.not_eq_false', beq_iff_eq, beq_eq_false_iff_ne, ne_eq] at h1
  refine Ry ?_
  refine Rq ?_
  refine Ry ?_
  refine Rq ?_
  refine Ry ?_
  refine Rq ?_
  refine Rq ?_
  refine Rq ?_
  have tr : ∀ a b c d e f g h i j k m n o p q r s t u v w x y z A B C : AV, let l := lc_check_ok a b c d e f g h i j k m n o p q r s t; trim ((11,C)::(19,B)::(18,A)::(17,z)::(16,y)::(15,x)::(14,w)::(13,v)::(12,u)::l) l = [(0,a),(1,b),(2,c),(6,d),(8,e),(10,f),(11,C),(20,h),(27,i),(28,j),(29,k),(30,m),(38,n),(40,o),(41,p),(42,q),(43,r),(46,s),(52,t)] := by intros; rfl
  refine R_nil (tr ..) ?_; clear tr
  refine then_n ?_
  refine cdd (fun h2 => ?_) (fun h2 => ?_)
  ·
   try simp only [decide_eq_true_eq, decide_eq_false_iff_not, Bool.not_eq_true', Bool.not_eq_false', beq_iff_eq, beq_eq_false_iff_ne, ne_eq] at h2
   refine at_seq rfl ?_
   refine rg rfl ?_
   refine Rq ?_
   have tr : ∀ a b c d e f g h i j k m n o p q r s t u : AV, let l := lc_check_ok a b c d e f g h i j k m n o p q r s t; trim ((6,u)::l) l = [(0,a),(1,b),(2,c),(6,u),(8,e),(10,f),(11,g),(20,h),(27,i),(28,j),(29,k),(30,m),(38,n),(40,o),(41,p),(42,q),(43,r),(46,s),(52,t)] := by intros; rfl
   refine R_nil (tr ..) ?_; clear tr
   refine then_n ?_
   refine at_ret rfl ?_
   refine blk_r ?_
   refine then_r ?_
   first | (exfalso; omega) | (refine fpure ?_; refine ⟨rfl, ?_, rfl⟩; rfl)
  ·
   try simp only [decide_eq_true_eq, decide_eq_false_iff_not, Bool.not_eq_true', Bool.not_eq_false', beq_iff_eq, beq_eq_false_iff_ne, ne_eq] at h2
   refine at_seq rfl ?_
   refine rg rfl ?_
   refine Rq ?_
   refine Rq ?_
   refine Rq ?_
   refine Rp_split (fun h3 => ?_) (fun h3 => ?_)
   ·
    try simp only [decide_eq_true_eq, decide_eq_false_iff_not, Bool.not_eq_true', Bool.not_eq_false', beq_iff_eq, beq_eq_false_iff_ne, ne_eq] at h3
    refine Rn ?_
    refine Rn ?_
    refine Rq ?_
    refine Rq ?_
    have tr : ∀ a b c d e f g h i j k m n o p q r s t u v w x y z A : AV, let l := lc_check_ok a b c d e f g h i j k m n o p q r s t; trim ((20,A)::(26,z)::(25,y)::(24,x)::(23,w)::(22,v)::(21,u)::l) l = [(0,a),(1,b),(2,c),(6,d),(8,e),(10,f),(11,g),(20,A),(27,i),(28,j),(29,k),(30,m),(38,n),(40,o),(41,p),(42,q),(43,r),(46,s),(52,t)] := by intros; rfl
    refine R_nil (tr ..) ?_; clear tr
    refine then_n ?_
    refine cdt ?_
    refine at_seq rfl ?_
    refine rg rfl ?_
    refine Rq ?_
    have tr : ∀ a b c d e f g h i j k m n o p q r s t u : AV, let l := lc_check_ok a b c d e f g h i j k m n o p q r s t; trim ((6,u)::l) l = [(0,a),(1,b),(2,c),(6,u),(8,e),(10,f),(11,g),(20,h),(27,i),(28,j),(29,k),(30,m),(38,n),(40,o),(41,p),(42,q),(43,r),(46,s),(52,t)] := by intros; rfl
    refine R_nil (tr ..) ?_; clear tr
    refine then_n ?_
    refine at_ret rfl ?_
    refine blk_r ?_
    refine then_r ?_
    first | (exfalso; omega) | (refine fpure ?_; refine ⟨rfl, ?_, rfl⟩; rfl)
   ·
    try simp only [decide_eq_true_eq, decide_eq_false_iff_not, Bool.not_eq_true', Bool.not_eq_false', beq_iff_eq, beq_eq_false_iff_ne, ne_eq] at h3
    refine Ry ?_
    refine Rq ?_
    refine Ry ?_
    refine Rq ?_
    refine Rq ?_
    refine Rq ?_
    have tr : ∀ a b c d e f g h i j k m n o p q r s t u v w x y z A : AV, let l := lc_check_ok a b c d e f g h i j k m n o p q r s t; trim ((20,A)::(26,z)::(25,y)::(24,x)::(23,w)::(22,v)::(21,u)::l) l = [(0,a),(1,b),(2,c),(6,d),(8,e),(10,f),(11,g),(20,A),(27,i),(28,j),(29,k),(30,m),(38,n),(40,o),(41,p),(42,q),(43,r),(46,s),(52,t)] := by intros; rfl
    refine R_nil (tr ..) ?_; clear tr
    refine then_n ?_
    refine cdd (fun h4 => ?_) (fun h4 => ?_)
    ·
     try simp only [decide_eq_true_eq, decide_eq_false_iff_not, Bool.not_eq_true', Bool.not_eq_false', beq_iff_eq, beq_eq_false_iff_ne, ne_eq] at h4
     refine at_seq rfl ?_
     refine rg rfl ?_
     refine Rq ?_
     have tr : ∀ a b c d e f g h i j k m n o p q r s t u : AV, let l := lc_check_ok a b c d e f g h i j k m n o p q r s t; trim ((6,u)::l) l = [(0,a),(1,b),(2,c),(6,u),(8,e),(10,f),(11,g),(20,h),(27,i),(28,j),(29,k),(30,m),(38,n),(40,o),(41,p),(42,q),(43,r),(46,s),(52,t)] := by intros; rfl
     refine R_nil (tr ..) ?_; clear tr
     refine then_n ?_
     refine at_ret rfl ?_
     refine blk_r ?_
     refine then_r ?_
     first | (exfalso; omega) | (refine fpure ?_; refine ⟨rfl, ?_, rfl⟩; rfl)
    ·
     try simp only [decide_eq_true_eq, decide_eq_false_iff_not, Bool.not_eq_true', Bool.not_eq_false', beq_iff_eq, beq_eq_false_iff_ne, ne_eq] at h4
     refine at_skip rfl ?_
     refine blk_n ?_
     refine then_n ?_
     refine at_seq rfl ?_
     refine at_seq rfl ?_
     refine rg rfl ?_
     refine Rq ?_
     refine Rq ?_
     refine Rq ?_
     have tr : ∀ a b c d e f g h i j k m n o p q r s t u v w : AV, let l := lc_check_ok a b c d e f g h i j k m n o p q r s t; trim ((29,w)::(28,v)::(27,u)::l) l = [(0,a),(1,b),(2,c),(6,d),(8,e),(10,f),(11,g),(20,h),(27,u),(28,v),(29,w),(30,m),(38,n),(40,o),(41,p),(42,q),(43,r),(46,s),(52,t)] := by intros; rfl
     refine R_nil (tr ..) ?_; clear tr
     refine then_n ?_
     refine at_block rfl ?_
     refine loop_n rfl (fun mm kv H' => ∃ u : Nat, ∃ x6 x8 x30 x38 : AV, (kv = [(6, x6), (8, x8), (29, AV.i u), (30, x30), (38, x38)]) ∧ (mm = cs.length - u) ∧ (u ≤ cs.length)) ⟨0, _, _, _, _, rfl, rfl, by omega⟩ (by rfl) ?_
     rintro mm kv HL ⟨u, x6, x8, x30, x38, rfl, rfl, hu⟩
     have tr : ∀ a b c d e f g h i j k m n o p q r s t u v w x y : AV, upd [(0,a),(1,b),(2,c),(6,d),(8,e),(10,f),(11,g),(20,h),(27,i),(28,j),(29,k),(30,m),(38,n),(40,o),(41,p),(42,q),(43,r),(46,s),(52,t)] [(6,u),(8,v),(29,w),(30,x),(38,y)] = [(0,a),(1,b),(2,c),(6,u),(8,v),(10,f),(11,g),(20,h),(27,i),(28,j),(29,w),(30,x),(38,y),(40,o),(41,p),(42,q),(43,r),(46,s),(52,t)] := by intros; rfl
     refine W_to (tr ..) ?_; clear tr
     refine at_seq rfl ?_
     refine rg rfl ?_
     refine Rq ?_
     have tr : ∀ a b c d e f g h i j k m n o p q r s t u : AV, let l := lc_check_ok a b c d e f g h i j k m n o p q r s t; trim ((30,u)::l) l = [(0,a),(1,b),(2,c),(6,d),(8,e),(10,f),(11,g),(20,h),(27,i),(28,j),(29,k),(30,u),(38,n),(40,o),(41,p),(42,q),(43,r),(46,s),(52,t)] := by intros; rfl
     refine R_nil (tr ..) ?_; clear tr
     refine then_n ?_
     refine at_seq rfl ?_
     refine cdd (fun h5 => ?_) (fun h5 => ?_)
     ·
      try simp only [decide_eq_true_eq, decide_eq_false_iff_not, Bool.not_eq_true', Bool.not_eq_false', beq_iff_eq, beq_eq_false_iff_ne, ne_eq] at h5
      refine at_skip rfl ?_
      refine then_n ?_
      refine at_seq rfl ?_
      refine at_block rfl ?_
      refine at_seq rfl ?_
      refine rg rfl ?_
      refine Rq ?_
      have hcu := h01 u (by omega)
      refine R_q (r := AV.i (gt cs u)) rfl (by simp (disch := first | omega | (simp only [List.length_map, List.length_append, List.length_set, List.length_cons, List.length_nil]; omega)) only [go_sem, ↓reduceIte, Nat.reduceEqDiff, reduceCtorEq] <;> exact ints_at cs u (by omega)) ?_
      refine Rq ?_
      have tr : ∀ a b c d e f g h i j k m n o p q r s t u v w : AV, let l := lc_check_ok a b c d e f g h i j k m n o p q r s t; trim ((8,w)::(32,v)::(31,u)::l) l = [(0,a),(1,b),(2,c),(6,d),(8,w),(10,f),(11,g),(20,h),(27,i),(28,j),(29,k),(30,m),(38,n),(40,o),(41,p),(42,q),(43,r),(46,s),(52,t)] := by intros; rfl
      refine R_nil (tr ..) ?_; clear tr
      refine then_n ?_
      refine at_seq rfl ?_
      refine rg rfl ?_
      refine Rq ?_
      refine Rq ?_
      refine Rq ?_
      refine Rp_split (fun h6 => ?_) (fun h6 => ?_)
      ·
       try simp only [decide_eq_true_eq, decide_eq_false_iff_not, Bool.not_eq_true', Bool.not_eq_false', beq_iff_eq, beq_eq_false_iff_ne, ne_eq] at h6
       refine Rn ?_
       refine Rn ?_
       refine Rq ?_
       have tr : ∀ a b c d e f g h i j k m n o p q r s t u v w x y z : AV, let l := lc_check_ok a b c d e f g h i j k m n o p q r s t; trim ((38,z)::(37,y)::(36,x)::(35,w)::(34,v)::(33,u)::l) l = [(0,a),(1,b),(2,c),(6,d),(8,e),(10,f),(11,g),(20,h),(27,i),(28,j),(29,k),(30,m),(38,z),(40,o),(41,p),(42,q),(43,r),(46,s),(52,t)] := by intros; rfl
       refine R_nil (tr ..) ?_; clear tr
       refine then_n ?_
       refine cdt ?_
       refine at_seq rfl ?_
       refine rg rfl ?_
       refine Rq ?_
       have tr : ∀ a b c d e f g h i j k m n o p q r s t u : AV, let l := lc_check_ok a b c d e f g h i j k m n o p q r s t; trim ((6,u)::l) l = [(0,a),(1,b),(2,c),(6,u),(8,e),(10,f),(11,g),(20,h),(27,i),(28,j),(29,k),(30,m),(38,n),(40,o),(41,p),(42,q),(43,r),(46,s),(52,t)] := by intros; rfl
       refine R_nil (tr ..) ?_; clear tr
       refine then_n ?_
       refine at_ret rfl ?_
       refine blk_r ?_
       refine then_r ?_
       refine then_r ?_
       refine blk_r ?_
       refine then_r ?_
       first | (exfalso; omega) | (refine fpure ?_; refine ⟨rfl, ?_, rfl⟩; rfl)
      ·
       try simp only [decide_eq_true_eq, decide_eq_false_iff_not, Bool.not_eq_true', Bool.not_eq_false', beq_iff_eq, beq_eq_false_iff_ne, ne_eq] at h6
       refine Ry ?_
       refine Rq ?_
       refine Ry ?_
       refine Rq ?_
       refine Rq ?_
       have tr : ∀ a b c d e f g h i j k m n o p q r s t u v w x y z : AV, let l := lc_check_ok a b c d e f g h i j k m n o p q r s t; trim ((38,z)::(37,y)::(36,x)::(35,w)::(34,v)::(33,u)::l) l = [(0,a),(1,b),(2,c),(6,d),(8,e),(10,f),(11,g),(20,h),(27,i),(28,j),(29,k),(30,m),(38,z),(40,o),(41,p),(42,q),(43,r),(46,s),(52,t)] := by intros; rfl
       refine R_nil (tr ..) ?_; clear tr
       refine then_n ?_
       refine cdd (fun h7 => ?_) (fun h7 => ?_)
       ·
        try simp only [decide_eq_true_eq, decide_eq_false_iff_not, Bool.not_eq_true', Bool.not_eq_false', beq_iff_eq, beq_eq_false_iff_ne, ne_eq] at h7
        refine at_seq rfl ?_
        refine rg rfl ?_
        refine Rq ?_
        have tr : ∀ a b c d e f g h i j k m n o p q r s t u : AV, let l := lc_check_ok a b c d e f g h i j k m n o p q r s t; trim ((6,u)::l) l = [(0,a),(1,b),(2,c),(6,u),(8,e),(10,f),(11,g),(20,h),(27,i),(28,j),(29,k),(30,m),(38,n),(40,o),(41,p),(42,q),(43,r),(46,s),(52,t)] := by intros; rfl
        refine R_nil (tr ..) ?_; clear tr
        refine then_n ?_
        refine at_ret rfl ?_
        refine blk_r ?_
        refine then_r ?_
        refine then_r ?_
        refine blk_r ?_
        refine then_r ?_
        first | (exfalso; omega) | (refine fpure ?_; refine ⟨rfl, ?_, rfl⟩; rfl)
       ·
        try simp only [decide_eq_true_eq, decide_eq_false_iff_not, Bool.not_eq_true', Bool.not_eq_false', beq_iff_eq, beq_eq_false_iff_ne, ne_eq] at h7
        refine at_skip rfl ?_
        refine blk_n ?_
        refine then_n ?_
        refine rg rfl ?_
        refine Rq ?_
        refine Rq ?_
        have tr : ∀ a b c d e f g h i j k m n o p q r s t u v : AV, let l := lc_check_ok a b c d e f g h i j k m n o p q r s t; trim ((29,v)::(39,u)::l) l = [(0,a),(1,b),(2,c),(6,d),(8,e),(10,f),(11,g),(20,h),(27,i),(28,j),(29,v),(30,m),(38,n),(40,o),(41,p),(42,q),(43,r),(46,s),(52,t)] := by intros; rfl
        refine R_nil (tr ..) ?_; clear tr
        refine then_n ?_
        exact ⟨_, _, ⟨u + 1, _, _, _, _, rfl, rfl, by omega⟩, by rfl, by omega⟩
     ·
      try simp only [decide_eq_true_eq, decide_eq_false_iff_not, Bool.not_eq_true', Bool.not_eq_false', beq_iff_eq, beq_eq_false_iff_ne, ne_eq] at h5
      refine at_exit rfl ?_
      refine then_x ?_
      refine then_x ?_
      refine blk_x ?_
      refine then_n ?_
      refine at_seq rfl ?_
      refine at_seq rfl ?_
      refine rg rfl ?_
      refine Rq ?_
      refine R_q (r := AV.i (J.length : Nat)) rfl (by simp (disch := first | omega | (simp only [List.length_map, List.length_append, List.length_set, List.length_cons, List.length_nil]; omega)) only [go_sem, ↓reduceIte, Nat.reduceEqDiff, reduceCtorEq]; exact hJ.len) ?_
      refine Rq ?_
      have tr : ∀ a b c d e f g h i j k m n o p q r s t u v w : AV, let l := lc_check_ok a b c d e f g h i j k m n o p q r s t; trim ((42,w)::(41,v)::(40,u)::l) l = [(0,a),(1,b),(2,c),(6,d),(8,e),(10,f),(11,g),(20,h),(27,i),(28,j),(29,k),(30,m),(38,n),(40,u),(41,v),(42,w),(43,r),(46,s),(52,t)] := by intros; rfl
      refine R_nil (tr ..) ?_; clear tr
      refine then_n ?_
      refine at_block rfl ?_
      refine loop_n rfl (fun mm kv H' => ∃ v : Nat, ∃ x6 x10 x43 x46 x52 : AV, (kv = [(6, x6), (10, x10), (42, AV.i v), (43, x43), (46, x46), (52, x52)]) ∧ (mm = J.length - v) ∧ (v ≤ J.length)) ⟨0, _, _, _, _, _, rfl, rfl, by omega⟩ (by rfl) ?_
      rintro mm kv HM ⟨v, x6, x10, x43, x46, x52, rfl, rfl, hv⟩
      have tr : ∀ a b c d e f g h i j k m n o p q r s t u v w x y z : AV, upd [(0,a),(1,b),(2,c),(6,d),(8,e),(10,f),(11,g),(20,h),(27,i),(28,j),(29,k),(30,m),(38,n),(40,o),(41,p),(42,q),(43,r),(46,s),(52,t)] [(6,u),(10,v),(42,w),(43,x),(46,y),(52,z)] = [(0,a),(1,b),(2,c),(6,u),(8,e),(10,v),(11,g),(20,h),(27,i),(28,j),(29,k),(30,m),(38,n),(40,o),(41,p),(42,w),(43,x),(46,y),(52,z)] := by intros; rfl
      refine W_to (tr ..) ?_; clear tr
      refine at_seq rfl ?_
      refine rg rfl ?_
      refine Rq ?_
      have tr : ∀ a b c d e f g h i j k m n o p q r s t u : AV, let l := lc_check_ok a b c d e f g h i j k m n o p q r s t; trim ((43,u)::l) l = [(0,a),(1,b),(2,c),(6,d),(8,e),(10,f),(11,g),(20,h),(27,i),(28,j),(29,k),(30,m),(38,n),(40,o),(41,p),(42,q),(43,u),(46,s),(52,t)] := by intros; rfl
      refine R_nil (tr ..) ?_; clear tr
      refine then_n ?_
      refine at_seq rfl ?_
      refine cdd (fun h8 => ?_) (fun h8 => ?_)
      ·
       try simp only [decide_eq_true_eq, decide_eq_false_iff_not, Bool.not_eq_true', Bool.not_eq_false', beq_iff_eq, beq_eq_false_iff_ne, ne_eq] at h8
       refine at_skip rfl ?_
       refine then_n ?_
       refine at_seq rfl ?_
       refine at_block rfl ?_
       refine at_seq rfl ?_
       refine rg rfl ?_
       obtain rfl := hJ.sl (by omega)
       have hjv := g2 v (by omega)
       refine Rq ?_
       refine R_q rfl (by simp (disch := first | omega | (simp only [List.length_map, List.length_append, List.length_set, List.length_cons, List.length_nil]; omega)) only [go_sem, ↓reduceIte, Nat.reduceEqDiff, reduceCtorEq, q10]; rfl) ?_
       refine A_alloc rfl ?_
       intro H4 n4
       have en4 := n4.len
       have q10 := n4.new
       have lq10 := hget_lt q10
       refine A_store ty43 (by simp (disch := first | omega | (simp only [List.length_map, List.length_append, List.length_set, List.length_cons, List.length_nil]; omega)) only [go_sem, ↓reduceIte, Nat.reduceEqDiff, reduceCtorEq, q10] <;> rfl) (by simp (disch := first | omega | (simp only [List.length_map, List.length_append, List.length_set, List.length_cons, List.length_nil]; omega)) only [go_sem, ↓reduceIte, Nat.reduceEqDiff, reduceCtorEq, q10] <;> rfl) q10 ⟨by omega, rfl, by first | exact Nat.le_refl _ | simp⟩ (k' := jbC (gt J v)) rfl ?_
       intro H4w w4
       have ew4 := w4.len
       have q10 := w4.new
       have tr : ∀ a b c d e f g h i j k m n o p q r s t u v w : AV, let l := lc_check_ok a b c d e f g h i j k m n o p q r s t; trim ((10,w)::(45,v)::(44,u)::l) l = [(0,a),(1,b),(2,c),(6,d),(8,e),(10,w),(11,g),(20,h),(27,i),(28,j),(29,k),(30,m),(38,n),(40,o),(41,p),(42,q),(43,r),(46,s),(52,t)] := by intros; rfl
       refine R_nil (tr ..) ?_; clear tr
       refine then_n ?_
       refine at_block rfl ?_
       refine at_seq rfl ?_
       refine rg rfl ?_
       refine Rq ?_
       refine R_q rfl (by simp (disch := first | omega | (simp only [List.length_map, List.length_append, List.length_set, List.length_cons, List.length_nil]; omega)) only [go_sem, ↓reduceIte, Nat.reduceEqDiff, reduceCtorEq, q10]; rfl) ?_
       refine Rq ?_
       refine R_q rfl (by simp (disch := first | omega | (simp only [List.length_map, List.length_append, List.length_set, List.length_cons, List.length_nil]; omega)) only [go_sem, ↓reduceIte, Nat.reduceEqDiff, reduceCtorEq, q10]; rfl) ?_
       refine Rq ?_
       refine Rq ?_
       have tr : ∀ a b c d e f g h i j k m n o p q r s t u v w x y z : AV, let l := lc_check_ok a b c d e f g h i j k m n o p q r s t; trim ((46,z)::(51,y)::(50,x)::(49,w)::(48,v)::(47,u)::l) l = [(0,a),(1,b),(2,c),(6,d),(8,e),(10,f),(11,g),(20,h),(27,i),(28,j),(29,k),(30,m),(38,n),(40,o),(41,p),(42,q),(43,r),(46,z),(52,t)] := by intros; rfl
       refine R_nil (tr ..) ?_; clear tr
       refine then_n ?_
       refine cdd (fun h9 => ?_) (fun h9 => ?_)
       ·
        try simp only [decide_eq_true_eq, decide_eq_false_iff_not, Bool.not_eq_true', Bool.not_eq_false', beq_iff_eq, beq_eq_false_iff_ne, ne_eq] at h9
        refine at_seq rfl ?_
        refine rg rfl ?_
        refine Rq ?_
        have tr : ∀ a b c d e f g h i j k m n o p q r s t u : AV, let l := lc_check_ok a b c d e f g h i j k m n o p q r s t; trim ((6,u)::l) l = [(0,a),(1,b),(2,c),(6,u),(8,e),(10,f),(11,g),(20,h),(27,i),(28,j),(29,k),(30,m),(38,n),(40,o),(41,p),(42,q),(43,r),(46,s),(52,t)] := by intros; rfl
        refine R_nil (tr ..) ?_; clear tr
        refine then_n ?_
        refine at_ret rfl ?_
        refine blk_r ?_
        refine blk_r ?_
        refine then_r ?_
        refine then_r ?_
        refine blk_r ?_
        refine then_r ?_
        first | (exfalso; omega) | (refine fpure ?_; refine ⟨rfl, ?_, rfl⟩; rfl)
       ·
        try simp only [decide_eq_true_eq, decide_eq_false_iff_not, Bool.not_eq_true', Bool.not_eq_false', beq_iff_eq, beq_eq_false_iff_ne, ne_eq] at h9
        refine at_seq rfl ?_
        refine rg rfl ?_
        refine Rq ?_
        refine R_q rfl (by simp (disch := first | omega | (simp only [List.length_map, List.length_append, List.length_set, List.length_cons, List.length_nil]; omega)) only [go_sem, ↓reduceIte, Nat.reduceEqDiff, reduceCtorEq, q10]; rfl) ?_
        refine Rq ?_
        refine Rq ?_
        refine Rq ?_
        refine Rp_split (fun h10 => ?_) (fun h10 => ?_)
        ·
         try simp only [decide_eq_true_eq, decide_eq_false_iff_not, Bool.not_eq_true', Bool.not_eq_false', beq_iff_eq, beq_eq_false_iff_ne, ne_eq] at h10
         refine Rn ?_
         refine Rn ?_
         refine Rn ?_
         refine Rn ?_
         refine Rn ?_
         refine Rn ?_
         refine Rn ?_
         refine Rn ?_
         refine Rq ?_
         refine Rq ?_
         have tr : ∀ a b c d e f g h i j k m n o p q r s t u v w x y z A B C D E F G H I : AV, let l := lc_check_ok a b c d e f g h i j k m n o p q r s t; trim ((52,I)::(66,H)::(65,G)::(64,F)::(63,E)::(62,D)::(61,C)::(60,B)::(59,A)::(58,z)::(57,y)::(56,x)::(55,w)::(54,v)::(53,u)::l) l = [(0,a),(1,b),(2,c),(6,d),(8,e),(10,f),(11,g),(20,h),(27,i),(28,j),(29,k),(30,m),(38,n),(40,o),(41,p),(42,q),(43,r),(46,s),(52,I)] := by intros; rfl
         refine R_nil (tr ..) ?_; clear tr
         refine then_n ?_
         refine cdt ?_
         refine at_seq rfl ?_
         refine rg rfl ?_
         refine Rq ?_
         have tr : ∀ a b c d e f g h i j k m n o p q r s t u : AV, let l := lc_check_ok a b c d e f g h i j k m n o p q r s t; trim ((6,u)::l) l = [(0,a),(1,b),(2,c),(6,u),(8,e),(10,f),(11,g),(20,h),(27,i),(28,j),(29,k),(30,m),(38,n),(40,o),(41,p),(42,q),(43,r),(46,s),(52,t)] := by intros; rfl
         refine R_nil (tr ..) ?_; clear tr
         refine then_n ?_
         refine at_ret rfl ?_
         refine blk_r ?_
         refine blk_r ?_
         refine then_r ?_
         refine then_r ?_
         refine blk_r ?_
         refine then_r ?_
         first | (exfalso; omega) | (refine fpure ?_; refine ⟨rfl, ?_, rfl⟩; rfl)
        ·
         try simp only [decide_eq_true_eq, decide_eq_false_iff_not, Bool.not_eq_true', Bool.not_eq_false', beq_iff_eq, beq_eq_false_iff_ne, ne_eq] at h10
         refine Ry ?_
         refine Rq ?_
         refine Ry ?_
         refine R_q rfl (by simp (disch := first | omega | (simp only [List.length_map, List.length_append, List.length_set, List.length_cons, List.length_nil]; omega)) only [go_sem, ↓reduceIte, Nat.reduceEqDiff, reduceCtorEq, q10]; rfl) ?_
         refine Ry ?_
         refine Rq ?_
         refine Ry ?_
         refine Rq ?_
         refine Ry ?_
         refine Rq ?_
         refine Ry ?_
         refine Rq ?_
         refine Ry ?_
         refine Rq ?_
         refine Ry ?_
         refine Rq ?_
         refine Rq ?_
         refine Rq ?_
         have tr : ∀ a b c d e f g h i j k m n o p q r s t u v w x y z A B C D E F G H I : AV, let l := lc_check_ok a b c d e f g h i j k m n o p q r s t; trim ((52,I)::(66,H)::(65,G)::(64,F)::(63,E)::(62,D)::(61,C)::(60,B)::(59,A)::(58,z)::(57,y)::(56,x)::(55,w)::(54,v)::(53,u)::l) l = [(0,a),(1,b),(2,c),(6,d),(8,e),(10,f),(11,g),(20,h),(27,i),(28,j),(29,k),(30,m),(38,n),(40,o),(41,p),(42,q),(43,r),(46,s),(52,I)] := by intros; rfl
         refine R_nil (tr ..) ?_; clear tr
         refine then_n ?_
         refine cdd (fun h11 => ?_) (fun h11 => ?_)
         ·
          try simp only [decide_eq_true_eq, decide_eq_false_iff_not, Bool.not_eq_true', Bool.not_eq_false', beq_iff_eq, beq_eq_false_iff_ne, ne_eq] at h11
          refine at_seq rfl ?_
          refine rg rfl ?_
          refine Rq ?_
          have tr : ∀ a b c d e f g h i j k m n o p q r s t u : AV, let l := lc_check_ok a b c d e f g h i j k m n o p q r s t; trim ((6,u)::l) l = [(0,a),(1,b),(2,c),(6,u),(8,e),(10,f),(11,g),(20,h),(27,i),(28,j),(29,k),(30,m),(38,n),(40,o),(41,p),(42,q),(43,r),(46,s),(52,t)] := by intros; rfl
          refine R_nil (tr ..) ?_; clear tr
          refine then_n ?_
          refine at_ret rfl ?_
          refine blk_r ?_
          refine blk_r ?_
          refine then_r ?_
          refine then_r ?_
          refine blk_r ?_
          refine then_r ?_
          first | (exfalso; omega) | (refine fpure ?_; refine ⟨rfl, ?_, rfl⟩; rfl)
         ·
          try simp only [decide_eq_true_eq, decide_eq_false_iff_not, Bool.not_eq_true', Bool.not_eq_false', beq_iff_eq, beq_eq_false_iff_ne, ne_eq] at h11
          refine at_skip rfl ?_
          refine blk_n ?_
          refine blk_n ?_
          refine then_n ?_
          refine rg rfl ?_
          refine Rq ?_
          refine Rq ?_
          have tr : ∀ a b c d e f g h i j k m n o p q r s t u v : AV, let l := lc_check_ok a b c d e f g h i j k m n o p q r s t; trim ((42,v)::(67,u)::l) l = [(0,a),(1,b),(2,c),(6,d),(8,e),(10,f),(11,g),(20,h),(27,i),(28,j),(29,k),(30,m),(38,n),(40,o),(41,p),(42,v),(43,r),(46,s),(52,t)] := by intros; rfl
          refine R_nil (tr ..) ?_; clear tr
          refine then_n ?_
          exact ⟨_, _, ⟨v + 1, _, _, _, _, _, rfl, rfl, by omega⟩, by rfl, by omega⟩
      ·
       try simp only [decide_eq_true_eq, decide_eq_false_iff_not, Bool.not_eq_true', Bool.not_eq_false', beq_iff_eq, beq_eq_false_iff_ne, ne_eq] at h8
       refine at_exit rfl ?_
       refine then_x ?_
       refine then_x ?_
       refine blk_x ?_
       refine then_n ?_
       refine at_seq rfl ?_
       refine rg rfl ?_
       refine Rq ?_
       have tr : ∀ a b c d e f g h i j k m n o p q r s t u : AV, let l := lc_check_ok a b c d e f g h i j k m n o p q r s t; trim ((6,u)::l) l = [(0,a),(1,b),(2,c),(6,u),(8,e),(10,f),(11,g),(20,h),(27,i),(28,j),(29,k),(30,m),(38,n),(40,o),(41,p),(42,q),(43,r),(46,s),(52,t)] := by intros; rfl
       refine R_nil (tr ..) ?_; clear tr
       refine then_n ?_
       refine at_ret rfl ?_
       first | (exfalso; omega) | (refine fpure ?_; refine ⟨rfl, ?_, rfl⟩; rfl)

end Go.Proofs.Ytkjgmpjnhfmecaa
