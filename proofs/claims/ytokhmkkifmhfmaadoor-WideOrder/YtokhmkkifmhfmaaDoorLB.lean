/-
  Walks of chapter 2. The steps are written by program (walk.py).
-/
import Derived.Test.YtokhmkkifmhfmaaDoorRB
import Derived.Test.YtokhmkkifmhfmaaDoorRC
import Derived.Test.YtokhmkkifmhfmaaDoorAw
set_option linter.unusedSimpArgs false
set_option linter.unusedVariables false
set_option maxHeartbeats 1000000
set_option maxRecDepth 20000
namespace Go.Proofs.YtokhmkkifmhfmaaDoor
open Go Go.Am
abbrev lc_worder_ok (a b c d e f g h i j k m n : AV) : Env := [(0,a),(1,b),(2,c),(3,d),(4,e),(5,f),(6,g),(7,h),(8,i),(9,j),(10,k),(12,m),(37,n)]
theorem worder_ok (lim : Nat) (H : Heap) (x : Int) (hx : Fw x) (y : Int) (hy : Fw y) : ACall sig lim 6 [wv x, wv y] H fun r _ => r = .v (.bool true) := by
 refine ACall_pure (fa := fa6) rfl rfl rfl rfl ?_
 have tr : ∀ a0 a1 : AV, env0 fa6.keep [a0, a1] = [(0,a0),(1,a1),(2,.any),(3,.any),(4,.any),(5,.any),(6,.any),(7,.any),(8,.any),(9,.any),(10,.any),(12,.any),(37,.any)] := fun a0 a1 => rfl
 refine W_to (tr _ _) ?_; clear tr
 refine at_seq rfl ?_
 refine rg rfl ?_
 refine R_box rfl (by simp (disch := first | omega | (simp only [List.length_map, List.length_append, List.length_set, List.length_cons, List.length_nil]; omega)) only [go_sem, ↓reduceIte, Nat.reduceEqDiff, reduceCtorEq]; rfl) rfl rfl ?_
 refine R_box rfl (by simp (disch := first | omega | (simp only [List.length_map, List.length_append, List.length_set, List.length_cons, List.length_nil]; omega)) only [go_sem, ↓reduceIte, Nat.reduceEqDiff, reduceCtorEq]; rfl) rfl rfl ?_
 refine Rq ?_
 have tr : ∀ a b c d e f g h i j k m n o p q : AV, let l := lc_worder_ok a b c d e f g h i j k m n; trim ((4,q)::(3,p)::(2,o)::l) l = [(0,a),(1,b),(2,o),(3,p),(4,q),(5,f),(6,g),(7,h),(8,i),(9,j),(10,k),(12,m),(37,n)] := by intros; rfl
 refine R_nil (tr ..) ?_; clear tr
 refine then_n ?_
 refine at_seq rfl ?_
 refine at_seq rfl ?_
 refine rg rfl ?_
 refine Rcall ?_
 refine ACall_eval 400 (awake02 _ _) ?_
 refine Rq ?_
 have tr : ∀ a b c d e f g h i j k m n o p : AV, let l := lc_worder_ok a b c d e f g h i j k m n; trim ((12,p)::(11,o)::l) l = [(0,a),(1,b),(2,c),(3,d),(4,e),(5,f),(6,g),(7,h),(8,i),(9,j),(10,k),(12,p),(37,n)] := by intros; rfl
 refine R_nil (tr ..) ?_; clear tr
 refine then_n ?_
 refine cdf ?_
 refine at_skip rfl ?_
 refine then_n ?_
 refine at_seq rfl ?_
 refine rg rfl ?_
 refine Rq ?_
 refine Rcall ?_
 refine ACall_eq (fits_ok _ _ _ (by first | assumption | exact fS_F _ | (unfold Fw; omega))) ?_
 refine Rq ?_
 refine Rq ?_
 refine Rq ?_
 refine Rq ?_
 refine Rq ?_
 have tr : ∀ a b c d e f g h i j k m n o p q r s t u : AV, let l := lc_worder_ok a b c d e f g h i j k m n; trim ((6,u)::(5,t)::(17,s)::(16,r)::(13,q)::(15,p)::(14,o)::l) l = [(0,a),(1,b),(2,c),(3,d),(4,e),(5,t),(6,u),(7,h),(8,i),(9,j),(10,k),(12,m),(37,n)] := by intros; rfl
 refine R_nil (tr ..) ?_; clear tr
 refine then_n ?_
 refine at_seq rfl ?_
 refine rg rfl ?_
 refine Rq ?_
 refine Rcall ?_
 refine ACall_eq (rfits_ok _ _ _ (by first | assumption | exact fS_F _ | (unfold Fw; omega))) ?_
 refine Rq ?_
 refine Rq ?_
 refine Rq ?_
 refine Rq ?_
 refine Rq ?_
 have tr : ∀ a b c d e f g h i j k m n o p q r s t u : AV, let l := lc_worder_ok a b c d e f g h i j k m n; trim ((8,u)::(7,t)::(22,s)::(21,r)::(18,q)::(20,p)::(19,o)::l) l = [(0,a),(1,b),(2,c),(3,d),(4,e),(5,f),(6,g),(7,t),(8,u),(9,j),(10,k),(12,m),(37,n)] := by intros; rfl
 refine R_nil (tr ..) ?_; clear tr
 refine then_n ?_
 refine at_seq rfl ?_
 refine at_seq rfl ?_
 refine rg rfl ?_
 refine Rq ?_
 refine Rq ?_
 refine Rcall ?_
 refine ACall_eq (sub_ok _ _ _ (by first | assumption | exact fS_F _ | (unfold Fw; omega)) _ (by first | assumption | exact fS_F _ | (unfold Fw; omega))) ?_
 refine Rq ?_
 refine Rq ?_
 refine Rq ?_
 refine R_alloc (by simp (disch := first | omega | (simp only [List.length_map, List.length_append, List.length_set, List.length_cons, List.length_nil]; omega)) only [go_sem, ↓reduceIte, Nat.reduceEqDiff, reduceCtorEq]; rfl) rfl (by simp only [List.map_cons, List.map_nil]; rfl) ?_
 refine R_store ty24 (by simp (disch := first | omega | (simp only [List.length_map, List.length_append, List.length_set, List.length_cons, List.length_nil]; omega)) only [go_sem, ↓reduceIte, Nat.reduceEqDiff, reduceCtorEq]; rfl) (by simp (disch := first | omega | (simp only [List.length_map, List.length_append, List.length_set, List.length_cons, List.length_nil]; omega)) only [go_sem, ↓reduceIte, Nat.reduceEqDiff, reduceCtorEq]; rfl) (by simp (disch := first | omega | (simp only [List.length_map, List.length_append, List.length_set, List.length_cons, List.length_nil]; omega)) only [go_sem, ↓reduceIte, Nat.reduceEqDiff, reduceCtorEq]; rfl) (by simp) (by rfl) (by simp (disch := first | omega | (simp only [List.length_map, List.length_append, List.length_set, List.length_cons, List.length_nil]; omega)) only [go_sem, ↓reduceIte, Nat.reduceEqDiff, reduceCtorEq]; rfl) ?_
 refine Rq ?_
 have tr : ∀ a b c d e f g h i j k m n o p q r s t u v : AV, let l := lc_worder_ok a b c d e f g h i j k m n; trim ((10,v)::(9,u)::(28,t)::(27,s)::(23,r)::(26,q)::(25,p)::(24,o)::l) l = [(0,a),(1,b),(2,c),(3,d),(4,e),(5,f),(6,g),(7,h),(8,i),(9,u),(10,v),(12,m),(37,n)] := by intros; rfl
 refine R_nil (tr ..) ?_; clear tr
 refine then_n ?_
 refine at_seq rfl ?_
 refine rd rfl rfl ?_
 refine Qq ?_
 refine Qq ?_
 refine Qp_split (fun h1 => ?_) (fun h1 => ?_)
 ·
  try simp only [decide_eq_true_eq, decide_eq_false_iff_not, decide_eq_decide, Bool.not_eq_true', Bool.not_eq_false', beq_iff_eq, beq_eq_false_iff_ne, ne_eq, Bool.and_eq_true, Bool.and_eq_false_iff, decide_not] at h1
  have hF : Fw (x - y) := by
    by_cases hF : Fw (x - y)
    · exact hF
    · exfalso; simp only [fS_n hF] at *; first | contradiction | simp_all
  refine Qy ?_
  refine Qq ?_
  refine Qy ?_
  refine Qcall ?_
  refine ACall_eq (sign_ok _ _ _ (by first | assumption | exact fS_F _ | (unfold Fw; omega))) ?_
  refine ⟨rfl, ?_⟩
  refine Qy ?_
  refine Qq ?_
  refine Qy ?_
  refine Qq ?_
  refine Qy ?_
  refine Qcall ?_
  refine ACall_eq (cmp_ok _ _ _ (by first | assumption | exact fS_F _ | (unfold Fw; omega)) _ (by first | assumption | exact fS_F _ | (unfold Fw; omega))) ?_
  refine ⟨rfl, ?_⟩
  refine Qy ?_
  refine Qq ?_
  refine Qq ?_
  refine Q_nil ?_
  have tr : ∀ a b c d e f g h i j k m n o p q r s t u v w : AV, let l := lc_worder_ok a b c d e f g h i j k m n; trim ((37,w)::(36,v)::(35,u)::(34,t)::(33,s)::(32,r)::(31,q)::(30,p)::(29,o)::l) l = [(0,a),(1,b),(2,c),(3,d),(4,e),(5,f),(6,g),(7,h),(8,i),(9,j),(10,k),(12,m),(37,w)] := by intros; rfl
  refine R_nil (tr ..) ?_; clear tr
  refine then_n ?_
  refine cdd (fun h2 => ?_) (fun h2 => ?_)
  ·
   try simp only [decide_eq_true_eq, decide_eq_false_iff_not, decide_eq_decide, Bool.not_eq_true', Bool.not_eq_false', beq_iff_eq, beq_eq_false_iff_ne, ne_eq, Bool.and_eq_true, Bool.and_eq_false_iff, decide_not] at h2
   refine at_seq rfl ?_
   refine rg rfl ?_
   exfalso; simp only [fS_y hF, cmp_sub] at *; first | contradiction | simp_all | omega
  ·
   try simp only [decide_eq_true_eq, decide_eq_false_iff_not, decide_eq_decide, Bool.not_eq_true', Bool.not_eq_false', beq_iff_eq, beq_eq_false_iff_ne, ne_eq, Bool.and_eq_true, Bool.and_eq_false_iff, decide_not] at h2
   refine at_skip rfl ?_
   refine then_n ?_
   refine at_seq rfl ?_
   refine rd rfl rfl ?_
   refine Qq ?_
   refine Qq ?_
   refine Qcall ?_
   refine ACall_eq (cmp_ok _ _ _ (by first | assumption | exact fS_F _ | (unfold Fw; omega)) _ (by first | assumption | exact fS_F _ | (unfold Fw; omega))) ?_
   refine ⟨rfl, ?_⟩
   refine Qq ?_
   refine Qq ?_
   refine Qcall ?_
   refine ACall_eq (rcmp_ok _ _ _ (by first | assumption | exact fS_F _ | (unfold Fw; omega)) _ (by first | assumption | exact fS_F _ | (unfold Fw; omega))) ?_
   refine ⟨rfl, ?_⟩
   refine Qq ?_
   refine Qq ?_
   refine Qp_split (fun h3 => ?_) (fun h3 => ?_)
   ·
    try simp only [decide_eq_true_eq, decide_eq_false_iff_not, decide_eq_decide, Bool.not_eq_true', Bool.not_eq_false', beq_iff_eq, beq_eq_false_iff_ne, ne_eq, Bool.and_eq_true, Bool.and_eq_false_iff, decide_not] at h3
    refine Qy ?_
    refine Qq ?_
    refine Qy ?_
    refine Qcall ?_
    refine ACall_eq (sign_ok _ _ _ (by first | assumption | exact fS_F _ | (unfold Fw; omega))) ?_
    refine ⟨rfl, ?_⟩
    refine Qy ?_
    refine Qq ?_
    refine Qy ?_
    refine Qcall ?_
    refine ACall_eq (rsign_ok _ _ _ (by first | assumption | exact fS_F _ | (unfold Fw; omega))) ?_
    refine ⟨rfl, ?_⟩
    refine Qy ?_
    refine Qq ?_
    refine Qq ?_
    refine Qq ?_
    refine Qp_split (fun h4 => ?_) (fun h4 => ?_)
    ·
     try simp only [decide_eq_true_eq, decide_eq_false_iff_not, decide_eq_decide, Bool.not_eq_true', Bool.not_eq_false', beq_iff_eq, beq_eq_false_iff_ne, ne_eq, Bool.and_eq_true, Bool.and_eq_false_iff, decide_not] at h4
     refine Qy ?_
     refine Qq ?_
     refine Qy ?_
     refine Qq ?_
     refine Qy ?_
     refine Qq ?_
     refine Qq ?_
     refine Qq ?_
     refine Qp_split (fun h5 => ?_) (fun h5 => ?_)
     ·
      try simp only [decide_eq_true_eq, decide_eq_false_iff_not, decide_eq_decide, Bool.not_eq_true', Bool.not_eq_false', beq_iff_eq, beq_eq_false_iff_ne, ne_eq, Bool.and_eq_true, Bool.and_eq_false_iff, decide_not] at h5
      refine Qy ?_
      refine Qq ?_
      refine Qy ?_
      refine Qq ?_
      refine Qy ?_
      refine Qq ?_
      refine Qq ?_
      refine Qq ?_
      refine Q_nil ?_
      have tr : ∀ a b c d e f g h i j k m n o p q r s t u v w x y z A B C D E F G H I J K L M : AV, let l := lc_worder_ok a b c d e f g h i j k m n; trim ((4,M)::(61,L)::(60,K)::(59,J)::(58,I)::(57,H)::(56,G)::(55,F)::(54,E)::(53,D)::(52,C)::(51,B)::(50,A)::(49,z)::(48,y)::(47,x)::(46,w)::(45,v)::(44,u)::(43,t)::(42,s)::(41,r)::(40,q)::(39,p)::(38,o)::l) l = [(0,a),(1,b),(2,c),(3,d),(4,M),(5,f),(6,g),(7,h),(8,i),(9,j),(10,k),(12,m),(37,n)] := by intros; rfl
      refine R_nil (tr ..) ?_; clear tr
      refine then_n ?_
      refine at_ret rfl ?_
      refine fpure ?_
      first | rfl | (simp; done) | (exfalso; omega)
     ·
      try simp only [decide_eq_true_eq, decide_eq_false_iff_not, decide_eq_decide, Bool.not_eq_true', Bool.not_eq_false', beq_iff_eq, beq_eq_false_iff_ne, ne_eq, Bool.and_eq_true, Bool.and_eq_false_iff, decide_not] at h5
      first | omega | contradiction | exact absurd rfl (by assumption) | exact absurd trivial (by assumption)
    ·
     try simp only [decide_eq_true_eq, decide_eq_false_iff_not, decide_eq_decide, Bool.not_eq_true', Bool.not_eq_false', beq_iff_eq, beq_eq_false_iff_ne, ne_eq, Bool.and_eq_true, Bool.and_eq_false_iff, decide_not] at h4
     first | omega | contradiction | exact absurd rfl (by assumption) | exact absurd trivial (by assumption)
   ·
    try simp only [decide_eq_true_eq, decide_eq_false_iff_not, decide_eq_decide, Bool.not_eq_true', Bool.not_eq_false', beq_iff_eq, beq_eq_false_iff_ne, ne_eq, Bool.and_eq_true, Bool.and_eq_false_iff, decide_not] at h3
    first | omega | contradiction | exact absurd rfl (by assumption) | exact absurd trivial (by assumption)
 ·
  try simp only [decide_eq_true_eq, decide_eq_false_iff_not, decide_eq_decide, Bool.not_eq_true', Bool.not_eq_false', beq_iff_eq, beq_eq_false_iff_ne, ne_eq, Bool.and_eq_true, Bool.and_eq_false_iff, decide_not] at h1
  refine Qn ?_
  refine Qn ?_
  refine Qn ?_
  refine Qn ?_
  refine Qn ?_
  refine Qn ?_
  refine Qq ?_
  refine Q_nil ?_
  have tr : ∀ a b c d e f g h i j k m n o p q r s t u v w : AV, let l := lc_worder_ok a b c d e f g h i j k m n; trim ((37,w)::(36,v)::(35,u)::(34,t)::(33,s)::(32,r)::(31,q)::(30,p)::(29,o)::l) l = [(0,a),(1,b),(2,c),(3,d),(4,e),(5,f),(6,g),(7,h),(8,i),(9,j),(10,k),(12,m),(37,w)] := by intros; rfl
  refine R_nil (tr ..) ?_; clear tr
  refine then_n ?_
  refine cdf ?_
  refine at_skip rfl ?_
  refine then_n ?_
  refine at_seq rfl ?_
  refine rd rfl rfl ?_
  refine Qq ?_
  refine Qq ?_
  refine Qcall ?_
  refine ACall_eq (cmp_ok _ _ _ (by first | assumption | exact fS_F _ | (unfold Fw; omega)) _ (by first | assumption | exact fS_F _ | (unfold Fw; omega))) ?_
  refine ⟨rfl, ?_⟩
  refine Qq ?_
  refine Qq ?_
  refine Qcall ?_
  refine ACall_eq (rcmp_ok _ _ _ (by first | assumption | exact fS_F _ | (unfold Fw; omega)) _ (by first | assumption | exact fS_F _ | (unfold Fw; omega))) ?_
  refine ⟨rfl, ?_⟩
  refine Qq ?_
  refine Qq ?_
  refine Qp_split (fun h6 => ?_) (fun h6 => ?_)
  ·
   try simp only [decide_eq_true_eq, decide_eq_false_iff_not, decide_eq_decide, Bool.not_eq_true', Bool.not_eq_false', beq_iff_eq, beq_eq_false_iff_ne, ne_eq, Bool.and_eq_true, Bool.and_eq_false_iff, decide_not] at h6
   refine Qy ?_
   refine Qq ?_
   refine Qy ?_
   refine Qcall ?_
   refine ACall_eq (sign_ok _ _ _ (by first | assumption | exact fS_F _ | (unfold Fw; omega))) ?_
   refine ⟨rfl, ?_⟩
   refine Qy ?_
   refine Qq ?_
   refine Qy ?_
   refine Qcall ?_
   refine ACall_eq (rsign_ok _ _ _ (by first | assumption | exact fS_F _ | (unfold Fw; omega))) ?_
   refine ⟨rfl, ?_⟩
   refine Qy ?_
   refine Qq ?_
   refine Qq ?_
   refine Qq ?_
   refine Qp_split (fun h7 => ?_) (fun h7 => ?_)
   ·
    try simp only [decide_eq_true_eq, decide_eq_false_iff_not, decide_eq_decide, Bool.not_eq_true', Bool.not_eq_false', beq_iff_eq, beq_eq_false_iff_ne, ne_eq, Bool.and_eq_true, Bool.and_eq_false_iff, decide_not] at h7
    refine Qy ?_
    refine Qq ?_
    refine Qy ?_
    refine Qq ?_
    refine Qy ?_
    refine Qq ?_
    refine Qq ?_
    refine Qq ?_
    refine Qp_split (fun h8 => ?_) (fun h8 => ?_)
    ·
     try simp only [decide_eq_true_eq, decide_eq_false_iff_not, decide_eq_decide, Bool.not_eq_true', Bool.not_eq_false', beq_iff_eq, beq_eq_false_iff_ne, ne_eq, Bool.and_eq_true, Bool.and_eq_false_iff, decide_not] at h8
     refine Qy ?_
     refine Qq ?_
     refine Qy ?_
     refine Qq ?_
     refine Qy ?_
     refine Qq ?_
     refine Qq ?_
     refine Qq ?_
     refine Q_nil ?_
     have tr : ∀ a b c d e f g h i j k m n o p q r s t u v w x y z A B C D E F G H I J K L M : AV, let l := lc_worder_ok a b c d e f g h i j k m n; trim ((4,M)::(61,L)::(60,K)::(59,J)::(58,I)::(57,H)::(56,G)::(55,F)::(54,E)::(53,D)::(52,C)::(51,B)::(50,A)::(49,z)::(48,y)::(47,x)::(46,w)::(45,v)::(44,u)::(43,t)::(42,s)::(41,r)::(40,q)::(39,p)::(38,o)::l) l = [(0,a),(1,b),(2,c),(3,d),(4,M),(5,f),(6,g),(7,h),(8,i),(9,j),(10,k),(12,m),(37,n)] := by intros; rfl
     refine R_nil (tr ..) ?_; clear tr
     refine then_n ?_
     refine at_ret rfl ?_
     refine fpure ?_
     first | rfl | (simp; done) | (exfalso; omega)
    ·
     try simp only [decide_eq_true_eq, decide_eq_false_iff_not, decide_eq_decide, Bool.not_eq_true', Bool.not_eq_false', beq_iff_eq, beq_eq_false_iff_ne, ne_eq, Bool.and_eq_true, Bool.and_eq_false_iff, decide_not] at h8
     first | omega | contradiction | exact absurd rfl (by assumption) | exact absurd trivial (by assumption)
   ·
    try simp only [decide_eq_true_eq, decide_eq_false_iff_not, decide_eq_decide, Bool.not_eq_true', Bool.not_eq_false', beq_iff_eq, beq_eq_false_iff_ne, ne_eq, Bool.and_eq_true, Bool.and_eq_false_iff, decide_not] at h7
    first | omega | contradiction | exact absurd rfl (by assumption) | exact absurd trivial (by assumption)
  ·
   try simp only [decide_eq_true_eq, decide_eq_false_iff_not, decide_eq_decide, Bool.not_eq_true', Bool.not_eq_false', beq_iff_eq, beq_eq_false_iff_ne, ne_eq, Bool.and_eq_true, Bool.and_eq_false_iff, decide_not] at h6
   first | omega | contradiction | exact absurd rfl (by assumption) | exact absurd trivial (by assumption)

end Go.Proofs.YtokhmkkifmhfmaaDoor
