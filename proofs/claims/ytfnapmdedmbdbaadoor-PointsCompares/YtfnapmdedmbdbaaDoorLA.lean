/-
  Walks of chapter 51. The steps are written by program (walk.py).
-/
import Derived.Test.YtfnapmdedmbdbaaDoorQB
import Derived.Test.YtfnapmdedmbdbaaDoorAw
set_option linter.unusedSimpArgs false
set_option linter.unusedVariables false
set_option maxHeartbeats 1000000
set_option maxRecDepth 20000
namespace Go.Proofs.YtfnapmdedmbdbaaDoor
open Go Go.Am
abbrev lc_pcompares_ok (a b c d e f : AV) : Env := [(0,a),(1,b),(2,c),(3,d),(4,e),(6,f)]
theorem pcompares_ok (lim : Nat) (H : Heap) (y z : St) : ACall sig lim 3 [stA y, stA z] H fun r _ => r = .v (.bool true) := by
 have h1 := crS_anti y z
 have h2 := cmS_anti y z
 have h3 := crS_rng y z
 have h4 := cmS_rng y z
 refine ACall_pure (fa := fa3) rfl rfl rfl rfl ?_
 have tr : ∀ a0 a1 : AV, env0 fa3.keep [a0, a1] = [(0,a0),(1,a1),(2,.any),(3,.any),(4,.any),(6,.any)] := fun a0 a1 => rfl
 refine W_to (tr _ _) ?_; clear tr
 refine at_seq rfl ?_
 refine rg rfl ?_
 refine R_box rfl (by simp (disch := first | omega | (simp only [List.length_map, List.length_append, List.length_set, List.length_cons, List.length_nil]; omega)) only [go_sem, ↓reduceIte, Nat.reduceEqDiff, reduceCtorEq]; rfl) rfl rfl ?_
 refine R_box rfl (by simp (disch := first | omega | (simp only [List.length_map, List.length_append, List.length_set, List.length_cons, List.length_nil]; omega)) only [go_sem, ↓reduceIte, Nat.reduceEqDiff, reduceCtorEq]; rfl) rfl rfl ?_
 refine Rq ?_
 have tr : ∀ a b c d e f g h i : AV, let l := lc_pcompares_ok a b c d e f; trim ((4,i)::(3,h)::(2,g)::l) l = [(0,a),(1,b),(2,g),(3,h),(4,i),(6,f)] := by intros; rfl
 refine R_nil (tr ..) ?_; clear tr
 refine then_n ?_
 refine at_seq rfl ?_
 refine at_seq rfl ?_
 refine rg rfl ?_
 refine Rcall ?_
 refine ACall_eval 400 (awake51 _ _) ?_
 refine Rq ?_
 have tr : ∀ a b c d e f g h : AV, let l := lc_pcompares_ok a b c d e f; trim ((6,h)::(5,g)::l) l = [(0,a),(1,b),(2,c),(3,d),(4,e),(6,h)] := by intros; rfl
 refine R_nil (tr ..) ?_; clear tr
 refine then_n ?_
 refine cdf ?_
 refine at_skip rfl ?_
 refine then_n ?_
 refine at_seq rfl ?_
 refine rd rfl rfl ?_
 refine Qq ?_
 refine Qq ?_
 refine Qcall ?_
 refine ACall_eq (crate_ok _ _ _ _) ?_
 refine ⟨rfl, ?_⟩
 refine Qq ?_
 refine Qq ?_
 refine Qcall ?_
 refine ACall_eq (rcrate_ok _ _ _ _) ?_
 refine ⟨rfl, ?_⟩
 refine Qq ?_
 refine Qq ?_
 refine Qp_split (fun h1 => ?_) (fun h1 => ?_)
 ·
  try simp only [decide_eq_true_eq, decide_eq_false_iff_not, decide_eq_decide, Bool.not_eq_true', Bool.not_eq_false', beq_iff_eq, beq_eq_false_iff_ne, ne_eq, Bool.and_eq_true, Bool.and_eq_false_iff, decide_not] at h1
  refine Qy ?_
  refine Qq ?_
  refine Qy ?_
  refine Qq ?_
  refine Qy ?_
  refine Qcall ?_
  refine ACall_eq (comp_ok _ _ _ _) ?_
  refine ⟨rfl, ?_⟩
  refine Qy ?_
  refine Qq ?_
  refine Qy ?_
  refine Qq ?_
  refine Qy ?_
  refine Qcall ?_
  refine ACall_eq (rcomp_ok _ _ _ _) ?_
  refine ⟨rfl, ?_⟩
  refine Qy ?_
  refine Qq ?_
  refine Qq ?_
  refine Qq ?_
  refine Qp_split (fun h2 => ?_) (fun h2 => ?_)
  ·
   try simp only [decide_eq_true_eq, decide_eq_false_iff_not, decide_eq_decide, Bool.not_eq_true', Bool.not_eq_false', beq_iff_eq, beq_eq_false_iff_ne, ne_eq, Bool.and_eq_true, Bool.and_eq_false_iff, decide_not] at h2
   refine Qy ?_
   refine Qq ?_
   refine Qy ?_
   refine Qq ?_
   refine Qy ?_
   refine Qcall ?_
   refine ACall_eq (crate_ok _ _ _ _) ?_
   refine ⟨rfl, ?_⟩
   refine Qy ?_
   refine Qq ?_
   refine Qy ?_
   refine Qq ?_
   refine Qy ?_
   refine Qcall ?_
   refine ACall_eq (crate_ok _ _ _ _) ?_
   refine ⟨rfl, ?_⟩
   refine Qy ?_
   refine Qq ?_
   refine Qy ?_
   refine Qq ?_
   refine Qq ?_
   refine Qq ?_
   refine Qp_split (fun h3 => ?_) (fun h3 => ?_)
   ·
    try simp only [decide_eq_true_eq, decide_eq_false_iff_not, decide_eq_decide, Bool.not_eq_true', Bool.not_eq_false', beq_iff_eq, beq_eq_false_iff_ne, ne_eq, Bool.and_eq_true, Bool.and_eq_false_iff, decide_not] at h3
    refine Qy ?_
    refine Qq ?_
    refine Qy ?_
    refine Qq ?_
    refine Qy ?_
    refine Qcall ?_
    refine ACall_eq (comp_ok _ _ _ _) ?_
    refine ⟨rfl, ?_⟩
    refine Qy ?_
    refine Qq ?_
    refine Qy ?_
    refine Qq ?_
    refine Qy ?_
    refine Qcall ?_
    refine ACall_eq (comp_ok _ _ _ _) ?_
    refine ⟨rfl, ?_⟩
    refine Qy ?_
    refine Qq ?_
    refine Qy ?_
    refine Qq ?_
    refine Qq ?_
    refine Qq ?_
    refine Q_nil ?_
    have tr : ∀ a b c d e f g h i j k m n o p q r s t u v w x y z A B C D E F G H I J K L M N O P Q R : AV, let l := lc_pcompares_ok a b c d e f; trim ((4,R)::(42,Q)::(41,P)::(40,O)::(39,N)::(38,M)::(37,L)::(36,K)::(35,J)::(34,I)::(33,H)::(32,G)::(31,F)::(30,E)::(29,D)::(28,C)::(27,B)::(26,A)::(25,z)::(24,y)::(23,x)::(22,w)::(21,v)::(20,u)::(19,t)::(18,s)::(17,r)::(16,q)::(15,p)::(14,o)::(13,n)::(12,m)::(11,k)::(10,j)::(9,i)::(8,h)::(7,g)::l) l = [(0,a),(1,b),(2,c),(3,d),(4,R),(6,f)] := by intros; rfl
    refine R_nil (tr ..) ?_; clear tr
    refine then_n ?_
    refine at_ret rfl ?_
    refine fpure ?_
    first | rfl | exact congrArg (fun b => AV.v (.bool b)) (decide_eq_true (by omega)) | (simp; done) | (exfalso; omega)
   ·
    try simp only [decide_eq_true_eq, decide_eq_false_iff_not, decide_eq_decide, Bool.not_eq_true', Bool.not_eq_false', beq_iff_eq, beq_eq_false_iff_ne, ne_eq, Bool.and_eq_true, Bool.and_eq_false_iff, decide_not] at h3
    first | omega | contradiction | exact absurd rfl (by assumption)
  ·
   try simp only [decide_eq_true_eq, decide_eq_false_iff_not, decide_eq_decide, Bool.not_eq_true', Bool.not_eq_false', beq_iff_eq, beq_eq_false_iff_ne, ne_eq, Bool.and_eq_true, Bool.and_eq_false_iff, decide_not] at h2
   first | omega | contradiction | exact absurd rfl (by assumption)
 ·
  try simp only [decide_eq_true_eq, decide_eq_false_iff_not, decide_eq_decide, Bool.not_eq_true', Bool.not_eq_false', beq_iff_eq, beq_eq_false_iff_ne, ne_eq, Bool.and_eq_true, Bool.and_eq_false_iff, decide_not] at h1
  first | omega | contradiction | exact absurd rfl (by assumption)

end Go.Proofs.YtfnapmdedmbdbaaDoor
