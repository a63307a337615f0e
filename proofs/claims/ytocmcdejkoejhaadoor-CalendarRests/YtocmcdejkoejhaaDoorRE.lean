/-
  Walks of chapter 48. The steps are written by program (walk.py).
-/
import Derived.Test.YtocmcdejkoejhaaDoorRD
import Derived.Test.YtocmcdejkoejhaaDoorAw
set_option linter.unusedSimpArgs false
set_option linter.unusedVariables false
set_option maxHeartbeats 1000000
set_option maxRecDepth 20000
namespace Go.Proofs.YtocmcdejkoejhaaDoor
open Go Go.Am
abbrev lc_crests_ok (a b c d e f g h i : AV) : Env := [(0,a),(1,b),(4,c),(5,d),(6,e),(7,f),(8,g),(10,h),(13,i)]
theorem crests_ok (lim : Nat) (H : Heap) (l : List Int) (rest : Int) : ACall sig lim 6 [intsAV l, AV.i rest] H fun r _ => r = .v (.bool true) := by
 refine ACall_pure (fa := fa6) rfl rfl rfl rfl ?_
 have tr : ∀ a0 a1 : AV, env0 fa6.keep [a0, a1] = [(0,a0),(1,a1),(4,.any),(5,.any),(6,.any),(7,.any),(8,.any),(10,.any),(13,.any)] := fun a0 a1 => rfl
 refine W_to (tr _ _) ?_; clear tr
 refine at_seq rfl ?_
 refine rg rfl ?_
 refine Rq ?_
 have tr : ∀ a b c d e f g h i j : AV, let l := lc_crests_ok a b c d e f g h i; trim ((4,j)::l) l = [(0,a),(1,b),(4,j),(5,d),(6,e),(7,f),(8,g),(10,h),(13,i)] := by intros; rfl
 refine R_nil (tr ..) ?_; clear tr
 refine then_n ?_
 refine at_seq rfl ?_
 refine at_seq rfl ?_
 refine rg rfl ?_
 refine Rcall ?_
 refine ACall_eval 400 (awake48 _ _) ?_
 refine Rq ?_
 have tr : ∀ a b c d e f g h i j k : AV, let l := lc_crests_ok a b c d e f g h i; trim ((10,k)::(9,j)::l) l = [(0,a),(1,b),(4,c),(5,d),(6,e),(7,f),(8,g),(10,k),(13,i)] := by intros; rfl
 refine R_nil (tr ..) ?_; clear tr
 refine then_n ?_
 refine cdf ?_
 refine at_skip rfl ?_
 refine then_n ?_
 refine at_seq rfl ?_
 refine at_seq rfl ?_
 refine rg rfl ?_
 refine Rq ?_
 refine Rq ?_
 refine Rq ?_
 have tr : ∀ a b c d e f g h i j k m : AV, let l := lc_crests_ok a b c d e f g h i; trim ((13,m)::(12,k)::(11,j)::l) l = [(0,a),(1,b),(4,c),(5,d),(6,e),(7,f),(8,g),(10,h),(13,m)] := by intros; rfl
 refine R_nil (tr ..) ?_; clear tr
 refine then_n ?_
 refine cdd (fun h1 => ?_) (fun h1 => ?_)
 ·
  try simp only [decide_eq_true_eq, decide_eq_false_iff_not, Bool.not_eq_true', Bool.not_eq_false', beq_iff_eq, beq_eq_false_iff_ne, ne_eq] at h1
  refine at_seq rfl ?_
  refine rg rfl ?_
  refine Rq ?_
  have tr : ∀ a b c d e f g h i j : AV, let l := lc_crests_ok a b c d e f g h i; trim ((4,j)::l) l = [(0,a),(1,b),(4,j),(5,d),(6,e),(7,f),(8,g),(10,h),(13,i)] := by intros; rfl
  refine R_nil (tr ..) ?_; clear tr
  refine then_n ?_
  refine at_ret rfl ?_
  refine then_r ?_
  refine fpure ?_
  first | rfl | simp
 ·
  try simp only [decide_eq_true_eq, decide_eq_false_iff_not, Bool.not_eq_true', Bool.not_eq_false', beq_iff_eq, beq_eq_false_iff_ne, ne_eq] at h1
  refine at_skip rfl ?_
  refine then_n ?_
  refine at_seq rfl ?_
  refine rg rfl ?_
  refine Rq ?_
  refine Rq ?_
  refine Rcall ?_
  refine ACall_eq (rest_ok _ _ _ _) ?_
  refine Rq ?_
  refine Rq ?_
  refine Rq ?_
  refine Rq ?_
  refine Rq ?_
  have tr : ∀ a b c d e f g h i j k m n o p q r : AV, let l := lc_crests_ok a b c d e f g h i; trim ((6,r)::(5,q)::(19,p)::(18,o)::(14,n)::(17,m)::(16,k)::(15,j)::l) l = [(0,a),(1,b),(4,c),(5,q),(6,r),(7,f),(8,g),(10,h),(13,i)] := by intros; rfl
  refine R_nil (tr ..) ?_; clear tr
  refine then_n ?_
  refine at_seq rfl ?_
  refine rg rfl ?_
  refine Rq ?_
  refine Rq ?_
  refine Rcall ?_
  refine ACall_eq (rrest_ok _ _ _ _) ?_
  refine Rq ?_
  refine Rq ?_
  refine Rq ?_
  refine Rq ?_
  refine Rq ?_
  have tr : ∀ a b c d e f g h i j k m n o p q r : AV, let l := lc_crests_ok a b c d e f g h i; trim ((8,r)::(7,q)::(25,p)::(24,o)::(20,n)::(23,m)::(22,k)::(21,j)::l) l = [(0,a),(1,b),(4,c),(5,d),(6,e),(7,q),(8,r),(10,h),(13,i)] := by intros; rfl
  refine R_nil (tr ..) ?_; clear tr
  refine then_n ?_
  refine at_seq rfl ?_
  refine rg rfl ?_
  refine Rq ?_
  refine Rq ?_
  refine Rq ?_
  refine Rq ?_
  refine Rp_split (fun h2 => ?_) (fun h2 => ?_)
  ·
   try simp only [decide_eq_true_eq, decide_eq_false_iff_not, Bool.not_eq_true', Bool.not_eq_false', beq_iff_eq, beq_eq_false_iff_ne, ne_eq] at h2
   refine Ry ?_
   refine Rq ?_
   refine Ry ?_
   refine Rq ?_
   refine Ry ?_
   refine Rq ?_
   refine Rq ?_
   refine Rq ?_
   have tr : ∀ a b c d e f g h i j k m n o p q r s : AV, let l := lc_crests_ok a b c d e f g h i; trim ((4,s)::(33,r)::(32,q)::(31,p)::(30,o)::(29,n)::(28,m)::(27,k)::(26,j)::l) l = [(0,a),(1,b),(4,s),(5,d),(6,e),(7,f),(8,g),(10,h),(13,i)] := by intros; rfl
   refine R_nil (tr ..) ?_; clear tr
   refine then_n ?_
   refine at_ret rfl ?_
   refine fpure ?_
   first | rfl | simp
  ·
   try simp only [decide_eq_true_eq, decide_eq_false_iff_not, Bool.not_eq_true', Bool.not_eq_false', beq_iff_eq, beq_eq_false_iff_ne, ne_eq] at h2
   first | omega | contradiction | exact absurd rfl (by assumption) | exact absurd trivial (by assumption)

end Go.Proofs.YtocmcdejkoejhaaDoor
