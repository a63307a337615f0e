/-
  Walks of chapter 51. The steps are written by program (walk.py).
-/
import Derived.Test.YtfnapmdedmbdbaaDoorQD
import Derived.Test.YtfnapmdedmbdbaaDoorAw
set_option linter.unusedSimpArgs false
set_option linter.unusedVariables false
set_option maxHeartbeats 1000000
set_option maxRecDepth 20000
namespace Go.Proofs.YtfnapmdedmbdbaaDoor
open Go Go.Am
abbrev lc_prates_ok (a b c d e f g h i : AV) : Env := [(0,a),(1,b),(2,c),(4,d),(5,e),(6,f),(7,g),(8,h),(10,i)]
theorem prates_ok (lim : Nat) (H : Heap) (z : St) (b : Int) (hb : -9223372036854775808 ≤ b ∧ b ≤ 9223372036854775807) : ACall sig lim 6 [stA z, AV.i b] H fun r _ => r = .v (.bool true) := by
 refine ACall_pure (fa := fa6) rfl rfl rfl rfl ?_
 have tr : ∀ a0 a1 : AV, env0 fa6.keep [a0, a1] = [(0,a0),(1,a1),(2,.any),(4,.any),(5,.any),(6,.any),(7,.any),(8,.any),(10,.any)] := fun a0 a1 => rfl
 refine W_to (tr _ _) ?_; clear tr
 refine at_seq rfl ?_
 refine rg rfl ?_
 refine R_box rfl (by simp (disch := first | omega | (simp only [List.length_map, List.length_append, List.length_set, List.length_cons, List.length_nil]; omega)) only [go_sem, ↓reduceIte, Nat.reduceEqDiff, reduceCtorEq]; rfl) rfl rfl ?_
 refine Rq ?_
 have tr : ∀ a b c d e f g h i j k : AV, let l := lc_prates_ok a b c d e f g h i; trim ((4,k)::(2,j)::l) l = [(0,a),(1,b),(2,j),(4,k),(5,e),(6,f),(7,g),(8,h),(10,i)] := by intros; rfl
 refine R_nil (tr ..) ?_; clear tr
 refine then_n ?_
 refine at_seq rfl ?_
 refine at_seq rfl ?_
 refine rg rfl ?_
 refine Rcall ?_
 refine ACall_eval 400 (awake51 _ _) ?_
 refine Rq ?_
 have tr : ∀ a b c d e f g h i j k : AV, let l := lc_prates_ok a b c d e f g h i; trim ((10,k)::(9,j)::l) l = [(0,a),(1,b),(2,c),(4,d),(5,e),(6,f),(7,g),(8,h),(10,k)] := by intros; rfl
 refine R_nil (tr ..) ?_; clear tr
 refine then_n ?_
 refine cdf ?_
 refine at_skip rfl ?_
 refine then_n ?_
 refine at_seq rfl ?_
 refine rg rfl ?_
 refine Rq ?_
 refine Rq ?_
 refine Rcall ?_
 refine ACall_eq (prate_ok _ _ _ _ hb) ?_
 refine Rq ?_
 refine Rq ?_
 refine Rq ?_
 refine Rq ?_
 refine Rq ?_
 have tr : ∀ a b c d e f g h i j k m n o p q r : AV, let l := lc_prates_ok a b c d e f g h i; trim ((6,r)::(5,q)::(16,p)::(15,o)::(11,n)::(14,m)::(13,k)::(12,j)::l) l = [(0,a),(1,b),(2,c),(4,d),(5,q),(6,r),(7,g),(8,h),(10,i)] := by intros; rfl
 refine R_nil (tr ..) ?_; clear tr
 refine then_n ?_
 refine at_seq rfl ?_
 refine rg rfl ?_
 refine Rq ?_
 refine Rq ?_
 refine Rcall ?_
 refine ACall_eq (rprate_ok _ _ _ _ hb) ?_
 refine Rq ?_
 refine Rq ?_
 refine Rq ?_
 refine Rq ?_
 refine Rq ?_
 have tr : ∀ a b c d e f g h i j k m n o p q r : AV, let l := lc_prates_ok a b c d e f g h i; trim ((8,r)::(7,q)::(22,p)::(21,o)::(17,n)::(20,m)::(19,k)::(18,j)::l) l = [(0,a),(1,b),(2,c),(4,d),(5,e),(6,f),(7,q),(8,r),(10,i)] := by intros; rfl
 refine R_nil (tr ..) ?_; clear tr
 refine then_n ?_
 refine at_seq rfl ?_
 refine rg rfl ?_
 refine Rq ?_
 refine Rq ?_
 refine Rq ?_
 refine Rq ?_
 refine Rp_split (fun h1 => ?_) (fun h1 => ?_)
 ·
  try simp only [decide_eq_true_eq, decide_eq_false_iff_not, decide_eq_decide, Bool.not_eq_true', Bool.not_eq_false', beq_iff_eq, beq_eq_false_iff_ne, ne_eq, Bool.and_eq_true, Bool.and_eq_false_iff, decide_not] at h1
  refine Ry ?_
  refine Rq ?_
  refine Ry ?_
  refine Rq ?_
  refine Ry ?_
  refine Rq ?_
  refine Rq ?_
  refine Rq ?_
  have tr : ∀ a b c d e f g h i j k m n o p q r s : AV, let l := lc_prates_ok a b c d e f g h i; trim ((4,s)::(30,r)::(29,q)::(28,p)::(27,o)::(26,n)::(25,m)::(24,k)::(23,j)::l) l = [(0,a),(1,b),(2,c),(4,s),(5,e),(6,f),(7,g),(8,h),(10,i)] := by intros; rfl
  refine R_nil (tr ..) ?_; clear tr
  refine then_n ?_
  refine at_ret rfl ?_
  refine fpure ?_
  first | rfl | (simp; done) | (exfalso; exact absurd trivial (by assumption))
 ·
  try simp only [decide_eq_true_eq, decide_eq_false_iff_not, decide_eq_decide, Bool.not_eq_true', Bool.not_eq_false', beq_iff_eq, beq_eq_false_iff_ne, ne_eq, Bool.and_eq_true, Bool.and_eq_false_iff, decide_not] at h1
  refine Rn ?_
  refine Rn ?_
  refine Rn ?_
  refine Rq ?_
  refine Rq ?_
  have tr : ∀ a b c d e f g h i j k m n o p q r s : AV, let l := lc_prates_ok a b c d e f g h i; trim ((4,s)::(30,r)::(29,q)::(28,p)::(27,o)::(26,n)::(25,m)::(24,k)::(23,j)::l) l = [(0,a),(1,b),(2,c),(4,s),(5,e),(6,f),(7,g),(8,h),(10,i)] := by intros; rfl
  refine R_nil (tr ..) ?_; clear tr
  refine then_n ?_
  refine at_ret rfl ?_
  refine fpure ?_
  first | rfl | (simp; done) | (exfalso; exact absurd trivial (by assumption))

end Go.Proofs.YtfnapmdedmbdbaaDoor
