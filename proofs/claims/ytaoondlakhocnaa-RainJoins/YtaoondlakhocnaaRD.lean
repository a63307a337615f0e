/-
  Walks of chapters 37, 39 and 40. The steps are written by program (walk.py).
-/
import Derived.Test.YtaoondlakhocnaaRB
set_option linter.unusedSimpArgs false
set_option linter.unusedVariables false
set_option maxHeartbeats 40000000
set_option maxRecDepth 4000
namespace Go.Proofs.Ytaoondlakhocnaa
open Go Go.Am

abbrev lc_ends_ok (a b c d e f g h i j : AV) : Env := [(0,a),(1,b),(2,c),(4,d),(8,e),(9,f),(10,g),(11,h),(15,i),(27,j)]
theorem ends_ok (lim : Nat) (H : Heap) (rows : List (List Int)) (hs : Shaped rows) :
    ACall sig lim 66 [.agg [rowsAV rows]] H fun r H' => r = AV.i (endsS rows) ∧ H' = H := by
 obtain ⟨g2, g91, g1, g10, gl, gr⟩ := hs
 have gl1 := gl (rows.length - 1) (by omega)
 refine ACall_pure (fa := fa66) rfl rfl rfl rfl ?_
 have tr : ∀ a0 : AV, env0 fa66.keep [a0] = [(0,a0),(1,.any),(2,.any),(4,.any),(8,.any),(9,.any),(10,.any),(11,.any),(15,.any),(27,.any)] := fun a0 => rfl
 refine W_to (tr _) ?_; clear tr
 refine at_seq rfl ?_
 refine rg rfl ?_
 refine R_box rfl (by simp (disch := first | omega | (simp only [List.length_map, List.length_append, List.length_set, List.length_cons, List.length_nil]; omega)) only [go_sem, ↓reduceIte, Nat.reduceEqDiff, reduceCtorEq]; rfl) rfl rfl ?_
 refine Rq ?_
 have tr : ∀ a b c d e f g h i j k m : AV, let l := lc_ends_ok a b c d e f g h i j; trim ((2,m)::(1,k)::l) l = [(0,a),(1,k),(2,m),(4,d),(8,e),(9,f),(10,g),(11,h),(15,i),(27,j)] := by intros; rfl
 refine R_nil (tr ..) ?_; clear tr
 refine then_n ?_
 refine at_seq rfl ?_
 refine at_seq rfl ?_
 refine rg rfl ?_
 refine Rq ?_
 refine Rq ?_
 refine Rq ?_
 refine Rq ?_
 refine Rq ?_
 refine Rq ?_
 have tr : ∀ a b c d e f g h i j k m n o p q : AV, let l := lc_ends_ok a b c d e f g h i j; trim ((10,q)::(9,p)::(8,o)::(7,n)::(6,m)::(5,k)::l) l = [(0,a),(1,b),(2,c),(4,d),(8,o),(9,p),(10,q),(11,h),(15,i),(27,j)] := by intros; rfl
 refine R_nil (tr ..) ?_; clear tr
 refine then_n ?_
 refine at_block rfl ?_
 refine loop_n rfl (fun mm kv H' => ∃ w : Nat, ∃ x2 x4 x11 x15 : AV, (kv = [(2, x2), (4, x4), (10, AV.i w), (11, x11), (15, x15)]) ∧ (mm = (gt rows 0).length - w) ∧ (H' = H ++ [some [rowsAV rows]]) ∧ (w ≤ (gt rows 0).length) ∧ (∀ j, j < w → gt (gt rows 0) j = 0)) ⟨0, _, _, _, _, rfl, rfl, rfl, by omega, by intro i hi; omega⟩ (by rfl) ?_
 rintro mm kv H' ⟨w, x2, x4, x11, x15, rfl, rfl, rfl, hw, hz⟩
 have tr : ∀ a b c d e f g h i j k m n o p : AV, upd [(0,a),(1,b),(2,c),(4,d),(8,e),(9,f),(10,g),(11,h),(15,i),(27,j)] [(2,k),(4,m),(10,n),(11,o),(15,p)] = [(0,a),(1,b),(2,k),(4,m),(8,e),(9,f),(10,n),(11,o),(15,p),(27,j)] := by intros; rfl
 refine W_to (tr ..) ?_; clear tr
 refine at_seq rfl ?_
 refine rg rfl ?_
 refine Rq ?_
 have tr : ∀ a b c d e f g h i j k : AV, let l := lc_ends_ok a b c d e f g h i j; trim ((11,k)::l) l = [(0,a),(1,b),(2,c),(4,d),(8,e),(9,f),(10,g),(11,k),(15,i),(27,j)] := by intros; rfl
 refine R_nil (tr ..) ?_; clear tr
 refine then_n ?_
 refine at_seq rfl ?_
 refine cdd (fun h1 => ?_) (fun h1 => ?_)
 ·
  try simp only [decide_eq_true_eq, decide_eq_false_iff_not, Bool.not_eq_true', Bool.not_eq_false', beq_iff_eq, beq_eq_false_iff_ne, ne_eq] at h1
  refine at_skip rfl ?_
  refine then_n ?_
  refine at_seq rfl ?_
  refine at_block rfl ?_
  refine at_seq rfl ?_
  refine rg rfl ?_
  refine Rq ?_
  refine Rq ?_
  refine Rq ?_
  have tr : ∀ a b c d e f g h i j k m n : AV, let l := lc_ends_ok a b c d e f g h i j; trim ((4,n)::(13,m)::(12,k)::l) l = [(0,a),(1,b),(2,c),(4,n),(8,e),(9,f),(10,g),(11,h),(15,i),(27,j)] := by intros; rfl
  refine R_nil (tr ..) ?_; clear tr
  refine then_n ?_
  refine at_seq rfl ?_
  refine rg rfl ?_
  refine Rq ?_
  refine Rq ?_
  have tr : ∀ a b c d e f g h i j k m : AV, let l := lc_ends_ok a b c d e f g h i j; trim ((15,m)::(14,k)::l) l = [(0,a),(1,b),(2,c),(4,d),(8,e),(9,f),(10,g),(11,h),(15,m),(27,j)] := by intros; rfl
  refine R_nil (tr ..) ?_; clear tr
  refine then_n ?_
  refine cdd (fun h2 => ?_) (fun h2 => ?_)
  ·
   try simp only [decide_eq_true_eq, decide_eq_false_iff_not, Bool.not_eq_true', Bool.not_eq_false', beq_iff_eq, beq_eq_false_iff_ne, ne_eq] at h2
   refine at_seq rfl ?_
   refine rg rfl ?_
   refine Rq ?_
   have tr : ∀ a b c d e f g h i j k : AV, let l := lc_ends_ok a b c d e f g h i j; trim ((2,k)::l) l = [(0,a),(1,b),(2,k),(4,d),(8,e),(9,f),(10,g),(11,h),(15,i),(27,j)] := by intros; rfl
   refine R_nil (tr ..) ?_; clear tr
   refine then_n ?_
   refine at_ret rfl ?_
   refine blk_r ?_
   refine then_r ?_
   refine then_r ?_
   refine blk_r ?_
   refine then_r ?_
   refine fpure ?_
   refine ⟨?_, rfl⟩
   rw [endsS, if_pos (fun hh => absurd (hh w (by omega)) (by omega))]
  ·
   try simp only [decide_eq_true_eq, decide_eq_false_iff_not, Bool.not_eq_true', Bool.not_eq_false', beq_iff_eq, beq_eq_false_iff_ne, ne_eq] at h2
   refine at_skip rfl ?_
   refine blk_n ?_
   refine then_n ?_
   refine rg rfl ?_
   refine Rq ?_
   refine Rq ?_
   have tr : ∀ a b c d e f g h i j k m : AV, let l := lc_ends_ok a b c d e f g h i j; trim ((10,m)::(16,k)::l) l = [(0,a),(1,b),(2,c),(4,d),(8,e),(9,f),(10,m),(11,h),(15,i),(27,j)] := by intros; rfl
   refine R_nil (tr ..) ?_; clear tr
   refine then_n ?_
   exact ⟨_, _, ⟨w + 1, _, _, _, _, rfl, rfl, rfl, by omega, by exact all_step hz (by omega)⟩, by rfl, by omega⟩
 ·
  try simp only [decide_eq_true_eq, decide_eq_false_iff_not, Bool.not_eq_true', Bool.not_eq_false', beq_iff_eq, beq_eq_false_iff_ne, ne_eq] at h1
  refine at_exit rfl ?_
  refine then_x ?_
  refine then_x ?_
  refine blk_x ?_
  refine then_n ?_
  refine at_seq rfl ?_
  refine at_seq rfl ?_
  refine rg rfl ?_
  refine Rq ?_
  refine Rq ?_
  refine Rq ?_
  refine Rq ?_
  refine Rq ?_
  refine Rq ?_
  refine Rq ?_
  refine Rq ?_
  refine Rq ?_
  refine Rq ?_
  refine Rq ?_
  have tr : ∀ a b c d e f g h i j k m n o p q r s t u v : AV, let l := lc_ends_ok a b c d e f g h i j; trim ((27,v)::(26,u)::(25,t)::(24,s)::(23,r)::(22,q)::(21,p)::(20,o)::(19,n)::(18,m)::(17,k)::l) l = [(0,a),(1,b),(2,c),(4,d),(8,e),(9,f),(10,g),(11,h),(15,i),(27,v)] := by intros; rfl
  refine R_nil (tr ..) ?_; clear tr
  refine then_n ?_
  refine cdd (fun h3 => ?_) (fun h3 => ?_)
  ·
   try simp only [decide_eq_true_eq, decide_eq_false_iff_not, Bool.not_eq_true', Bool.not_eq_false', beq_iff_eq, beq_eq_false_iff_ne, ne_eq] at h3
   refine at_seq rfl ?_
   refine rg rfl ?_
   refine Rq ?_
   have tr : ∀ a b c d e f g h i j k : AV, let l := lc_ends_ok a b c d e f g h i j; trim ((2,k)::l) l = [(0,a),(1,b),(2,k),(4,d),(8,e),(9,f),(10,g),(11,h),(15,i),(27,j)] := by intros; rfl
   refine R_nil (tr ..) ?_; clear tr
   refine then_n ?_
   refine at_ret rfl ?_
   refine then_r ?_
   refine fpure ?_
   refine ⟨?_, rfl⟩
   rw [endsS, if_neg (fun hh => hh fun i hi => hz i (by omega)), if_pos (by omega)]
  ·
   try simp only [decide_eq_true_eq, decide_eq_false_iff_not, Bool.not_eq_true', Bool.not_eq_false', beq_iff_eq, beq_eq_false_iff_ne, ne_eq] at h3
   refine at_skip rfl ?_
   refine then_n ?_
   refine at_seq rfl ?_
   refine rg rfl ?_
   refine Rq ?_
   have tr : ∀ a b c d e f g h i j k : AV, let l := lc_ends_ok a b c d e f g h i j; trim ((2,k)::l) l = [(0,a),(1,b),(2,k),(4,d),(8,e),(9,f),(10,g),(11,h),(15,i),(27,j)] := by intros; rfl
   refine R_nil (tr ..) ?_; clear tr
   refine then_n ?_
   refine at_ret rfl ?_
   refine fpure ?_
   refine ⟨?_, rfl⟩
   rw [endsS, if_neg (fun hh => hh fun i hi => hz i (by omega)), if_neg (by omega)]

end Go.Proofs.Ytaoondlakhocnaa
