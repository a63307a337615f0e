/-
  What is proved: RainSplits returns true for every input, and each argument reads behind the call as it read before. No conditions. (The step from the walk to the row, written by program.)
-/
import Derived.Test.YtaoondlakhocnaaKRainSplits7
import Derived.Test.YtaoondlakhocnaaKRainSplits4
import Derived.Test.YtaoondlakhocnaaKRainSplits5
import Derived.KernelRfl
import Derived.Test.YtaoondlakhocnaaKRainSplits3
import Derived.ProofKit
import Derived.ChangeArms
import Derived.DataReads
import Derived.OpenShut
import Derived.WideShapes
import Derived.Test.YtaoondlakhocnaaKRainSplits6
import Derived.Test.YtaoondlakhocnaaRows
import Derived.ChangeOld
import Derived.Below
section
set_option linter.unusedSimpArgs false
set_option linter.unusedVariables false
set_option maxHeartbeats 40000000
set_option maxRecDepth 4000
namespace Go.Proofs.Ytaoondlakhocnaa
open Go Go.Am

abbrev lc_same_ok (a b c d e f g h i : AV) : Env := [(0,a),(1,b),(4,c),(5,d),(10,e),(12,f),(13,g),(14,h),(24,i)]
theorem same_ok (lim : Nat) (H : Heap) (a : List Stp) (ha : a.length ≤ 1000000) :
    ACall sig lim 45 [stopsAV a, stopsAV a] H fun r H' => r = .v (.bool true) ∧ H' = H := by
 refine ACall_pure (fa := fa45) rfl rfl rfl rfl ?_
 have tr : ∀ a0 a1 : AV, env0 fa45.keep [a0, a1] = [(0,a0),(1,a1),(4,.any),(5,.any),(10,.any),(12,.any),(13,.any),(14,.any),(24,.any)] := fun a0 a1 => rfl
 refine W_to (tr _ _) ?_; clear tr
 refine at_seq rfl ?_
 refine rg rfl ?_
 refine Rq ?_
 have tr : ∀ a b c d e f g h i j : AV, let l := lc_same_ok a b c d e f g h i; trim ((4,j)::l) l = [(0,a),(1,b),(4,j),(5,d),(10,e),(12,f),(13,g),(14,h),(24,i)] := by intros; rfl
 refine R_nil (tr ..) ?_; clear tr
 refine then_n ?_
 refine at_seq rfl ?_
 refine at_seq rfl ?_
 refine rg rfl ?_
 refine Rq ?_
 refine Rq ?_
 refine Rq ?_
 refine Rq ?_
 refine Rq ?_
 have tr : ∀ a b c d e f g h i j k m n o : AV, let l := lc_same_ok a b c d e f g h i; trim ((10,o)::(9,n)::(8,m)::(7,k)::(6,j)::l) l = [(0,a),(1,b),(4,c),(5,d),(10,o),(12,f),(13,g),(14,h),(24,i)] := by intros; rfl
 refine R_nil (tr ..) ?_; clear tr
 refine then_n ?_
 refine cdd (fun h1 => ?_) (fun h1 => ?_)
 ·
  try simp only [decide_eq_true_eq, decide_eq_false_iff_not, Bool.not_eq_true', Bool.not_eq_false', beq_iff_eq, beq_eq_false_iff_ne, ne_eq] at h1
  first | omega | contradiction | exact absurd rfl (by assumption) | exact absurd trivial (by assumption)
 ·
  try simp only [decide_eq_true_eq, decide_eq_false_iff_not, Bool.not_eq_true', Bool.not_eq_false', beq_iff_eq, beq_eq_false_iff_ne, ne_eq] at h1
  refine at_skip rfl ?_
  refine then_n ?_
  refine at_seq rfl ?_
  refine at_seq rfl ?_
  refine rg rfl ?_
  refine Rq ?_
  refine Rq ?_
  refine Rq ?_
  have tr : ∀ a b c d e f g h i j k m : AV, let l := lc_same_ok a b c d e f g h i; trim ((13,m)::(12,k)::(11,j)::l) l = [(0,a),(1,b),(4,c),(5,d),(10,e),(12,k),(13,m),(14,h),(24,i)] := by intros; rfl
  refine R_nil (tr ..) ?_; clear tr
  refine then_n ?_
  refine at_block rfl ?_
  refine loop_n rfl (fun mm kv H' => ∃ u : Nat, ∃ x4 x5 x14 x24 : AV, (kv = [(4, x4), (5, x5), (13, AV.i u), (14, x14), (24, x24)]) ∧ (mm = a.length - u) ∧ (H' = H) ∧ (u ≤ a.length)) ⟨0, _, _, _, _, rfl, rfl, rfl, by omega⟩ (by rfl) ?_
  rintro mm kv H' ⟨u, x4, x5, x14, x24, rfl, rfl, rfl, hu⟩
  have tr : ∀ a b c d e f g h i j k m n o : AV, upd [(0,a),(1,b),(4,c),(5,d),(10,e),(12,f),(13,g),(14,h),(24,i)] [(4,j),(5,k),(13,m),(14,n),(24,o)] = [(0,a),(1,b),(4,j),(5,k),(10,e),(12,f),(13,m),(14,n),(24,o)] := by intros; rfl
  refine W_to (tr ..) ?_; clear tr
  refine at_seq rfl ?_
  refine rg rfl ?_
  refine Rq ?_
  have tr : ∀ a b c d e f g h i j : AV, let l := lc_same_ok a b c d e f g h i; trim ((14,j)::l) l = [(0,a),(1,b),(4,c),(5,d),(10,e),(12,f),(13,g),(14,j),(24,i)] := by intros; rfl
  refine R_nil (tr ..) ?_; clear tr
  refine then_n ?_
  refine at_seq rfl ?_
  refine cdd (fun h2 => ?_) (fun h2 => ?_)
  ·
   try simp only [decide_eq_true_eq, decide_eq_false_iff_not, Bool.not_eq_true', Bool.not_eq_false', beq_iff_eq, beq_eq_false_iff_ne, ne_eq] at h2
   refine at_skip rfl ?_
   refine then_n ?_
   refine at_seq rfl ?_
   refine at_block rfl ?_
   refine at_seq rfl ?_
   refine rg rfl ?_
   refine Rq ?_
   refine Rq ?_
   have tr : ∀ a b c d e f g h i j k : AV, let l := lc_same_ok a b c d e f g h i; trim ((5,k)::(15,j)::l) l = [(0,a),(1,b),(4,c),(5,k),(10,e),(12,f),(13,g),(14,h),(24,i)] := by intros; rfl
   refine R_nil (tr ..) ?_; clear tr
   refine then_n ?_
   refine at_seq rfl ?_
   refine rd rfl rfl ?_
   refine Qq ?_
   refine Qq ?_
   refine Qq ?_
   refine Qq ?_
   refine Qq ?_
   refine Qq ?_
   refine Qq ?_
   refine Qq ?_
   refine Qq ?_
   refine Q_nil ?_
   have tr : ∀ a b c d e f g h i j k m n o p q r s : AV, let l := lc_same_ok a b c d e f g h i; trim ((24,s)::(23,r)::(22,q)::(21,p)::(20,o)::(19,n)::(18,m)::(17,k)::(16,j)::l) l = [(0,a),(1,b),(4,c),(5,d),(10,e),(12,f),(13,g),(14,h),(24,s)] := by intros; rfl
   refine R_nil (tr ..) ?_; clear tr
   refine then_n ?_
   refine cdd (fun h3 => ?_) (fun h3 => ?_)
   ·
    try simp only [decide_eq_true_eq, decide_eq_false_iff_not, Bool.not_eq_true', Bool.not_eq_false', beq_iff_eq, beq_eq_false_iff_ne, ne_eq] at h3
    first | omega | contradiction | exact absurd rfl (by assumption) | exact absurd trivial (by assumption)
   ·
    try simp only [decide_eq_true_eq, decide_eq_false_iff_not, Bool.not_eq_true', Bool.not_eq_false', beq_iff_eq, beq_eq_false_iff_ne, ne_eq] at h3
    refine at_skip rfl ?_
    refine blk_n ?_
    refine then_n ?_
    refine rg rfl ?_
    refine Rq ?_
    refine Rq ?_
    have tr : ∀ a b c d e f g h i j k : AV, let l := lc_same_ok a b c d e f g h i; trim ((13,k)::(25,j)::l) l = [(0,a),(1,b),(4,c),(5,d),(10,e),(12,f),(13,k),(14,h),(24,i)] := by intros; rfl
    refine R_nil (tr ..) ?_; clear tr
    refine then_n ?_
    exact ⟨_, _, ⟨u + 1, _, _, _, _, rfl, rfl, rfl, by omega⟩, by rfl, by omega⟩
  ·
   try simp only [decide_eq_true_eq, decide_eq_false_iff_not, Bool.not_eq_true', Bool.not_eq_false', beq_iff_eq, beq_eq_false_iff_ne, ne_eq] at h2
   refine at_exit rfl ?_
   refine then_x ?_
   refine then_x ?_
   refine blk_x ?_
   refine then_n ?_
   refine at_seq rfl ?_
   refine rg rfl ?_
   refine Rq ?_
   have tr : ∀ a b c d e f g h i j : AV, let l := lc_same_ok a b c d e f g h i; trim ((4,j)::l) l = [(0,a),(1,b),(4,j),(5,d),(10,e),(12,f),(13,g),(14,h),(24,i)] := by intros; rfl
   refine R_nil (tr ..) ?_; clear tr
   refine then_n ?_
   refine at_ret rfl ?_
   refine fpure ?_
   refine ⟨?_, rfl⟩
   rfl

abbrev lc_outf_ok (a b : AV) : Env := [(0,a),(2,b)]
theorem outf_ok (lim : Nat) (H : Heap) (x : Int) :
    ACall sig lim 63 [AV.i x] H fun r H' => r = .v (.bool (decide (bOut x))) ∧ H' = H := by
 refine ACall_pure (fa := fa63) rfl rfl rfl rfl ?_
 have tr : ∀ a0 : AV, env0 fa63.keep [a0] = [(0,a0),(2,.any)] := fun a0 => rfl
 refine W_to (tr _) ?_; clear tr
 refine at_seq rfl ?_
 refine rg rfl ?_
 refine Rq ?_
 have tr : ∀ a b c : AV, let l := lc_outf_ok a b; trim ((2,c)::l) l = [(0,a),(2,c)] := by intros; rfl
 refine R_nil (tr ..) ?_; clear tr
 refine then_n ?_
 refine at_seq rfl ?_
 refine rg rfl ?_
 refine Rq ?_
 refine Rq ?_
 refine Rq ?_
 refine Rp_split (fun h1 => ?_) (fun h1 => ?_)
 ·
  try simp only [decide_eq_true_eq, decide_eq_false_iff_not, Bool.not_eq_true', Bool.not_eq_false', beq_iff_eq, beq_eq_false_iff_ne, ne_eq] at h1
  refine Rn ?_
  refine Rn ?_
  refine Rq ?_
  refine Rq ?_
  have tr : ∀ a b c d e f g h i : AV, let l := lc_outf_ok a b; trim ((2,i)::(8,h)::(7,g)::(6,f)::(5,e)::(4,d)::(3,c)::l) l = [(0,a),(2,i)] := by intros; rfl
  refine R_nil (tr ..) ?_; clear tr
  refine then_n ?_
  refine at_ret rfl ?_
  refine fpure ?_
  refine ⟨?_, rfl⟩
  first | (rw [decide_eq_true (show bOut x by unfold bOut; omega)]; done) | (congr 2; rw [decide_eq_decide]; unfold bOut; omega)
 ·
  try simp only [decide_eq_true_eq, decide_eq_false_iff_not, Bool.not_eq_true', Bool.not_eq_false', beq_iff_eq, beq_eq_false_iff_ne, ne_eq] at h1
  refine Ry ?_
  refine Rq ?_
  refine Ry ?_
  refine Rq ?_
  refine Rq ?_
  refine Rq ?_
  have tr : ∀ a b c d e f g h i : AV, let l := lc_outf_ok a b; trim ((2,i)::(8,h)::(7,g)::(6,f)::(5,e)::(4,d)::(3,c)::l) l = [(0,a),(2,i)] := by intros; rfl
  refine R_nil (tr ..) ?_; clear tr
  refine then_n ?_
  refine at_ret rfl ?_
  refine fpure ?_
  refine ⟨?_, rfl⟩
  first | (rw [decide_eq_true (show bOut x by unfold bOut; omega)]; done) | (congr 2; rw [decide_eq_decide]; unfold bOut; omega)

abbrev lc_balls_ok (a b c d e f g h i j k : AV) : Env := [(0,a),(1,b),(4,c),(5,d),(7,e),(15,f),(16,g),(17,h),(18,i),(19,j),(31,k)]
theorem balls_ok (lim : Nat) (H : Heap) (balls : Int) (l : List Stp) :
    ACall sig lim 46 [AV.i balls, stopsAV l] H fun r H' => r = AV.i (ballsS balls l) ∧ H' = H := by
 refine ACall_pure (fa := fa46) rfl rfl rfl rfl ?_
 have tr : ∀ a0 a1 : AV, env0 fa46.keep [a0, a1] = [(0,a0),(1,a1),(4,.any),(5,.any),(7,.any),(15,.any),(16,.any),(17,.any),(18,.any),(19,.any),(31,.any)] := fun a0 a1 => rfl
 refine W_to (tr _ _) ?_; clear tr
 refine at_seq rfl ?_
 refine rg rfl ?_
 refine Rq ?_
 have tr : ∀ a b c d e f g h i j k m : AV, let l := lc_balls_ok a b c d e f g h i j k; trim ((4,m)::l) l = [(0,a),(1,b),(4,m),(5,d),(7,e),(15,f),(16,g),(17,h),(18,i),(19,j),(31,k)] := by intros; rfl
 refine R_nil (tr ..) ?_; clear tr
 refine then_n ?_
 refine at_seq rfl ?_
 refine rg rfl ?_
 refine Rq ?_
 have tr : ∀ a b c d e f g h i j k m : AV, let l := lc_balls_ok a b c d e f g h i j k; trim ((5,m)::l) l = [(0,a),(1,b),(4,c),(5,m),(7,e),(15,f),(16,g),(17,h),(18,i),(19,j),(31,k)] := by intros; rfl
 refine R_nil (tr ..) ?_; clear tr
 refine then_n ?_
 refine at_seq rfl ?_
 refine at_seq rfl ?_
 refine rg rfl ?_
 refine Rq ?_
 refine Rq ?_
 refine R_callv (by simp (disch := first | omega | (simp only [List.length_map, List.length_append, List.length_set, List.length_cons, List.length_nil]; omega)) only [go_sem, ↓reduceIte, Nat.reduceEqDiff, reduceCtorEq] <;> rfl) (by simp only [List.map_cons, List.map_nil, List.cons_append, List.nil_append, go_sem, ↓reduceIte, Nat.reduceEqDiff]; rfl) ?_
 refine ACall_eq (outf_ok _ _ _) ?_
 refine Rq ?_
 refine Rp_split (fun h1 => ?_) (fun h1 => ?_)
 ·
  try simp only [decide_eq_true_eq, decide_eq_false_iff_not, Bool.not_eq_true', Bool.not_eq_false', beq_iff_eq, beq_eq_false_iff_ne, ne_eq] at h1
  refine Rn ?_
  refine Rn ?_
  refine Rn ?_
  refine Rq ?_
  have tr : ∀ a b c d e f g h i j k m n o p q r s t : AV, let l := lc_balls_ok a b c d e f g h i j k; trim ((15,t)::(14,s)::(13,r)::(12,q)::(11,p)::(10,o)::(9,n)::(8,m)::l) l = [(0,a),(1,b),(4,c),(5,d),(7,e),(15,t),(16,g),(17,h),(18,i),(19,j),(31,k)] := by intros; rfl
  refine R_nil (tr ..) ?_; clear tr
  refine then_n ?_
  refine cdt ?_
  refine at_seq rfl ?_
  refine rg rfl ?_
  refine Rq ?_
  have tr : ∀ a b c d e f g h i j k m : AV, let l := lc_balls_ok a b c d e f g h i j k; trim ((4,m)::l) l = [(0,a),(1,b),(4,m),(5,d),(7,e),(15,f),(16,g),(17,h),(18,i),(19,j),(31,k)] := by intros; rfl
  refine R_nil (tr ..) ?_; clear tr
  refine then_n ?_
  refine at_ret rfl ?_
  refine then_r ?_
  refine fpure ?_
  refine ⟨?_, rfl⟩
  rw [balls_a (.inl (by first | assumption | (simp_all; done) | (exact Decidable.not_not.mp (by assumption))))]
 ·
  try simp only [decide_eq_true_eq, decide_eq_false_iff_not, Bool.not_eq_true', Bool.not_eq_false', beq_iff_eq, beq_eq_false_iff_ne, ne_eq] at h1
  refine Ry ?_
  refine Rq ?_
  refine Ry ?_
  refine Rq ?_
  refine Ry ?_
  refine Rq ?_
  refine Rq ?_
  have tr : ∀ a b c d e f g h i j k m n o p q r s t : AV, let l := lc_balls_ok a b c d e f g h i j k; trim ((15,t)::(14,s)::(13,r)::(12,q)::(11,p)::(10,o)::(9,n)::(8,m)::l) l = [(0,a),(1,b),(4,c),(5,d),(7,e),(15,t),(16,g),(17,h),(18,i),(19,j),(31,k)] := by intros; rfl
  refine R_nil (tr ..) ?_; clear tr
  refine then_n ?_
  refine cdd (fun h2 => ?_) (fun h2 => ?_)
  ·
   try simp only [decide_eq_true_eq, decide_eq_false_iff_not, Bool.not_eq_true', Bool.not_eq_false', beq_iff_eq, beq_eq_false_iff_ne, ne_eq] at h2
   refine at_seq rfl ?_
   refine rg rfl ?_
   refine Rq ?_
   have tr : ∀ a b c d e f g h i j k m : AV, let l := lc_balls_ok a b c d e f g h i j k; trim ((4,m)::l) l = [(0,a),(1,b),(4,m),(5,d),(7,e),(15,f),(16,g),(17,h),(18,i),(19,j),(31,k)] := by intros; rfl
   refine R_nil (tr ..) ?_; clear tr
   refine then_n ?_
   refine at_ret rfl ?_
   refine then_r ?_
   refine fpure ?_
   refine ⟨?_, rfl⟩
   rw [balls_a (.inr (by omega))]
  ·
   try simp only [decide_eq_true_eq, decide_eq_false_iff_not, Bool.not_eq_true', Bool.not_eq_false', beq_iff_eq, beq_eq_false_iff_ne, ne_eq] at h2
   refine at_skip rfl ?_
   refine then_n ?_
   refine at_seq rfl ?_
   refine at_seq rfl ?_
   refine rg rfl ?_
   have hbo : ¬ bOut balls := by first | assumption | (intro hh; simp_all; done)
   have hbr : 0 ≤ balls ∧ balls ≤ 2147483648 := by unfold bOut at hbo; omega
   refine Rq ?_
   refine Rq ?_
   refine Rq ?_
   have tr : ∀ a b c d e f g h i j k m n o : AV, let l := lc_balls_ok a b c d e f g h i j k; trim ((18,o)::(17,n)::(16,m)::l) l = [(0,a),(1,b),(4,c),(5,d),(7,e),(15,f),(16,m),(17,n),(18,o),(19,j),(31,k)] := by intros; rfl
   refine R_nil (tr ..) ?_; clear tr
   refine then_n ?_
   refine at_block rfl ?_
   refine loop_n rfl (fun mm kv H' => ∃ u : Nat, ∃ n : Int, ∃ X : Heap, ∃ x4 x7 x19 x31 : AV, (kv = [(0, AV.i n), (4, x4), (7, x7), (18, AV.i u), (19, x19), (31, x31)]) ∧ (mm = l.length - u) ∧ (H' = H ++ X) ∧ (u ≤ l.length) ∧ (n = balls - dsum l u) ∧ (∀ i, i < u → ¬ (bOut (gt l i).b ∨ bOut (gt l i).a))) ⟨0, balls, [], _, _, _, _, rfl, rfl, by simp, by omega, by rw [dsum, Int.sub_zero], by intro i hi; omega⟩ (by rfl) ?_
   rintro mm kv H1 ⟨u, n, X, x4, x7, x19, x31, rfl, rfl, hX, hu, hn, hq⟩
   have tr : ∀ a b c d e f g h i j k m n o p q r : AV, upd [(0,a),(1,b),(4,c),(5,d),(7,e),(15,f),(16,g),(17,h),(18,i),(19,j),(31,k)] [(0,m),(4,n),(7,o),(18,p),(19,q),(31,r)] = [(0,m),(1,b),(4,n),(5,d),(7,o),(15,f),(16,g),(17,h),(18,p),(19,q),(31,r)] := by intros; rfl
   refine W_to (tr ..) ?_; clear tr
   subst hX
   have hdr := dsum_rng (l := l) u hq
   refine at_seq rfl ?_
   refine rg rfl ?_
   refine Rq ?_
   have tr : ∀ a b c d e f g h i j k m : AV, let l := lc_balls_ok a b c d e f g h i j k; trim ((19,m)::l) l = [(0,a),(1,b),(4,c),(5,d),(7,e),(15,f),(16,g),(17,h),(18,i),(19,m),(31,k)] := by intros; rfl
   refine R_nil (tr ..) ?_; clear tr
   refine then_n ?_
   refine at_seq rfl ?_
   refine cdd (fun h3 => ?_) (fun h3 => ?_)
   ·
    try simp only [decide_eq_true_eq, decide_eq_false_iff_not, Bool.not_eq_true', Bool.not_eq_false', beq_iff_eq, beq_eq_false_iff_ne, ne_eq] at h3
    refine at_skip rfl ?_
    refine then_n ?_
    refine at_seq rfl ?_
    refine at_block rfl ?_
    refine at_seq rfl ?_
    refine rg rfl ?_
    refine Rq ?_
    refine Rq ?_
    refine R_alloc (by simp (disch := first | omega | (simp only [List.length_map, List.length_append, List.length_set, List.length_cons, List.length_nil]; omega)) only [go_sem, ↓reduceIte, Nat.reduceEqDiff, reduceCtorEq] <;> rfl) rfl (by simp only [List.map_cons, List.map_nil]; rfl) ?_
    refine R_store ty56 (by simp (disch := first | omega | (simp only [List.length_map, List.length_append, List.length_set, List.length_cons, List.length_nil]; omega)) only [go_sem, ↓reduceIte, Nat.reduceEqDiff, reduceCtorEq] <;> rfl) (by simp (disch := first | omega | (simp only [List.length_map, List.length_append, List.length_set, List.length_cons, List.length_nil]; omega)) only [go_sem, ↓reduceIte, Nat.reduceEqDiff, reduceCtorEq] <;> rfl) (by simp (disch := first | omega | (simp only [List.length_map, List.length_append, List.length_set, List.length_cons, List.length_nil]; omega)) only [go_sem, ↓reduceIte, Nat.reduceEqDiff, reduceCtorEq] <;> rfl) (by simp) (by rfl) (by simp (disch := first | omega | (simp only [List.length_map, List.length_append, List.length_set, List.length_cons, List.length_nil]; omega)) only [go_sem, ↓reduceIte, Nat.reduceEqDiff, reduceCtorEq] <;> rfl) ?_
    have tr : ∀ a b c d e f g h i j k m n o : AV, let l := lc_balls_ok a b c d e f g h i j k; trim ((7,o)::(21,n)::(20,m)::l) l = [(0,a),(1,b),(4,c),(5,d),(7,o),(15,f),(16,g),(17,h),(18,i),(19,j),(31,k)] := by intros; rfl
    refine R_nil (tr ..) ?_; clear tr
    refine then_n ?_
    refine at_seq rfl ?_
    refine at_seq rfl ?_
    refine rg rfl ?_
    refine Rq ?_
    refine Rq ?_
    refine Rq ?_
    refine R_callv (by simp (disch := first | omega | (simp only [List.length_map, List.length_append, List.length_set, List.length_cons, List.length_nil]; omega)) only [go_sem, ↓reduceIte, Nat.reduceEqDiff, reduceCtorEq] <;> rfl) (by simp only [List.map_cons, List.map_nil, List.cons_append, List.nil_append, go_sem, ↓reduceIte, Nat.reduceEqDiff]; rfl) ?_
    refine ACall_eq (outf_ok _ _ _) ?_
    refine Rq ?_
    refine Rp_split (fun h4 => ?_) (fun h4 => ?_)
    ·
     try simp only [decide_eq_true_eq, decide_eq_false_iff_not, Bool.not_eq_true', Bool.not_eq_false', beq_iff_eq, beq_eq_false_iff_ne, ne_eq] at h4
     refine Rn ?_
     refine Rn ?_
     refine Rn ?_
     refine Rn ?_
     refine Rq ?_
     have tr : ∀ a b c d e f g h i j k m n o p q r s t u v : AV, let l := lc_balls_ok a b c d e f g h i j k; trim ((31,v)::(30,u)::(29,t)::(28,s)::(27,r)::(26,q)::(25,p)::(24,o)::(23,n)::(22,m)::l) l = [(0,a),(1,b),(4,c),(5,d),(7,e),(15,f),(16,g),(17,h),(18,i),(19,j),(31,v)] := by intros; rfl
     refine R_nil (tr ..) ?_; clear tr
     refine then_n ?_
     refine cdt ?_
     refine at_seq rfl ?_
     refine rg rfl ?_
     refine Rq ?_
     have tr : ∀ a b c d e f g h i j k m : AV, let l := lc_balls_ok a b c d e f g h i j k; trim ((4,m)::l) l = [(0,a),(1,b),(4,m),(5,d),(7,e),(15,f),(16,g),(17,h),(18,i),(19,j),(31,k)] := by intros; rfl
     refine R_nil (tr ..) ?_; clear tr
     refine then_n ?_
     refine at_ret rfl ?_
     refine then_r ?_
     refine blk_r ?_
     refine then_r ?_
     refine then_r ?_
     refine blk_r ?_
     refine then_r ?_
     refine fpure ?_
     refine ⟨?_, rfl⟩
     rw [balls_b (i := u) (by omega) (.inl (by first | assumption | (exact Decidable.not_not.mp (by assumption))))]
    ·
     try simp only [decide_eq_true_eq, decide_eq_false_iff_not, Bool.not_eq_true', Bool.not_eq_false', beq_iff_eq, beq_eq_false_iff_ne, ne_eq] at h4
     refine Ry ?_
     refine Rq ?_
     refine Ry ?_
     refine Rq ?_
     refine Ry ?_
     refine Rq ?_
     refine Ry ?_
     refine R_callv (by simp (disch := first | omega | (simp only [List.length_map, List.length_append, List.length_set, List.length_cons, List.length_nil]; omega)) only [go_sem, ↓reduceIte, Nat.reduceEqDiff, reduceCtorEq] <;> rfl) (by simp only [List.map_cons, List.map_nil, List.cons_append, List.nil_append, go_sem, ↓reduceIte, Nat.reduceEqDiff]; rfl) ?_
     refine ACall_eq (outf_ok _ _ _) ?_
     refine Rq ?_
     have tr : ∀ a b c d e f g h i j k m n o p q r s t u v : AV, let l := lc_balls_ok a b c d e f g h i j k; trim ((31,v)::(30,u)::(29,t)::(28,s)::(27,r)::(26,q)::(25,p)::(24,o)::(23,n)::(22,m)::l) l = [(0,a),(1,b),(4,c),(5,d),(7,e),(15,f),(16,g),(17,h),(18,i),(19,j),(31,v)] := by intros; rfl
     refine R_nil (tr ..) ?_; clear tr
     refine then_n ?_
     refine cdd (fun h5 => ?_) (fun h5 => ?_)
     ·
      try simp only [decide_eq_true_eq, decide_eq_false_iff_not, Bool.not_eq_true', Bool.not_eq_false', beq_iff_eq, beq_eq_false_iff_ne, ne_eq] at h5
      refine at_seq rfl ?_
      refine rg rfl ?_
      refine Rq ?_
      have tr : ∀ a b c d e f g h i j k m : AV, let l := lc_balls_ok a b c d e f g h i j k; trim ((4,m)::l) l = [(0,a),(1,b),(4,m),(5,d),(7,e),(15,f),(16,g),(17,h),(18,i),(19,j),(31,k)] := by intros; rfl
      refine R_nil (tr ..) ?_; clear tr
      refine then_n ?_
      refine at_ret rfl ?_
      refine then_r ?_
      refine blk_r ?_
      refine then_r ?_
      refine then_r ?_
      refine blk_r ?_
      refine then_r ?_
      refine fpure ?_
      refine ⟨?_, rfl⟩
      rw [balls_b (i := u) (by omega) (.inr (by first | assumption | (exact Decidable.not_not.mp (by assumption))))]
     ·
      try simp only [decide_eq_true_eq, decide_eq_false_iff_not, Bool.not_eq_true', Bool.not_eq_false', beq_iff_eq, beq_eq_false_iff_ne, ne_eq] at h5
      refine at_skip rfl ?_
      refine then_n ?_
      refine rg rfl ?_
      have hb9 : 0 ≤ (gt l u).b ∧ (gt l u).b ≤ 2147483648 := by
        have h7 : ¬ bOut (gt l u).b := by assumption
        unfold bOut at h7
        omega
      have ha9 : 0 ≤ (gt l u).a ∧ (gt l u).a ≤ 2147483648 := by
        have h7 : ¬ bOut (gt l u).a := by assumption
        unfold bOut at h7
        omega
      refine Rq ?_
      refine Rq ?_
      refine Rq ?_
      refine Rq ?_
      refine Rq ?_
      refine Rq ?_
      refine Rq ?_
      refine Rq ?_
      have tr : ∀ a b c d e f g h i j k m n o p q r s t : AV, let l := lc_balls_ok a b c d e f g h i j k; trim ((0,t)::(38,s)::(37,r)::(36,q)::(35,p)::(34,o)::(33,n)::(32,m)::l) l = [(0,t),(1,b),(4,c),(5,d),(7,e),(15,f),(16,g),(17,h),(18,i),(19,j),(31,k)] := by intros; rfl
      refine R_nil (tr ..) ?_; clear tr
      refine blk_n ?_
      refine then_n ?_
      refine rg rfl ?_
      refine Rq ?_
      refine Rq ?_
      have tr : ∀ a b c d e f g h i j k m n : AV, let l := lc_balls_ok a b c d e f g h i j k; trim ((18,n)::(39,m)::l) l = [(0,a),(1,b),(4,c),(5,d),(7,e),(15,f),(16,g),(17,h),(18,n),(19,j),(31,k)] := by intros; rfl
      refine R_nil (tr ..) ?_; clear tr
      refine then_n ?_
      exact ⟨_, _, ⟨u + 1, n - ((gt l u).b - (gt l u).a), X ++ [some (stC (gt l u))], _, _, _, _, rfl, rfl, by simp; rfl, by omega, by (rw [dsum, hn]; omega), by exact all_step2 hq (by rintro (hh | hh); all_goals first | (exact absurd hh (by assumption)) | (simp_all; done))⟩, by rfl, by omega⟩
   ·
    try simp only [decide_eq_true_eq, decide_eq_false_iff_not, Bool.not_eq_true', Bool.not_eq_false', beq_iff_eq, beq_eq_false_iff_ne, ne_eq] at h3
    refine at_exit rfl ?_
    refine then_x ?_
    refine then_x ?_
    refine blk_x ?_
    refine then_n ?_
    refine at_seq rfl ?_
    refine rg rfl ?_
    refine Rq ?_
    refine Rq ?_
    refine Rq ?_
    have tr : ∀ a b c d e f g h i j k m n o : AV, let l := lc_balls_ok a b c d e f g h i j k; trim ((4,o)::(41,n)::(40,m)::l) l = [(0,a),(1,b),(4,o),(5,d),(7,e),(15,f),(16,g),(17,h),(18,i),(19,j),(31,k)] := by intros; rfl
    refine R_nil (tr ..) ?_; clear tr
    refine then_n ?_
    refine at_ret rfl ?_
    refine fpure ?_
    refine ⟨?_, rfl⟩
    obtain hul : l.length = u := by first | omega | (simp; omega)
    rw [balls_c (fun hh => hh.elim hbo (by omega)) (fun i hi => hq i (by rw [← hul]; exact hi)), hul, ← hn]

end Go.Proofs.Ytaoondlakhocnaa
end
section
set_option linter.unusedSimpArgs false
set_option linter.unusedVariables false
set_option maxHeartbeats 40000000
set_option maxRecDepth 4000
namespace Go.Proofs.Ytaoondlakhocnaa
open Go Go.Am

set_option maxRecDepth 100000
theorem awake39 (lim : Nat) (H : Heap) : acall sig 300 lim 34 [] H = some (.v (.bool true), H) := by kernel_rfl

end Go.Proofs.Ytaoondlakhocnaa
end
section
set_option linter.unusedSimpArgs false
set_option linter.unusedVariables false
set_option maxHeartbeats 40000000
set_option maxRecDepth 4000
namespace Go.Proofs.Ytaoondlakhocnaa
open Go Go.Am

abbrev lc_same_nil (a b c d e f g h i : AV) : Env := [(0,a),(1,b),(4,c),(5,d),(10,e),(12,f),(13,g),(14,h),(24,i)]
theorem same_nil (lim : Nat) (H : Heap) :
    ACall sig lim 45 [nilS, nilS] H fun r H' => r = .v (.bool true) ∧ H' = H := by
 refine ACall_pure (fa := fa45) rfl rfl rfl rfl ?_
 have tr : ∀ a0 a1 : AV, env0 fa45.keep [a0, a1] = [(0,a0),(1,a1),(4,.any),(5,.any),(10,.any),(12,.any),(13,.any),(14,.any),(24,.any)] := fun a0 a1 => rfl
 refine W_to (tr _ _) ?_; clear tr
 refine at_seq rfl ?_
 refine rg rfl ?_
 refine Rq ?_
 have tr : ∀ a b c d e f g h i j : AV, let l := lc_same_nil a b c d e f g h i; trim ((4,j)::l) l = [(0,a),(1,b),(4,j),(5,d),(10,e),(12,f),(13,g),(14,h),(24,i)] := by intros; rfl
 refine R_nil (tr ..) ?_; clear tr
 refine then_n ?_
 refine at_seq rfl ?_
 refine at_seq rfl ?_
 refine rg rfl ?_
 refine Rq ?_
 refine Rq ?_
 refine Rq ?_
 refine Rq ?_
 refine Rq ?_
 have tr : ∀ a b c d e f g h i j k m n o : AV, let l := lc_same_nil a b c d e f g h i; trim ((10,o)::(9,n)::(8,m)::(7,k)::(6,j)::l) l = [(0,a),(1,b),(4,c),(5,d),(10,o),(12,f),(13,g),(14,h),(24,i)] := by intros; rfl
 refine R_nil (tr ..) ?_; clear tr
 refine then_n ?_
 refine cdd (fun h1 => ?_) (fun h1 => ?_)
 ·
  try simp only [decide_eq_true_eq, decide_eq_false_iff_not, Bool.not_eq_true', Bool.not_eq_false', beq_iff_eq, beq_eq_false_iff_ne, ne_eq] at h1
  first | omega | contradiction | exact absurd rfl (by assumption) | exact absurd trivial (by assumption)
 ·
  try simp only [decide_eq_true_eq, decide_eq_false_iff_not, Bool.not_eq_true', Bool.not_eq_false', beq_iff_eq, beq_eq_false_iff_ne, ne_eq] at h1
  refine at_skip rfl ?_
  refine then_n ?_
  refine at_seq rfl ?_
  refine at_seq rfl ?_
  refine rg rfl ?_
  refine Rq ?_
  refine Rq ?_
  refine Rq ?_
  have tr : ∀ a b c d e f g h i j k m : AV, let l := lc_same_nil a b c d e f g h i; trim ((13,m)::(12,k)::(11,j)::l) l = [(0,a),(1,b),(4,c),(5,d),(10,e),(12,k),(13,m),(14,h),(24,i)] := by intros; rfl
  refine R_nil (tr ..) ?_; clear tr
  refine then_n ?_
  refine at_block rfl ?_
  refine loop_n rfl (fun mm kv H' => ∃ u : Nat, ∃ x4 x5 x14 x24 : AV, (kv = [(4, x4), (5, x5), (13, AV.i u), (14, x14), (24, x24)]) ∧ (mm = 0) ∧ (H' = H) ∧ (u = 0)) ⟨0, _, _, _, _, rfl, rfl, rfl, by rfl⟩ (by rfl) ?_
  rintro mm kv H' ⟨u, x4, x5, x14, x24, rfl, rfl, rfl, hu⟩
  have tr : ∀ a b c d e f g h i j k m n o : AV, upd [(0,a),(1,b),(4,c),(5,d),(10,e),(12,f),(13,g),(14,h),(24,i)] [(4,j),(5,k),(13,m),(14,n),(24,o)] = [(0,a),(1,b),(4,j),(5,k),(10,e),(12,f),(13,m),(14,n),(24,o)] := by intros; rfl
  refine W_to (tr ..) ?_; clear tr
  refine at_seq rfl ?_
  refine rg rfl ?_
  refine Rq ?_
  have tr : ∀ a b c d e f g h i j : AV, let l := lc_same_nil a b c d e f g h i; trim ((14,j)::l) l = [(0,a),(1,b),(4,c),(5,d),(10,e),(12,f),(13,g),(14,j),(24,i)] := by intros; rfl
  refine R_nil (tr ..) ?_; clear tr
  refine then_n ?_
  refine at_seq rfl ?_
  refine cdd (fun h2 => ?_) (fun h2 => ?_)
  ·
   try simp only [decide_eq_true_eq, decide_eq_false_iff_not, Bool.not_eq_true', Bool.not_eq_false', beq_iff_eq, beq_eq_false_iff_ne, ne_eq] at h2
   exfalso; omega
  ·
   try simp only [decide_eq_true_eq, decide_eq_false_iff_not, Bool.not_eq_true', Bool.not_eq_false', beq_iff_eq, beq_eq_false_iff_ne, ne_eq] at h2
   refine at_exit rfl ?_
   refine then_x ?_
   refine then_x ?_
   refine blk_x ?_
   refine then_n ?_
   refine at_seq rfl ?_
   refine rg rfl ?_
   refine Rq ?_
   have tr : ∀ a b c d e f g h i j : AV, let l := lc_same_nil a b c d e f g h i; trim ((4,j)::l) l = [(0,a),(1,b),(4,j),(5,d),(10,e),(12,f),(13,g),(14,h),(24,i)] := by intros; rfl
   refine R_nil (tr ..) ?_; clear tr
   refine then_n ?_
   refine at_ret rfl ?_
   refine fpure ?_
   refine ⟨?_, rfl⟩
   rfl

abbrev lc_small_ok (a b c d e f g h i j k : AV) : Env := [(0,a),(1,b),(2,c),(4,d),(6,e),(15,f),(17,g),(18,h),(19,i),(20,j),(25,k)]
theorem small_ok (lim : Nat) (H : Heap) (rows : Tb) (l : List Stp) :
    ACall sig lim 35 [.agg [rowsAV rows], stopsAV l] H fun r H' => (∃ b : Bool, r = .v (.bool b) ∧ (b = true → l.length ≤ 60)) ∧ H' = H := by
 refine ACall_pure (fa := fa35) rfl rfl rfl rfl ?_
 have tr : ∀ a0 a1 : AV, env0 fa35.keep [a0, a1] = [(0,a0),(1,a1),(2,.any),(4,.any),(6,.any),(15,.any),(17,.any),(18,.any),(19,.any),(20,.any),(25,.any)] := fun a0 a1 => rfl
 refine W_to (tr _ _) ?_; clear tr
 refine at_seq rfl ?_
 refine rg rfl ?_
 refine R_box rfl (by simp (disch := first | omega | (simp only [List.length_map, List.length_append, List.length_set, List.length_cons, List.length_nil]; omega)) only [go_sem, ↓reduceIte, Nat.reduceEqDiff, reduceCtorEq] <;> rfl) rfl rfl ?_
 refine Rq ?_
 have tr : ∀ a b c d e f g h i j k m n : AV, let l := lc_small_ok a b c d e f g h i j k; trim ((4,n)::(2,m)::l) l = [(0,a),(1,b),(2,m),(4,n),(6,e),(15,f),(17,g),(18,h),(19,i),(20,j),(25,k)] := by intros; rfl
 refine R_nil (tr ..) ?_; clear tr
 refine then_n ?_
 refine at_seq rfl ?_
 refine at_seq rfl ?_
 refine rg rfl ?_
 refine Rq ?_
 refine Rq ?_
 refine Rq ?_
 refine Rq ?_
 refine Rp_split (fun h1 => ?_) (fun h1 => ?_)
 ·
  try simp only [decide_eq_true_eq, decide_eq_false_iff_not, Bool.not_eq_true', Bool.not_eq_false', beq_iff_eq, beq_eq_false_iff_ne, ne_eq] at h1
  refine Rn ?_
  refine Rn ?_
  refine Rn ?_
  refine Rn ?_
  refine Rq ?_
  have tr : ∀ a b c d e f g h i j k m n o p q r s t u : AV, let l := lc_small_ok a b c d e f g h i j k; trim ((15,u)::(14,t)::(13,s)::(12,r)::(11,q)::(10,p)::(9,o)::(8,n)::(7,m)::l) l = [(0,a),(1,b),(2,c),(4,d),(6,e),(15,u),(17,g),(18,h),(19,i),(20,j),(25,k)] := by intros; rfl
  refine R_nil (tr ..) ?_; clear tr
  refine then_n ?_
  refine cdt ?_
  refine at_seq rfl ?_
  refine rg rfl ?_
  refine Rq ?_
  have tr : ∀ a b c d e f g h i j k m : AV, let l := lc_small_ok a b c d e f g h i j k; trim ((4,m)::l) l = [(0,a),(1,b),(2,c),(4,m),(6,e),(15,f),(17,g),(18,h),(19,i),(20,j),(25,k)] := by intros; rfl
  refine R_nil (tr ..) ?_; clear tr
  refine then_n ?_
  refine at_ret rfl ?_
  refine then_r ?_
  refine fpure ?_
  first | exact ⟨⟨_, rfl, fun _ => by omega⟩, rfl⟩ | exact ⟨⟨_, rfl, fun hh => by cases hh⟩, rfl⟩
 ·
  try simp only [decide_eq_true_eq, decide_eq_false_iff_not, Bool.not_eq_true', Bool.not_eq_false', beq_iff_eq, beq_eq_false_iff_ne, ne_eq] at h1
  refine Ry ?_
  refine Rq ?_
  refine Ry ?_
  refine Rq ?_
  refine Ry ?_
  refine Rq ?_
  refine Ry ?_
  refine Rq ?_
  refine Rq ?_
  have tr : ∀ a b c d e f g h i j k m n o p q r s t u : AV, let l := lc_small_ok a b c d e f g h i j k; trim ((15,u)::(14,t)::(13,s)::(12,r)::(11,q)::(10,p)::(9,o)::(8,n)::(7,m)::l) l = [(0,a),(1,b),(2,c),(4,d),(6,e),(15,u),(17,g),(18,h),(19,i),(20,j),(25,k)] := by intros; rfl
  refine R_nil (tr ..) ?_; clear tr
  refine then_n ?_
  refine cdd (fun h2 => ?_) (fun h2 => ?_)
  ·
   try simp only [decide_eq_true_eq, decide_eq_false_iff_not, Bool.not_eq_true', Bool.not_eq_false', beq_iff_eq, beq_eq_false_iff_ne, ne_eq] at h2
   refine at_seq rfl ?_
   refine rg rfl ?_
   refine Rq ?_
   have tr : ∀ a b c d e f g h i j k m : AV, let l := lc_small_ok a b c d e f g h i j k; trim ((4,m)::l) l = [(0,a),(1,b),(2,c),(4,m),(6,e),(15,f),(17,g),(18,h),(19,i),(20,j),(25,k)] := by intros; rfl
   refine R_nil (tr ..) ?_; clear tr
   refine then_n ?_
   refine at_ret rfl ?_
   refine then_r ?_
   refine fpure ?_
   first | exact ⟨⟨_, rfl, fun _ => by omega⟩, rfl⟩ | exact ⟨⟨_, rfl, fun hh => by cases hh⟩, rfl⟩
  ·
   try simp only [decide_eq_true_eq, decide_eq_false_iff_not, Bool.not_eq_true', Bool.not_eq_false', beq_iff_eq, beq_eq_false_iff_ne, ne_eq] at h2
   refine at_skip rfl ?_
   refine then_n ?_
   refine at_seq rfl ?_
   refine at_seq rfl ?_
   refine rg rfl ?_
   refine Rq ?_
   refine Rq ?_
   refine Rq ?_
   refine Rq ?_
   have tr : ∀ a b c d e f g h i j k m n o p : AV, let l := lc_small_ok a b c d e f g h i j k; trim ((19,p)::(18,o)::(17,n)::(16,m)::l) l = [(0,a),(1,b),(2,c),(4,d),(6,e),(15,f),(17,n),(18,o),(19,p),(20,j),(25,k)] := by intros; rfl
   refine R_nil (tr ..) ?_; clear tr
   refine then_n ?_
   refine at_block rfl ?_
   refine loop_n rfl (fun mm kv H' => ∃ u : Nat, ∃ x4 x6 x20 x25 : AV, (kv = [(4, x4), (6, x6), (19, AV.i u), (20, x20), (25, x25)]) ∧ (mm = rows.length - u) ∧ (H' = H ++ [some [rowsAV rows]]) ∧ (u ≤ rows.length)) ⟨0, _, _, _, _, rfl, rfl, rfl, by omega⟩ (by rfl) ?_
   rintro mm kv H' ⟨u, x4, x6, x20, x25, rfl, rfl, rfl, hu⟩
   have tr : ∀ a b c d e f g h i j k m n o p q : AV, upd [(0,a),(1,b),(2,c),(4,d),(6,e),(15,f),(17,g),(18,h),(19,i),(20,j),(25,k)] [(4,m),(6,n),(19,o),(20,p),(25,q)] = [(0,a),(1,b),(2,c),(4,m),(6,n),(15,f),(17,g),(18,h),(19,o),(20,p),(25,q)] := by intros; rfl
   refine W_to (tr ..) ?_; clear tr
   refine at_seq rfl ?_
   refine rg rfl ?_
   refine Rq ?_
   have tr : ∀ a b c d e f g h i j k m : AV, let l := lc_small_ok a b c d e f g h i j k; trim ((20,m)::l) l = [(0,a),(1,b),(2,c),(4,d),(6,e),(15,f),(17,g),(18,h),(19,i),(20,m),(25,k)] := by intros; rfl
   refine R_nil (tr ..) ?_; clear tr
   refine then_n ?_
   refine at_seq rfl ?_
   refine cdd (fun h3 => ?_) (fun h3 => ?_)
   ·
    try simp only [decide_eq_true_eq, decide_eq_false_iff_not, Bool.not_eq_true', Bool.not_eq_false', beq_iff_eq, beq_eq_false_iff_ne, ne_eq] at h3
    refine at_skip rfl ?_
    refine then_n ?_
    refine at_seq rfl ?_
    refine at_block rfl ?_
    refine at_seq rfl ?_
    refine rg rfl ?_
    refine Rq ?_
    refine Rq ?_
    refine Rq ?_
    have tr : ∀ a b c d e f g h i j k m n o : AV, let l := lc_small_ok a b c d e f g h i j k; trim ((6,o)::(22,n)::(21,m)::l) l = [(0,a),(1,b),(2,c),(4,d),(6,o),(15,f),(17,g),(18,h),(19,i),(20,j),(25,k)] := by intros; rfl
    refine R_nil (tr ..) ?_; clear tr
    refine then_n ?_
    refine at_seq rfl ?_
    refine rg rfl ?_
    refine Rq ?_
    refine Rq ?_
    refine Rq ?_
    have tr : ∀ a b c d e f g h i j k m n o : AV, let l := lc_small_ok a b c d e f g h i j k; trim ((25,o)::(24,n)::(23,m)::l) l = [(0,a),(1,b),(2,c),(4,d),(6,e),(15,f),(17,g),(18,h),(19,i),(20,j),(25,o)] := by intros; rfl
    refine R_nil (tr ..) ?_; clear tr
    refine then_n ?_
    refine cdd (fun h4 => ?_) (fun h4 => ?_)
    ·
     try simp only [decide_eq_true_eq, decide_eq_false_iff_not, Bool.not_eq_true', Bool.not_eq_false', beq_iff_eq, beq_eq_false_iff_ne, ne_eq] at h4
     refine at_seq rfl ?_
     refine rg rfl ?_
     refine Rq ?_
     have tr : ∀ a b c d e f g h i j k m : AV, let l := lc_small_ok a b c d e f g h i j k; trim ((4,m)::l) l = [(0,a),(1,b),(2,c),(4,m),(6,e),(15,f),(17,g),(18,h),(19,i),(20,j),(25,k)] := by intros; rfl
     refine R_nil (tr ..) ?_; clear tr
     refine then_n ?_
     refine at_ret rfl ?_
     refine blk_r ?_
     refine then_r ?_
     refine then_r ?_
     refine blk_r ?_
     refine then_r ?_
     refine fpure ?_
     first | exact ⟨⟨_, rfl, fun _ => by omega⟩, rfl⟩ | exact ⟨⟨_, rfl, fun hh => by cases hh⟩, rfl⟩
    ·
     try simp only [decide_eq_true_eq, decide_eq_false_iff_not, Bool.not_eq_true', Bool.not_eq_false', beq_iff_eq, beq_eq_false_iff_ne, ne_eq] at h4
     refine at_skip rfl ?_
     refine blk_n ?_
     refine then_n ?_
     refine rg rfl ?_
     refine Rq ?_
     refine Rq ?_
     have tr : ∀ a b c d e f g h i j k m n : AV, let l := lc_small_ok a b c d e f g h i j k; trim ((19,n)::(26,m)::l) l = [(0,a),(1,b),(2,c),(4,d),(6,e),(15,f),(17,g),(18,h),(19,n),(20,j),(25,k)] := by intros; rfl
     refine R_nil (tr ..) ?_; clear tr
     refine then_n ?_
     exact ⟨_, _, ⟨u + 1, _, _, _, _, rfl, rfl, rfl, by omega⟩, by rfl, by omega⟩
   ·
    try simp only [decide_eq_true_eq, decide_eq_false_iff_not, Bool.not_eq_true', Bool.not_eq_false', beq_iff_eq, beq_eq_false_iff_ne, ne_eq] at h3
    refine at_exit rfl ?_
    refine then_x ?_
    refine then_x ?_
    refine blk_x ?_
    refine then_n ?_
    refine at_seq rfl ?_
    refine rg rfl ?_
    refine Rq ?_
    have tr : ∀ a b c d e f g h i j k m : AV, let l := lc_small_ok a b c d e f g h i j k; trim ((4,m)::l) l = [(0,a),(1,b),(2,c),(4,m),(6,e),(15,f),(17,g),(18,h),(19,i),(20,j),(25,k)] := by intros; rfl
    refine R_nil (tr ..) ?_; clear tr
    refine then_n ?_
    refine at_ret rfl ?_
    refine fpure ?_
    first | exact ⟨⟨_, rfl, fun _ => by omega⟩, rfl⟩ | exact ⟨⟨_, rfl, fun hh => by cases hh⟩, rfl⟩

theorem spl_same (l : List Stp) (i t : Int) : ∃ x, splA l i t = x ∧ (∀ (lim : Nat) (H : Heap), ACall sig lim 45 [x, x] H fun r H' => r = .v (.bool true) ∧ H' = H) ∧ (splE l i t = 0 → x = stopsAV (spl l i.toNat t)) := by
  by_cases h : splE l i t = 0
  · obtain ⟨_, h1, _, _, h4⟩ := split_of h
    exact ⟨_, splA_0 h, fun lim H => same_ok lim H _ (by rw [spl_len t h1]; omega), fun _ => rfl⟩
  · exact ⟨_, splA_n h, fun lim H => same_nil lim H, fun hh => absurd hh h⟩
abbrev lc_rsplits_ok (a b c d e f g h i j k m n o p q r s : AV) : Env := [(0,a),(1,b),(2,c),(3,d),(6,e),(7,f),(8,g),(9,h),(10,i),(11,j),(12,k),(13,m),(14,n),(16,o),(22,p),(47,q),(49,r),(82,s)]
theorem rsplits_ok (lim : Nat) (H : Heap) (rows : Tb) (per balls : Int) (l : List Stp) (i t : Int) : ACall sig lim 12 [.agg [rowsAV rows, AV.i per, AV.i balls, stopsAV l], AV.i i, AV.i t] H fun r _ => r = .v (.bool true) := by
 have q0 : True := trivial
 refine ACall_pure (fa := fa12) rfl rfl rfl rfl ?_
 have tr : ∀ a0 a1 a2 : AV, env0 fa12.keep [a0, a1, a2] = [(0,a0),(1,a1),(2,a2),(3,.any),(6,.any),(7,.any),(8,.any),(9,.any),(10,.any),(11,.any),(12,.any),(13,.any),(14,.any),(16,.any),(22,.any),(47,.any),(49,.any),(82,.any)] := fun a0 a1 a2 => rfl
 refine W_to (tr _ _ _) ?_; clear tr
 refine at_seq rfl ?_
 refine rg rfl ?_
 refine A_box rfl (by simp (disch := first | omega | (simp only [List.length_map, List.length_append, List.length_set, List.length_cons, List.length_nil]; omega)) only [go_sem, ↓reduceIte, Nat.reduceEqDiff, reduceCtorEq] <;> rfl) ?_
 intro H1 n0
 have en0 := n0.len
 have q0 := n0.new
 refine Rq ?_
 have tr : ∀ a b c d e f g h i j k m n o p q r s t u : AV, let l := lc_rsplits_ok a b c d e f g h i j k m n o p q r s; trim ((6,u)::(3,t)::l) l = [(0,a),(1,b),(2,c),(3,t),(6,u),(7,f),(8,g),(9,h),(10,i),(11,j),(12,k),(13,m),(14,n),(16,o),(22,p),(47,q),(49,r),(82,s)] := by intros; rfl
 refine R_nil (tr ..) ?_; clear tr
 refine then_n ?_
 refine at_seq rfl ?_
 refine at_seq rfl ?_
 refine rg rfl ?_
 refine Rcall ?_
 refine ACall_eval 300 (awake39 _ _) ?_
 refine Rq ?_
 have tr : ∀ a b c d e f g h i j k m n o p q r s t u : AV, let l := lc_rsplits_ok a b c d e f g h i j k m n o p q r s; trim ((16,u)::(15,t)::l) l = [(0,a),(1,b),(2,c),(3,d),(6,e),(7,f),(8,g),(9,h),(10,i),(11,j),(12,k),(13,m),(14,n),(16,u),(22,p),(47,q),(49,r),(82,s)] := by intros; rfl
 refine R_nil (tr ..) ?_; clear tr
 refine then_n ?_
 refine cdf ?_
 refine at_skip rfl ?_
 refine then_n ?_
 refine at_seq rfl ?_
 refine at_seq rfl ?_
 refine rg rfl ?_
 refine Rq ?_
 refine R_q rfl (by simp (disch := first | omega | (simp only [List.length_map, List.length_append, List.length_set, List.length_cons, List.length_nil]; omega)) only [go_sem, ↓reduceIte, Nat.reduceEqDiff, reduceCtorEq, q0] <;> rfl) ?_
 refine Rq ?_
 refine R_q rfl (by simp (disch := first | omega | (simp only [List.length_map, List.length_append, List.length_set, List.length_cons, List.length_nil]; omega)) only [go_sem, ↓reduceIte, Nat.reduceEqDiff, reduceCtorEq, q0] <;> rfl) ?_
 refine Rcall ?_
 refine ACall_mono (small_ok _ _ rows l) ?_
 rintro r H6 ⟨⟨b, rfl, hsb⟩, rfl⟩
 refine Rq ?_
 have tr : ∀ a b c d e f g h i j k m n o p q r s t u v w x y : AV, let l := lc_rsplits_ok a b c d e f g h i j k m n o p q r s; trim ((22,y)::(21,x)::(20,w)::(19,v)::(18,u)::(17,t)::l) l = [(0,a),(1,b),(2,c),(3,d),(6,e),(7,f),(8,g),(9,h),(10,i),(11,j),(12,k),(13,m),(14,n),(16,o),(22,y),(47,q),(49,r),(82,s)] := by intros; rfl
 refine R_nil (tr ..) ?_; clear tr
 refine then_n ?_
 refine cdd (fun h1 => ?_) (fun h1 => ?_)
 ·
  try simp only [decide_eq_true_eq, decide_eq_false_iff_not, Bool.not_eq_true', Bool.not_eq_false', beq_iff_eq, beq_eq_false_iff_ne, ne_eq] at h1
  refine at_seq rfl ?_
  refine rg rfl ?_
  refine Rq ?_
  have tr : ∀ a b c d e f g h i j k m n o p q r s t : AV, let l := lc_rsplits_ok a b c d e f g h i j k m n o p q r s; trim ((6,t)::l) l = [(0,a),(1,b),(2,c),(3,d),(6,t),(7,f),(8,g),(9,h),(10,i),(11,j),(12,k),(13,m),(14,n),(16,o),(22,p),(47,q),(49,r),(82,s)] := by intros; rfl
  refine R_nil (tr ..) ?_; clear tr
  refine then_n ?_
  refine at_ret rfl ?_
  refine then_r ?_
  refine fpure ?_
  first | rfl | (simp; done) | (simp [h20]; done)
 ·
  try simp only [decide_eq_true_eq, decide_eq_false_iff_not, Bool.not_eq_true', Bool.not_eq_false', beq_iff_eq, beq_eq_false_iff_ne, ne_eq] at h1
  refine at_skip rfl ?_
  refine then_n ?_
  refine at_seq rfl ?_
  refine rg rfl ?_
  obtain ⟨x, hA, hS, hX⟩ := spl_same l i t
  refine Rq ?_
  refine R_q rfl (by simp (disch := first | omega | (simp only [List.length_map, List.length_append, List.length_set, List.length_cons, List.length_nil]; omega)) only [go_sem, ↓reduceIte, Nat.reduceEqDiff, reduceCtorEq, q0] <;> rfl) ?_
  refine Rq ?_
  refine Rq ?_
  refine Rcall ?_
  refine ACall_eq (split_ok _ _ l i t) ?_
  rewrite [hA]
  refine Rq ?_
  refine Rq ?_
  refine Rq ?_
  refine Rq ?_
  refine Rq ?_
  have tr : ∀ a b c d e f g h i j k m n o p q r s t u v w x y z A B C : AV, let l := lc_rsplits_ok a b c d e f g h i j k m n o p q r s; trim ((8,C)::(7,B)::(30,A)::(29,z)::(23,y)::(28,x)::(27,w)::(26,v)::(25,u)::(24,t)::l) l = [(0,a),(1,b),(2,c),(3,d),(6,e),(7,B),(8,C),(9,h),(10,i),(11,j),(12,k),(13,m),(14,n),(16,o),(22,p),(47,q),(49,r),(82,s)] := by intros; rfl
  refine R_nil (tr ..) ?_; clear tr
  refine then_n ?_
  refine at_seq rfl ?_
  refine rg rfl ?_
  refine Rq ?_
  refine R_q rfl (by simp (disch := first | omega | (simp only [List.length_map, List.length_append, List.length_set, List.length_cons, List.length_nil]; omega)) only [go_sem, ↓reduceIte, Nat.reduceEqDiff, reduceCtorEq, q0] <;> rfl) ?_
  refine Rq ?_
  refine Rq ?_
  refine Rcall ?_
  refine ACall_eq (rsplit_ok _ _ l i t) ?_
  rewrite [hA]
  refine Rq ?_
  refine Rq ?_
  refine Rq ?_
  refine Rq ?_
  refine Rq ?_
  have tr : ∀ a b c d e f g h i j k m n o p q r s t u v w x y z A B C : AV, let l := lc_rsplits_ok a b c d e f g h i j k m n o p q r s; trim ((10,C)::(9,B)::(38,A)::(37,z)::(31,y)::(36,x)::(35,w)::(34,v)::(33,u)::(32,t)::l) l = [(0,a),(1,b),(2,c),(3,d),(6,e),(7,f),(8,g),(9,B),(10,C),(11,j),(12,k),(13,m),(14,n),(16,o),(22,p),(47,q),(49,r),(82,s)] := by intros; rfl
  refine R_nil (tr ..) ?_; clear tr
  refine then_n ?_
  refine at_seq rfl ?_
  refine at_seq rfl ?_
  refine rg rfl ?_
  refine Rq ?_
  refine Rq ?_
  refine Rcall ?_
  refine ACall_eq (hS _ _) ?_
  refine Rq ?_
  refine Rq ?_
  refine Ry ?_
  refine Rq ?_
  refine Ry ?_
  refine Rq ?_
  refine Ry ?_
  refine Rq ?_
  refine Rq ?_
  have tr : ∀ a b c d e f g h i j k m n o p q r s t u v w x y z A B : AV, let l := lc_rsplits_ok a b c d e f g h i j k m n o p q r s; trim ((47,B)::(46,A)::(45,z)::(44,y)::(43,x)::(42,w)::(41,v)::(40,u)::(39,t)::l) l = [(0,a),(1,b),(2,c),(3,d),(6,e),(7,f),(8,g),(9,h),(10,i),(11,j),(12,k),(13,m),(14,n),(16,o),(22,p),(47,B),(49,r),(82,s)] := by intros; rfl
  refine R_nil (tr ..) ?_; clear tr
  refine then_n ?_
  refine cdd (fun h2 => ?_) (fun h2 => ?_)
  ·
   try simp only [decide_eq_true_eq, decide_eq_false_iff_not, Bool.not_eq_true', Bool.not_eq_false', beq_iff_eq, beq_eq_false_iff_ne, ne_eq] at h2
   first | omega | contradiction | exact absurd rfl (by assumption) | exact absurd trivial (by assumption)
  ·
   try simp only [decide_eq_true_eq, decide_eq_false_iff_not, Bool.not_eq_true', Bool.not_eq_false', beq_iff_eq, beq_eq_false_iff_ne, ne_eq] at h2
   refine at_skip rfl ?_
   refine then_n ?_
   refine at_seq rfl ?_
   refine at_seq rfl ?_
   refine rg rfl ?_
   refine Rq ?_
   refine Rq ?_
   have tr : ∀ a b c d e f g h i j k m n o p q r s t u : AV, let l := lc_rsplits_ok a b c d e f g h i j k m n o p q r s; trim ((49,u)::(48,t)::l) l = [(0,a),(1,b),(2,c),(3,d),(6,e),(7,f),(8,g),(9,h),(10,i),(11,j),(12,k),(13,m),(14,n),(16,o),(22,p),(47,q),(49,u),(82,s)] := by intros; rfl
   refine R_nil (tr ..) ?_; clear tr
   refine then_n ?_
   refine cdd (fun h3 => ?_) (fun h3 => ?_)
   ·
    try simp only [decide_eq_true_eq, decide_eq_false_iff_not, Bool.not_eq_true', Bool.not_eq_false', beq_iff_eq, beq_eq_false_iff_ne, ne_eq] at h3
    refine at_seq rfl ?_
    refine rg rfl ?_
    refine Rq ?_
    have tr : ∀ a b c d e f g h i j k m n o p q r s t : AV, let l := lc_rsplits_ok a b c d e f g h i j k m n o p q r s; trim ((6,t)::l) l = [(0,a),(1,b),(2,c),(3,d),(6,t),(7,f),(8,g),(9,h),(10,i),(11,j),(12,k),(13,m),(14,n),(16,o),(22,p),(47,q),(49,r),(82,s)] := by intros; rfl
    refine R_nil (tr ..) ?_; clear tr
    refine then_n ?_
    refine at_ret rfl ?_
    refine then_r ?_
    refine fpure ?_
    first | rfl | (simp; done) | (simp [h20]; done)
   ·
    try simp only [decide_eq_true_eq, decide_eq_false_iff_not, Bool.not_eq_true', Bool.not_eq_false', beq_iff_eq, beq_eq_false_iff_ne, ne_eq] at h3
    refine at_skip rfl ?_
    refine then_n ?_
    refine at_seq rfl ?_
    refine rg rfl ?_
    have hz : splE l i t = 0 := by assumption
    obtain ⟨g0, g1, g2, g3, g4⟩ := split_of hz
    obtain rfl := hX hz
    refine Rq ?_
    refine R_q rfl (by simp (disch := first | omega | (simp only [List.length_map, List.length_append, List.length_set, List.length_cons, List.length_nil]; omega)) only [go_sem, ↓reduceIte, Nat.reduceEqDiff, reduceCtorEq, q0] <;> rfl) ?_
    refine Rq ?_
    refine R_q rfl (by simp (disch := first | omega | (simp only [List.length_map, List.length_append, List.length_set, List.length_cons, List.length_nil]; omega)) only [go_sem, ↓reduceIte, Nat.reduceEqDiff, reduceCtorEq, q0] <;> rfl) ?_
    refine Rq ?_
    refine R_q rfl (by simp (disch := first | omega | (simp only [List.length_map, List.length_append, List.length_set, List.length_cons, List.length_nil]; omega)) only [go_sem, ↓reduceIte, Nat.reduceEqDiff, reduceCtorEq, q0] <;> rfl) ?_
    refine Rq ?_
    refine R_q rfl (by simp (disch := first | omega | (simp only [List.length_map, List.length_append, List.length_set, List.length_cons, List.length_nil]; omega)) only [go_sem, ↓reduceIte, Nat.reduceEqDiff, reduceCtorEq, q0] <;> rfl) ?_
    refine Rcall ?_
    refine ACall_eq (left_ok _ _ rows per balls l) ?_
    refine Rq ?_
    refine Rq ?_
    refine Rq ?_
    refine Rq ?_
    refine Rq ?_
    have tr : ∀ a b c d e f g h i j k m n o p q r s t u v w x y z A B C D E F G : AV, let l := lc_rsplits_ok a b c d e f g h i j k m n o p q r s; trim ((12,G)::(11,F)::(61,E)::(60,D)::(50,C)::(59,B)::(58,A)::(57,z)::(56,y)::(55,x)::(54,w)::(53,v)::(52,u)::(51,t)::l) l = [(0,a),(1,b),(2,c),(3,d),(6,e),(7,f),(8,g),(9,h),(10,i),(11,F),(12,G),(13,m),(14,n),(16,o),(22,p),(47,q),(49,r),(82,s)] := by intros; rfl
    refine R_nil (tr ..) ?_; clear tr
    refine then_n ?_
    refine at_seq rfl ?_
    refine rg rfl ?_
    refine Rq ?_
    refine R_q rfl (by simp (disch := first | omega | (simp only [List.length_map, List.length_append, List.length_set, List.length_cons, List.length_nil]; omega)) only [go_sem, ↓reduceIte, Nat.reduceEqDiff, reduceCtorEq, q0] <;> rfl) ?_
    refine Rq ?_
    refine R_q rfl (by simp (disch := first | omega | (simp only [List.length_map, List.length_append, List.length_set, List.length_cons, List.length_nil]; omega)) only [go_sem, ↓reduceIte, Nat.reduceEqDiff, reduceCtorEq, q0] <;> rfl) ?_
    refine Rq ?_
    refine R_q rfl (by simp (disch := first | omega | (simp only [List.length_map, List.length_append, List.length_set, List.length_cons, List.length_nil]; omega)) only [go_sem, ↓reduceIte, Nat.reduceEqDiff, reduceCtorEq, q0] <;> rfl) ?_
    refine Rq ?_
    refine Rcall ?_
    refine ACall_eq (left_ok _ _ rows per balls (spl l i.toNat t)) ?_
    refine Rq ?_
    refine Rq ?_
    refine Rq ?_
    refine Rq ?_
    refine Rq ?_
    have tr : ∀ a b c d e f g h i j k m n o p q r s t u v w x y z A B C D E F : AV, let l := lc_rsplits_ok a b c d e f g h i j k m n o p q r s; trim ((14,F)::(13,E)::(72,D)::(71,C)::(62,B)::(70,A)::(69,z)::(68,y)::(67,x)::(66,w)::(65,v)::(64,u)::(63,t)::l) l = [(0,a),(1,b),(2,c),(3,d),(6,e),(7,f),(8,g),(9,h),(10,i),(11,j),(12,k),(13,E),(14,F),(16,o),(22,p),(47,q),(49,r),(82,s)] := by intros; rfl
    refine R_nil (tr ..) ?_; clear tr
    refine then_n ?_
    refine at_seq rfl ?_
    refine at_seq rfl ?_
    refine rd rfl rfl ?_
    refine Qq ?_
    refine Q_q rfl (by simp (disch := first | omega | (simp only [List.length_map, List.length_append, List.length_set, List.length_cons, List.length_nil]; omega)) only [go_sem, ↓reduceIte, Nat.reduceEqDiff, reduceCtorEq, q0] <;> rfl) ?_
    refine Qq ?_
    refine Q_q rfl (by simp (disch := first | omega | (simp only [List.length_map, List.length_append, List.length_set, List.length_cons, List.length_nil]; omega)) only [go_sem, ↓reduceIte, Nat.reduceEqDiff, reduceCtorEq, q0] <;> rfl) ?_
    refine Qcall ?_
    refine ACall_eq (balls_ok _ _ balls l) ?_
    refine ⟨rfl, ?_⟩
    refine Qq ?_
    refine Q_q rfl (by simp (disch := first | omega | (simp only [List.length_map, List.length_append, List.length_set, List.length_cons, List.length_nil]; omega)) only [go_sem, ↓reduceIte, Nat.reduceEqDiff, reduceCtorEq, q0] <;> rfl) ?_
    refine Qq ?_
    refine Qcall ?_
    refine ACall_eq (balls_ok _ _ balls (spl l i.toNat t)) ?_
    rewrite [spl_balls hz]
    refine ⟨rfl, ?_⟩
    refine Qq ?_
    refine Q_nil ?_
    have tr : ∀ a b c d e f g h i j k m n o p q r s t u v w x y z A B C : AV, let l := lc_rsplits_ok a b c d e f g h i j k m n o p q r s; trim ((82,C)::(81,B)::(80,A)::(79,z)::(78,y)::(77,x)::(76,w)::(75,v)::(74,u)::(73,t)::l) l = [(0,a),(1,b),(2,c),(3,d),(6,e),(7,f),(8,g),(9,h),(10,i),(11,j),(12,k),(13,m),(14,n),(16,o),(22,p),(47,q),(49,r),(82,C)] := by intros; rfl
    refine R_nil (tr ..) ?_; clear tr
    refine then_n ?_
    refine cdd (fun h4 => ?_) (fun h4 => ?_)
    ·
     try simp only [decide_eq_true_eq, decide_eq_false_iff_not, Bool.not_eq_true', Bool.not_eq_false', beq_iff_eq, beq_eq_false_iff_ne, ne_eq] at h4
     first | omega | contradiction | exact absurd rfl (by assumption) | exact absurd trivial (by assumption)
    ·
     try simp only [decide_eq_true_eq, decide_eq_false_iff_not, Bool.not_eq_true', Bool.not_eq_false', beq_iff_eq, beq_eq_false_iff_ne, ne_eq] at h4
     refine at_skip rfl ?_
     refine then_n ?_
     refine at_seq rfl ?_
     refine rg rfl ?_
     refine Rq ?_
     refine R_q rfl (by simp (disch := first | omega | (simp only [List.length_map, List.length_append, List.length_set, List.length_cons, List.length_nil]; omega)) only [go_sem, ↓reduceIte, Nat.reduceEqDiff, reduceCtorEq, q0] <;> rfl) ?_
     refine Rq ?_
     refine R_q rfl (by simp (disch := first | omega | (simp only [List.length_map, List.length_append, List.length_set, List.length_cons, List.length_nil]; omega)) only [go_sem, ↓reduceIte, Nat.reduceEqDiff, reduceCtorEq, q0] <;> rfl) ?_
     refine Rq ?_
     refine R_q rfl (by simp (disch := first | omega | (simp only [List.length_map, List.length_append, List.length_set, List.length_cons, List.length_nil]; omega)) only [go_sem, ↓reduceIte, Nat.reduceEqDiff, reduceCtorEq, q0] <;> rfl) ?_
     refine Rq ?_
     refine R_q rfl (by simp (disch := first | omega | (simp only [List.length_map, List.length_append, List.length_set, List.length_cons, List.length_nil]; omega)) only [go_sem, ↓reduceIte, Nat.reduceEqDiff, reduceCtorEq, q0] <;> rfl) ?_
     refine Rcall ?_
     refine ACall_eq (chk_ok _ _ rows per balls l) ?_
     refine Rq ?_
     refine Rq ?_
     refine Rp_split (fun h5 => ?_) (fun h5 => ?_)
     ·
      try simp only [decide_eq_true_eq, decide_eq_false_iff_not, Bool.not_eq_true', Bool.not_eq_false', beq_iff_eq, beq_eq_false_iff_ne, ne_eq] at h5
      refine Rn ?_
      refine Rn ?_
      refine Rn ?_
      refine Rn ?_
      refine Ru ?_
      refine Ru ?_
      refine Ru ?_
      refine Rn ?_
      refine Rn ?_
      refine Ru ?_
      refine Ru ?_
      refine Rn ?_
      refine Rq ?_
      refine Rq ?_
      have tr : ∀ a b c d e f g h i j k m n o p q r s t u v w x y z A B C D E F G H I J K L M N O P Q R : AV, let l := lc_rsplits_ok a b c d e f g h i j k m n o p q r s; trim ((6,R)::(106,Q)::(105,P)::(104,O)::(103,N)::(102,M)::(101,L)::(100,K)::(99,J)::(98,I)::(97,H)::(96,G)::(95,F)::(94,E)::(93,D)::(92,C)::(91,B)::(90,A)::(89,z)::(88,y)::(87,x)::(86,w)::(85,v)::(84,u)::(83,t)::l) l = [(0,a),(1,b),(2,c),(3,d),(6,R),(7,f),(8,g),(9,h),(10,i),(11,j),(12,k),(13,m),(14,n),(16,o),(22,p),(47,q),(49,r),(82,s)] := by intros; rfl
      refine R_nil (tr ..) ?_; clear tr
      refine then_n ?_
      refine at_ret rfl ?_
      refine fpure ?_
      first | rfl | (simp; done) | (simp [h20]; done)
     ·
      try simp only [decide_eq_true_eq, decide_eq_false_iff_not, Bool.not_eq_true', Bool.not_eq_false', beq_iff_eq, beq_eq_false_iff_ne, ne_eq] at h5
      have hc := chk_of (by assumption : chkS rows per balls l = 0)
      rewrite [spl_left hc hz]
      have h20 : (leftS rows per balls l).2 = 0 := by rw [left_of hc]
      refine Ry ?_
      refine Rq ?_
      refine Ry ?_
      refine Rq ?_
      refine Ry ?_
      refine Rq ?_
      refine Ry ?_
      refine Rq ?_
      refine Rp_split (fun h6 => ?_) (fun h6 => ?_)
      ·
       try simp only [decide_eq_true_eq, decide_eq_false_iff_not, Bool.not_eq_true', Bool.not_eq_false', beq_iff_eq, beq_eq_false_iff_ne, ne_eq] at h6
       refine Ry ?_
       refine Rq ?_
       refine Ry ?_
       refine Rq ?_
       refine Ry ?_
       refine Rq ?_
       refine Ry ?_
       refine Rq ?_
       refine Ry ?_
       refine Rq ?_
       refine Rp_split (fun h7 => ?_) (fun h7 => ?_)
       ·
        try simp only [decide_eq_true_eq, decide_eq_false_iff_not, Bool.not_eq_true', Bool.not_eq_false', beq_iff_eq, beq_eq_false_iff_ne, ne_eq] at h7
        refine Ry ?_
        refine Rq ?_
        refine Ry ?_
        refine Rq ?_
        refine Ry ?_
        refine Rq ?_
        refine Rq ?_
        refine Rq ?_
        have tr : ∀ a b c d e f g h i j k m n o p q r s t u v w x y z A B C D E F G H I J K L M N O P Q R : AV, let l := lc_rsplits_ok a b c d e f g h i j k m n o p q r s; trim ((6,R)::(106,Q)::(105,P)::(104,O)::(103,N)::(102,M)::(101,L)::(100,K)::(99,J)::(98,I)::(97,H)::(96,G)::(95,F)::(94,E)::(93,D)::(92,C)::(91,B)::(90,A)::(89,z)::(88,y)::(87,x)::(86,w)::(85,v)::(84,u)::(83,t)::l) l = [(0,a),(1,b),(2,c),(3,d),(6,R),(7,f),(8,g),(9,h),(10,i),(11,j),(12,k),(13,m),(14,n),(16,o),(22,p),(47,q),(49,r),(82,s)] := by intros; rfl
        refine R_nil (tr ..) ?_; clear tr
        refine then_n ?_
        refine at_ret rfl ?_
        refine fpure ?_
        first | rfl | (simp; done) | (simp [h20]; done)
       ·
        try simp only [decide_eq_true_eq, decide_eq_false_iff_not, Bool.not_eq_true', Bool.not_eq_false', beq_iff_eq, beq_eq_false_iff_ne, ne_eq] at h7
        first | omega | contradiction | exact absurd rfl (by assumption) | exact absurd trivial (by assumption)
      ·
       try simp only [decide_eq_true_eq, decide_eq_false_iff_not, Bool.not_eq_true', Bool.not_eq_false', beq_iff_eq, beq_eq_false_iff_ne, ne_eq] at h6
       first | omega | contradiction | exact absurd rfl (by assumption) | exact absurd trivial (by assumption)

end Go.Proofs.Ytaoondlakhocnaa
end
section
namespace Go.Am
open Go
section
variable {H : Type} {enc : TypeId × Value → H} {P : Program} {w : World} {held : Bool}

abbrev In (w : World) : Nat → Prop := fun k => k < w.heap.size

theorem cell_lt {w : World} {a : Addr} {v : Value} (h : w.cell? a = some v) : a.block < w.heap.size := by
  unfold World.cell? at h
  by_cases hb : a.block < w.heap.size
  · exact hb
  · rw [Array.getElem?_eq_none (by omega)] at h
    simp at h

end
end Go.Am
end
section
namespace Go.Am
open Go Go.WideShapes
section
variable {P : Program} {w : World}

def DLs (w : World) (l : List AV) (cs : List Value) : Prop := cs.length = l.length ∧ ∀ (j : Nat) (a : AV) (v : Value), l[j]? = some a → cs[j]? = some v → Den [] (In w) w a v

def Opens (P : Program) (t : TypeId) {α : Type} (f : α → List AV) : Prop :=
  ∀ (H : Type) (enc : TypeId × Value → H) (w : World) (held : Bool) (n : Nat) (cs : List Value) (x : DataW H × List MemPlace), DataW.trod enc P w 0 (fun _ => true) held n t cs = some x → ∃ d : α, DLs w (f d) cs

theorem dls_one {a : AV} {v : Value} (h : Den [] (In w) w a v) : DLs w [a] [v] := ⟨rfl, fun j x y hx hy => by
  match j, hx, hy with
  | 0, hx, hy => cases hx; cases hy; exact h⟩

abbrev I64 := {x : Int // -9223372036854775808 ≤ x ∧ x ≤ 9223372036854775807}
abbrev U16 := {x : Int // 0 ≤ x ∧ x ≤ 65535}
abbrev U64 := {x : Int // 0 ≤ x ∧ x ≤ 18446744073709551615}
theorem opens_i64 {t : TypeId} (ht : P.underlying t = some (.int .i64)) : Opens P t (fun d : I64 => [AV.i d.val]) := by
  intro H enc w held n cs x h
  obtain ⟨m, rfl, _, hw⟩ := DataW.trod_int ht h
  simp only [Lit.wf, decide_eq_true_eq, Bool.and_eq_true] at hw
  exact ⟨⟨m, hw⟩, dls_one (.v _)⟩
theorem flat_uni {α : Type} {f : α → List AV} {z : Nat} (hf : ∀ d, (f d).length = z) : ∀ (l : List α) (i k : Nat) (hi : i < l.length), k < z → (l.map f).flatten[i * z + k]? = (f l[i])[k]?
  | [], i, k, hi, _ => by simp at hi
  | d :: l, 0, k, _, hk => by
    rw [List.map_cons, List.flatten_cons, Nat.zero_mul, Nat.zero_add, List.getElem?_append_left (by rw [hf]; exact hk)]
    rfl
  | d :: l, i + 1, k, hi, hk => by
    rw [List.map_cons, List.flatten_cons, List.getElem?_append_right (by rw [hf, Nat.succ_mul]; omega), hf]
    rw [show (i + 1) * z + k - z = i * z + k by rw [Nat.succ_mul]; omega, flat_uni hf l i k (by simpa using hi) hk]
    rfl
theorem flat_unilen {α : Type} {f : α → List AV} {z : Nat} (hf : ∀ d, (f d).length = z) (l : List α) : (l.map f).flatten.length = l.length * z := by
  induction l with
  | nil => simp
  | cons d l ih => rw [List.map_cons, List.flatten_cons, List.length_append, ih, hf, List.length_cons, Nat.succ_mul]; omega

theorem opens_slice {α : Type} {f : α → List AV} {t e : TypeId} {z : Nat} (ht : P.underlying t = some (.slice e)) (hc : P.cellsOf e = z) (hz : 0 < z) (he : Opens P e f) (hf : ∀ d, (f d).length = z) :
    Opens P t (fun l : List α => [.sl l.length (l.map f).flatten]) := by
  intro H enc w held n cs x h
  rcases DataW.trod_slice ht h with ⟨rfl, _⟩ | ⟨a, len, cap, elems, rest, n, _, rfl, _, _, hl, hm, hlen, hel, hsp, _⟩
  · exact ⟨[], dls_one (.sl0 _ _)⟩
  · have get : ∀ i, i < cap → ∃ d cs', (∀ k, k < z → ∃ c, cs'[k]? = some c ∧ w.cell? ((a.add (i * z)).add k) = some c) ∧ DLs w (f d) cs' := by
      intro i hi
      have hb : ∃ y, (w.cells? 0 (a.add (i * P.cellsOf e)) (P.cellsOf e)).bind (DataW.trod enc P w 0 (fun _ => true) held n e) = some y := by
        by_cases h1 : i < len
        · exact ⟨elems[i]'(by omega), by rw [hel i h1, List.getElem?_eq_getElem (by omega)]⟩
        · obtain ⟨hr, hrr⟩ := hsp rfl
          have := hrr (i - len) (by omega)
          rw [show len + (i - len) = i by omega] at this
          exact ⟨rest[i - len]'(by omega), by rw [this, List.getElem?_eq_getElem (by omega)]⟩
      obtain ⟨y, hy⟩ := hb
      rw [hc, Option.bind_eq_some_iff] at hy
      obtain ⟨cs', hcs, hy'⟩ := hy
      obtain ⟨d, hd⟩ := he H enc w held _ _ _ hy'
      refine ⟨d, cs', fun k hk => ?_, hd⟩
      unfold World.cells? at hcs
      rw [if_pos (Nat.zero_le _)] at hcs
      have hk1 := mapM_some_length hcs
      rw [List.length_range] at hk1
      have := mapM_some_get hcs k k (by simp [hk])
      exact ⟨cs'[k]'(by omega), List.getElem?_eq_getElem (by omega), by rw [this, List.getElem?_eq_getElem (by omega)]⟩
    by_cases h0 : cap = 0
    · subst h0
      have : len = 0 := by omega
      subst this
      exact ⟨[], dls_one (.sl0 _ _)⟩
    · obtain ⟨d0, cs0, hc0, _⟩ := get 0 (by omega)
      obtain ⟨c0, _, hcc⟩ := hc0 0 hz
      have e00 : (a.add (0 * z)).add 0 = a := by simp [Addr.add]
      rw [e00] at hcc
      have hs : a.spot = none := World.cell?_spot hcc
      have hb : a.block < w.heap.size := cell_lt hcc
      have ad : ∀ i, a.add i = ⟨a.block, a.off + i, none⟩ := by
        intro i
        obtain ⟨ab, ao, asp⟩ := a
        simp only at hs
        subst hs
        simp only [Addr.add]
        split
        · rename_i hi; rw [hi]; rfl
        · rfl
      have ad2 : ∀ i k, (a.add i).add k = ⟨a.block, a.off + (i + k), none⟩ := by
        intro i k
        rw [ad i]
        simp only [Addr.add]
        split
        · rename_i hi; rw [hi]; simp
        · simp
      have pick : ∀ i, ∃ d : α, i < len → ∃ cs', (∀ k, k < z → ∃ c, cs'[k]? = some c ∧ w.cell? ⟨a.block, a.off + (i * z + k), none⟩ = some c) ∧ DLs w (f d) cs' := by
        intro i
        by_cases hi : i < len
        · obtain ⟨d, cs', h1, h2⟩ := get i (by omega)
          exact ⟨d, fun _ => ⟨cs', fun k hk => by obtain ⟨c, h3, h4⟩ := h1 k hk; exact ⟨c, h3, by rw [← ad2]; exact h4⟩, h2⟩⟩
        · exact ⟨d0, fun h => absurd h hi⟩
      let D : Nat → α := fun i => (pick i).choose
      have hD : ∀ i, i < len → ∃ cs', (∀ k, k < z → ∃ c, cs'[k]? = some c ∧ w.cell? ⟨a.block, a.off + (i * z + k), none⟩ = some c) ∧ DLs w (f (D i)) cs' := fun i => (pick i).choose_spec
      refine ⟨(List.range len).map D, dls_one ?_⟩
      have hlen2 : ((List.range len).map D).length = len := by simp
      have key : ∀ (j : Nat) (x : AV), (((List.range len).map D).map f).flatten[j]? = some x → ∃ c, w.cell? ⟨a.block, a.off + j, none⟩ = some c ∧ Den [] (In w) w x c := by
        intro j x hx
        have hj : j < len * z := by
          have h1 := (List.getElem?_eq_some_iff.1 hx).1
          rw [flat_unilen hf, hlen2] at h1
          exact h1
        have hdiv : j / z < len := Nat.div_lt_of_lt_mul (by rw [Nat.mul_comm]; exact hj)
        have hmod : j % z < z := Nat.mod_lt _ hz
        have hjj : j / z * z + j % z = j := by rw [Nat.mul_comm]; exact Nat.div_add_mod j z
        have h2 := flat_uni hf ((List.range len).map D) (j / z) (j % z) (by rw [hlen2]; exact hdiv) hmod
        rw [hjj] at h2
        rw [h2] at hx
        simp only [List.getElem_map, List.getElem_range] at hx
        obtain ⟨cs', h3, h4⟩ := hD (j / z) hdiv
        obtain ⟨c, h5, h6⟩ := h3 (j % z) hmod
        rw [hjj] at h6
        exact ⟨c, h6, h4.2 _ _ _ hx h5⟩
      have ha : a = ⟨a.block, a.off, none⟩ := by obtain ⟨ab, ao, asp⟩ := a; simp only at hs; subst hs; rfl
      rw [hlen2]
      refine Den.sl (I := In w) _ _ cap a (fun j => (w.cell? ⟨a.block, a.off + j, none⟩).getD undef) hl hm hs hb ?_ ?_
      · intro j x hx
        obtain ⟨c, h1, _⟩ := key j x hx
        rw [h1]; rfl
      · intro j x hx
        obtain ⟨c, h1, h2⟩ := key j x hx
        rw [h1]; exact h2

theorem dls_split {cs : List Value} {o z : Nat} {l l' : List AV} (h1 : DLs w l ((cs.drop o).take z)) (hz : l.length = z) (h2 : DLs w l' (cs.drop (o + z))) : DLs w (l ++ l') (cs.drop o) := by
  subst hz
  have e : cs.drop o = (cs.drop o).take l.length ++ cs.drop (o + l.length) := by rw [← List.drop_drop]; exact (List.take_append_drop _ _).symm
  have hl := h1.1
  refine ⟨by rw [e, List.length_append, List.length_append, h1.1, h2.1], fun j a v ha hv => ?_⟩
  rw [e] at hv
  rw [List.getElem?_append] at ha hv
  by_cases hj : j < l.length
  · rw [if_pos hj] at ha
    rw [if_pos (by rw [hl]; exact hj)] at hv
    exact h1.2 j a v ha hv
  · rw [if_neg hj] at ha
    rw [if_neg (by rw [hl]; exact hj), hl] at hv
    exact h2.2 _ a v ha hv
theorem dls_end {cs : List Value} {o : Nat} (h : cs.length = o) : DLs w [] (cs.drop o) := ⟨by rw [List.drop_of_length_le (by omega)]; rfl, fun j a v ha _ => by simp at ha⟩

/-- A struct or array that came in. -/
theorem open_agg {α : Type} {f : α → List AV} {t : TypeId} (h : Opens P t f) {H : Type} {enc : TypeId × Value → H} {cs : Array Value} {d : DataW H} {p : List MemPlace}
    (ht : DataW.Trod enc P w 0 (fun _ => true) true t (.agg cs) d p) : ∃ d : α, Den [] (In w) w (.agg (f d)) (.agg cs) := by
  obtain ⟨fuel, hf⟩ := ht
  obtain ⟨d, h1, h2⟩ := h _ _ _ _ _ _ _ hf
  have e : (Value.agg cs).cells.toList = cs.toList := rfl
  rw [e] at h1 h2
  exact ⟨d, .agg _ _ (by simpa using h1) fun j a v ha hv => h2 j a v ha (by simpa using hv)⟩
end
end Go.Am
end
section
set_option linter.unusedVariables false
namespace Go.Proofs.Ytaoondlakhocnaa
open Go Go.Am

instance : Inhabited I64 := ⟨⟨0, by decide⟩⟩
instance : Inhabited U16 := ⟨⟨0, by decide⟩⟩
theorem flat_one {α : Type} (g : α → AV) (l : List α) : (l.map fun d => [g d]).flatten = l.map g := by induction l with | nil => rfl | cons a l ih => rw [List.map_cons, List.flatten_cons, ih]; rfl
theorem co24 : Try.prog.cellsOf 24 = 1 := by kernel_rfl
theorem co22 : Try.prog.cellsOf 22 = 1 := by kernel_rfl
theorem co28 : Try.prog.cellsOf 28 = 1 := by kernel_rfl
theorem co2 : Try.prog.cellsOf 2 = 1 := by kernel_rfl
abbrev D2 := I64
abbrev c2 : D2 → List AV := fun d => [.v (.int .i64 d.val)]
theorem cl2 (d : D2) : (c2 d).length = 1 := rfl
theorem opens2 : Opens Try.prog 2 c2 := opens_i64 Try.underlying2
abbrev D28 := List D2
abbrev c28 : D28 → List AV := fun l => [.sl l.length (l.map c2).flatten]
theorem cl28 (d : D28) : (c28 d).length = 1 := rfl
theorem opens28 : Opens Try.prog 28 c28 := opens_slice Try.underlying28 co2 (by decide) opens2 cl2
abbrev D22 := List D28
abbrev c22 : D22 → List AV := fun l => [.sl l.length (l.map c28).flatten]
theorem cl22 (d : D22) : (c22 d).length = 1 := rfl
theorem opens22 : Opens Try.prog 22 c22 := opens_slice Try.underlying22 co28 (by decide) opens28 cl28
abbrev D24 := D22
abbrev c24 : D24 → List AV := fun d => c22 d ++ ([])
theorem cl24 (d : D24) : (c24 d).length = 1 := rfl
theorem opens24 : Opens Try.prog 24 c24 := by
  intro H enc w held n cs x h
  obtain ⟨xs, m, _, rfl, hl, hlen, hf⟩ := DataW.trod_struct Try.underlying24 h
  rw [co24] at hl
  have g0 := hf 0 _ rfl
  rw [List.getElem?_eq_getElem (by rw [hlen]; decide)] at g0
  obtain ⟨d0, E0⟩ := opens22 _ _ _ _ _ _ _ g0
  have D0 : DLs w (c22 d0) ((cs.drop 0).take (Try.prog.cellsOf 22)) := E0
  rw [co22] at D0
  refine ⟨d0, ?_⟩
  have key : DLs w (c24 d0) (cs.drop 0) := dls_split D0 (cl22 _) (dls_end (by rw [hl]))
  rwa [List.drop_zero] at key
theorem co56 : Try.prog.cellsOf 56 = 3 := by kernel_rfl
theorem co3 : Try.prog.cellsOf 3 = 1 := by kernel_rfl
abbrev D3 := I64
abbrev c3 : D3 → List AV := fun d => [.v (.int .i64 d.val)]
theorem cl3 (d : D3) : (c3 d).length = 1 := rfl
theorem opens3 : Opens Try.prog 3 c3 := opens_i64 Try.underlying3
abbrev D56 := D2 × D2 × D3
abbrev c56 : D56 → List AV := fun d => c2 d.1 ++ (c2 d.2.1 ++ (c3 d.2.2 ++ ([])))
theorem cl56 (d : D56) : (c56 d).length = 3 := rfl
theorem opens56 : Opens Try.prog 56 c56 := by
  intro H enc w held n cs x h
  obtain ⟨xs, m, _, rfl, hl, hlen, hf⟩ := DataW.trod_struct Try.underlying56 h
  rw [co56] at hl
  have g0 := hf 0 _ rfl
  rw [List.getElem?_eq_getElem (by rw [hlen]; decide)] at g0
  obtain ⟨d0, E0⟩ := opens2 _ _ _ _ _ _ _ g0
  have D0 : DLs w (c2 d0) ((cs.drop 0).take (Try.prog.cellsOf 2)) := E0
  rw [co2] at D0
  have g1 := hf 1 _ rfl
  rw [List.getElem?_eq_getElem (by rw [hlen]; decide)] at g1
  obtain ⟨d1, E1⟩ := opens2 _ _ _ _ _ _ _ g1
  have D1 : DLs w (c2 d1) ((cs.drop 1).take (Try.prog.cellsOf 2)) := E1
  rw [co2] at D1
  have g2 := hf 2 _ rfl
  rw [List.getElem?_eq_getElem (by rw [hlen]; decide)] at g2
  obtain ⟨d2, E2⟩ := opens3 _ _ _ _ _ _ _ g2
  have D2 : DLs w (c3 d2) ((cs.drop 2).take (Try.prog.cellsOf 3)) := E2
  rw [co3] at D2
  refine ⟨(d0, d1, d2), ?_⟩
  have key : DLs w (c56 (d0, d1, d2)) (cs.drop 0) := dls_split D0 (cl2 _) (dls_split D1 (cl2 _) (dls_split D2 (cl3 _) (dls_end (by rw [hl]))))
  rwa [List.drop_zero] at key
theorem co64 : Try.prog.cellsOf 64 = 4 := by kernel_rfl
theorem co25 : Try.prog.cellsOf 25 = 1 := by kernel_rfl
abbrev D25 := List D56
abbrev c25 : D25 → List AV := fun l => [.sl l.length (l.map c56).flatten]
theorem cl25 (d : D25) : (c25 d).length = 1 := rfl
theorem opens25 : Opens Try.prog 25 c25 := opens_slice Try.underlying25 co56 (by decide) opens56 cl56
abbrev D64 := D24 × D3 × D2 × D25
abbrev c64 : D64 → List AV := fun d => c24 d.1 ++ (c3 d.2.1 ++ (c2 d.2.2.1 ++ (c25 d.2.2.2 ++ ([]))))
theorem opens64 : Opens Try.prog 64 c64 := by
  intro H enc w held n cs x h
  obtain ⟨xs, m, _, rfl, hl, hlen, hf⟩ := DataW.trod_struct Try.underlying64 h
  rw [co64] at hl
  have g0 := hf 0 _ rfl
  rw [List.getElem?_eq_getElem (by rw [hlen]; decide)] at g0
  obtain ⟨d0, E0⟩ := opens24 _ _ _ _ _ _ _ g0
  have D0 : DLs w (c24 d0) ((cs.drop 0).take (Try.prog.cellsOf 24)) := E0
  rw [co24] at D0
  have g1 := hf 1 _ rfl
  rw [List.getElem?_eq_getElem (by rw [hlen]; decide)] at g1
  obtain ⟨d1, E1⟩ := opens3 _ _ _ _ _ _ _ g1
  have D1 : DLs w (c3 d1) ((cs.drop 1).take (Try.prog.cellsOf 3)) := E1
  rw [co3] at D1
  have g2 := hf 2 _ rfl
  rw [List.getElem?_eq_getElem (by rw [hlen]; decide)] at g2
  obtain ⟨d2, E2⟩ := opens2 _ _ _ _ _ _ _ g2
  have D2 : DLs w (c2 d2) ((cs.drop 2).take (Try.prog.cellsOf 2)) := E2
  rw [co2] at D2
  have g3 := hf 3 _ rfl
  rw [List.getElem?_eq_getElem (by rw [hlen]; decide)] at g3
  obtain ⟨d3, E3⟩ := opens25 _ _ _ _ _ _ _ g3
  have D3 : DLs w (c25 d3) ((cs.drop 3).take (Try.prog.cellsOf 25)) := E3
  rw [co25] at D3
  refine ⟨(d0, d1, d2, d3), ?_⟩
  have key : DLs w (c64 (d0, d1, d2, d3)) (cs.drop 0) := dls_split D0 (cl24 _) (dls_split D1 (cl3 _) (dls_split D2 (cl2 _) (dls_split D3 (cl25 _) (dls_end (by rw [hl])))))
  rwa [List.drop_zero] at key
abbrev D46 := D3 × D2 × D2 × D2 × D3
abbrev c46 : D46 → List AV := fun d => c3 d.1 ++ (c2 d.2.1 ++ (c2 d.2.2.1 ++ (c2 d.2.2.2.1 ++ (c3 d.2.2.2.2 ++ ([])))))
abbrev D50 := U16
abbrev c50 : D50 → List AV := fun d => [.v (.int .u16 d.val)]
abbrev D51 := {l : List D50 // l.length = 3}
abbrev c51 : D51 → List AV := fun l => (l.val.map c50).flatten
abbrev D53 := {l : List D2 // l.length = 2}
abbrev c53 : D53 → List AV := fun l => (l.val.map c2).flatten
abbrev D58 := {l : List D3 // l.length = 2}
abbrev c58 : D58 → List AV := fun l => (l.val.map c3).flatten
abbrev D31 := {l : List D2 // l.length = 3}
abbrev c31 : D31 → List AV := fun l => (l.val.map c2).flatten
abbrev D27 := D24 × D3 × D3 × D3 × D2 × D25 × D25
abbrev c27 : D27 → List AV := fun d => c24 d.1 ++ (c3 d.2.1 ++ (c3 d.2.2.1 ++ (c3 d.2.2.2.1 ++ (c2 d.2.2.2.2.1 ++ (c25 d.2.2.2.2.2.1 ++ (c25 d.2.2.2.2.2.2 ++ ([])))))))
abbrev D4 := Bool
abbrev c4 : D4 → List AV := fun d => [.v (.bool d)]
end Go.Proofs.Ytaoondlakhocnaa
end
section
set_option linter.unusedVariables false
set_option linter.unusedSimpArgs false
namespace Go.Proofs.Ytaoondlakhocnaa
open Go Go.Am Go.ChangeShapes Go.WideShapes Go.ChangeAt Go.RowKit

abbrev tbOf (d : D24) : Tb := d.map fun r => r.map (·.val)
abbrev stOf (d : D56) : Stp := ⟨d.1.val, d.2.1.val, d.2.2.val⟩
theorem c24_eq (d : D24) : c24 d = [rowsAV (tbOf d)] := by
  simp only [c24, c22, c28, c2, flat_one, List.append_nil, rowsAV, rowAV, tbOf, List.length_map, List.map_map, Function.comp_def]
theorem c25_eq (d : D25) : c25 d = [stopsAV (d.map stOf)] := by
  simp only [c25, c56, c2, c3, stopsAV, flatS, List.length_map, List.map_map, Function.comp_def]
  rfl
section
variable {H : Type} {enc : TypeId × Value → H} {W : World} {base : Nat} {r : Reach} {v : Value} {d : DataW H} {p : List MemPlace}
theorem open_64 (hval : Value.okWide Try.prog W r base 64 v) (h : DataW.Trod enc Try.prog W 0 (fun _ => true) true 64 v d p) :
    ∃ (rows : Tb) (per balls : Int) (l : List Stp), Den [] (In W) W (.agg [rowsAV rows, AV.i per, AV.i balls, stopsAV l]) v := by
  obtain ⟨cs, rfl, hs⟩ := okWide_struct Try.underlying64 hval
  obtain ⟨x, hx⟩ := open_agg opens64 h
  have e : c64 x = [rowsAV (tbOf x.1), AV.i x.2.1.val, AV.i x.2.2.1.val, stopsAV (x.2.2.2.map stOf)] := by
    show c24 x.1 ++ (c3 x.2.1 ++ (c2 x.2.2.1 ++ (c25 x.2.2.2 ++ []))) = _
    rw [c24_eq, c25_eq]; rfl
  rw [e] at hx
  exact ⟨_, _, _, _, hx⟩
theorem open_2 (hval : Value.okWide Try.prog W r base 2 v) (h : DataW.Trod enc Try.prog W 0 (fun _ => true) true 2 v d p) : ∃ n : Int, Den [] (In W) W (AV.i n) v := by
  obtain ⟨fuel, hf⟩ := h
  obtain ⟨n, rfl⟩ := okWide_int Try.underlying2 hval
  exact ⟨n, by obtain ⟨m, hm, _⟩ := DataW.trod_int Try.underlying2 hf; cases hm; exact .v _⟩
theorem open_3 (hval : Value.okWide Try.prog W r base 3 v) (h : DataW.Trod enc Try.prog W 0 (fun _ => true) true 3 v d p) : ∃ n : Int, Den [] (In W) W (AV.i n) v := by
  obtain ⟨fuel, hf⟩ := h
  obtain ⟨n, rfl⟩ := okWide_int Try.underlying3 hval
  exact ⟨n, by obtain ⟨m, hm, _⟩ := DataW.trod_int Try.underlying3 hf; cases hm; exact .v _⟩
end
end Go.Proofs.Ytaoondlakhocnaa
end
section
namespace Go.Proofs.Ytaoondlakhocnaa
open Go Go.Am Go.ChangeShapes Go.WideShapes Go.ChangeAt Go.RowKit
set_option linter.unusedVariables false

theorem rainSplits_own : ownKnob Try.prog.godebug = none := by kernel_rfl
theorem rainSplits_laidOut : laidOutB Try.prog = true := by kernel_rfl

theorem rainSplits_walk (w : World) (v0 v1 v2 : Value) (rows : Tb) (per : Int) (balls : Int) (l : List Stp) (i : Int) (t : Int)  (D0 : Den [] (In w) w (.agg [rowsAV rows, AV.i per, AV.i balls, stopsAV l]) v0) (D1 : Den [] (In w) w (AV.i i) v1) (D2 : Den [] (In w) w (AV.i t) v2) :
    Calls Try.prog 12 #[v0, v1, v2] w fun e w' => e = .returned (.bool true) ∧ Below w.heap.size w w' := by
  obtain ⟨n0, r0, H0, hac, rfl⟩ := rsplits_ok 0 [] rows per balls l i t
  refine (calls_of_acall sig_ok (f := 12) rfl hac ⟨rfl, ?_⟩).mono fun e w' ⟨x0, I', he, hx0, hb⟩ => ?_
  · intro j a y0 ha hy0
    match j, ha, hy0 with
    | 0, ha, hy0 => cases ha; cases hy0; exact D0
    | 1, ha, hy0 => cases ha; cases hy0; exact D1
    | 2, ha, hy0 => cases ha; cases hy0; exact D2
  · rw [den_v hx0] at he
    exact ⟨he, hb⟩

set_option maxRecDepth 100000 in
theorem rainSplits_lifted (os : Os) (started : os.Started) (H : Type) (enc : TypeId × Value → H) :
    ReturnsInHanded {} Try.checked os 12 .any (Rows.rainSplitsSpec.pre6 enc Try.prog Try.f12 Rows.rainSplitsRow.domain false) (Rows.rainSplitsSpec.post enc Try.prog Try.f12 false true false false) := by
  refine returnsInHanded_of_change (C := Try.checked) rainSplits_own started (by kernel_rfl) Try.func12
    (ChangeSpec.witness6 (enc := enc) (C := Try.checked) false ⟨#[], #[.agg #[.slice none 0 0, .int .i64 0, .int .i64 0, .slice none 0 0], .int .i64 0, .int .i64 0], []⟩ 8 (by kernel_rfl) (by kernel_rfl) (by kernel_rfl) (by kernel_rfl)) ?_
  intro W base args ds gs before hval0 hW hcnd _
  have hval : ∀ (j : Nat) t v, Try.f12.params[j]? = some t → args[j]? = some v → Value.okWide Try.prog W .any base t v := hval0
  have hW' := hW
  obtain ⟨p, q, hA0, hV, rfl, hfz, hnd⟩ := hW
  have hA : DataW.TrodAll enc Try.prog W 0 (fun _ => true) true Try.f12.params.toList args.toList ds p := hA0
  rw [Try.params12] at hA hval
  obtain ⟨v0, vs0, d0, ds0, p0, q0, hargs, rfl, rfl, h0, s0⟩ := trodAll_cons hA
  obtain ⟨v1, vs1, d1, ds1, p1, q1, rfl, rfl, rfl, h1, s1⟩ := trodAll_cons s0
  obtain ⟨v2, vs2, d2, ds2, p2, q2, rfl, rfl, rfl, h2, s2⟩ := trodAll_cons s1
  obtain ⟨rfl, rfl, rfl⟩ := trodAll_nil s2
  obtain rfl : args = #[v0, v1, v2] := by cases args; simp_all
  obtain ⟨rfl, rfl⟩ := trodVars_none hV
  have k0 := h0
  have lt0 : ∀ x ∈ p0, x.block < W.heap.size := by obtain ⟨m, hm⟩ := k0; exact DataW.trod_lt m _ _ _ hm
  obtain ⟨rows, per, balls, l, D0⟩ := open_64 (hval 0 64 v0 rfl rfl) h0
  have k1 := h1
  have lt1 : ∀ x ∈ p1, x.block < W.heap.size := by obtain ⟨m, hm⟩ := k1; exact DataW.trod_lt m _ _ _ hm
  obtain ⟨i, D1⟩ := open_3 (hval 1 3 v1 rfl rfl) h1
  have k2 := h2
  have lt2 : ∀ x ∈ p2, x.block < W.heap.size := by obtain ⟨m, hm⟩ := k2; exact DataW.trod_lt m _ _ _ hm
  obtain ⟨t, D2⟩ := open_2 (hval 2 2 v2 rfl rfl) h2
  clear hA0 hval0
  refine (rainSplits_walk W v0 v1 v2 rows per balls l i t D0 D1 D2).mono fun e W' ⟨he, bel⟩ => ?_
  subst he
  exact ⟨_, rfl, _, _, _, [], _, [], hW', trodAll_mk1 (shut_bool Try.underlying4 _), (trodAll_cons_mk (Below.trod rainSplits_laidOut (by kernel_rfl) (of_decide_eq_true (by kernel_rfl)) k0 bel lt0) (trodAll_cons_mk (Below.trod rainSplits_laidOut (by kernel_rfl) (of_decide_eq_true (by kernel_rfl)) k1 bel lt1) (trodAll_cons_mk (Below.trod rainSplits_laidOut (by kernel_rfl) (of_decide_eq_true (by kernel_rfl)) k2 bel lt2) trodAll_mk0))), rfl, bel.frame _, fun h => by cases h⟩

theorem rainSplits_over : Rows.rainSplitsRow.holds Try.pinned (OpenSpec.ofChange Rows.rainSplitsSpec) :=
  OpenClaim.holds_of_wide 12 Try.f12 rfl rfl rfl rfl rfl rfl rfl ⟨rfl, rfl, rfl, rfl, rfl⟩ rfl rfl rfl rfl rfl (by kernel_rfl) Try.func12 (by kernel_rfl)
    (of_decide_eq_true (by kernel_rfl)) (by unfold Func.isWrapper; first | (rw [if_pos (by decide +kernel)]; kernel_rfl) | (rw [if_neg (by decide +kernel)]; exact ⟨rfl, rfl⟩))
    (fun os started H enc _ => rainSplits_lifted os started H enc)

theorem rainSplits_holds : Rows.RainSplitsSaid := rainSplits_over
end Go.Proofs.Ytaoondlakhocnaa
end
