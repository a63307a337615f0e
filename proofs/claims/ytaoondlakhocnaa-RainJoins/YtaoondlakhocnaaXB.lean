/-
  Walks of chapters 37, 39 and 40. The steps are written by program (walk.py).
-/
import Derived.Test.YtaoondlakhocnaaX2
set_option linter.unusedSimpArgs false
set_option linter.unusedVariables false
set_option maxHeartbeats 40000000
set_option maxRecDepth 4000
namespace Go.Proofs.Ytaoondlakhocnaa
open Go Go.Am

abbrev lc_same_ok (a b c d e f g h i : AV) : Env := [(0,a),(1,b),(4,c),(5,d),(10,e),(12,f),(13,g),(14,h),(24,i)]
theorem same_ok (lim : Nat) (H : Heap) (a : List Stp) (ha : a.length ≤ 1000000) :
    ACall sig lim 45 [stopsAV a, stopsAV a] H fun r H' => r = .v (.bool true) ∧ H' = H := by
 refine ACall_pure (fa := fa45) rfl rfl rfl rfl ?_
 have tr : ∀ a0 a1 : AV, env0 fa45.keep [a0, a1] = [(0,a0),(1,a1),(4,.any),(5,.any),(10,.any),(12,.any),(13,.any),(14,.any),(24,.any)] := fun a0 a1 => rfl
 refine W_to (tr _ _) ?_; clear tr
 refine at_seq rfl ?_
 refine rg rfl ?_
 refine Rq ?_
 have tr : ∀ a b c d e f g h i j : AV, let l := lc_same_ok a b c d e f g h i; trim ((4,j)::l) l = [(0,a),(1,b),(4,j),(5,d),(10,e),(12,f),(13,g),(14,h),(24,i)] := by intros; rfl
 refine R_nil (tr ..) ?_; clear tr
 refine then_n ?_
 refine at_seq rfl ?_
 refine at_seq rfl ?_
 refine rg rfl ?_
 refine Rq ?_
 refine Rq ?_
 refine Rq ?_
 refine Rq ?_
 refine Rq ?_
 have tr : ∀ a b c d e f g h i j k m n o : AV, let l := lc_same_ok a b c d e f g h i; trim ((10,o)::(9,n)::(8,m)::(7,k)::(6,j)::l) l = [(0,a),(1,b),(4,c),(5,d),(10,o),(12,f),(13,g),(14,h),(24,i)] := by intros; rfl
 refine R_nil (tr ..) ?_; clear tr
 refine then_n ?_
 refine cdd (fun h1 => ?_) (fun h1 => ?_)
 ·
  try simp only [decide_eq_true_eq, decide_eq_false_iff_not, Bool.not_eq_true', Bool.not_eq_false', beq_iff_eq, beq_eq_false_iff_ne, ne_eq] at h1
  first | omega | contradiction | exact absurd rfl (by assumption) | exact absurd trivial (by assumption)
 ·
  try simp only [decide_eq_true_eq, decide_eq_false_iff_not, Bool.not_eq_true', Bool.not_eq_false', beq_iff_eq, beq_eq_false_iff_ne, ne_eq] at h1
  refine at_skip rfl ?_
  refine then_n ?_
  refine at_seq rfl ?_
  refine at_seq rfl ?_
  refine rg rfl ?_
  refine Rq ?_
  refine Rq ?_
  refine Rq ?_
  have tr : ∀ a b c d e f g h i j k m : AV, let l := lc_same_ok a b c d e f g h i; trim ((13,m)::(12,k)::(11,j)::l) l = [(0,a),(1,b),(4,c),(5,d),(10,e),(12,k),(13,m),(14,h),(24,i)] := by intros; rfl
  refine R_nil (tr ..) ?_; clear tr
  refine then_n ?_
  refine at_block rfl ?_
  refine loop_n rfl (fun mm kv H' => ∃ u : Nat, ∃ x4 x5 x14 x24 : AV, (kv = [(4, x4), (5, x5), (13, AV.i u), (14, x14), (24, x24)]) ∧ (mm = a.length - u) ∧ (H' = H) ∧ (u ≤ a.length)) ⟨0, _, _, _, _, rfl, rfl, rfl, by omega⟩ (by rfl) ?_
  rintro mm kv H' ⟨u, x4, x5, x14, x24, rfl, rfl, rfl, hu⟩
  have tr : ∀ a b c d e f g h i j k m n o : AV, upd [(0,a),(1,b),(4,c),(5,d),(10,e),(12,f),(13,g),(14,h),(24,i)] [(4,j),(5,k),(13,m),(14,n),(24,o)] = [(0,a),(1,b),(4,j),(5,k),(10,e),(12,f),(13,m),(14,n),(24,o)] := by intros; rfl
  refine W_to (tr ..) ?_; clear tr
  refine at_seq rfl ?_
  refine rg rfl ?_
  refine Rq ?_
  have tr : ∀ a b c d e f g h i j : AV, let l := lc_same_ok a b c d e f g h i; trim ((14,j)::l) l = [(0,a),(1,b),(4,c),(5,d),(10,e),(12,f),(13,g),(14,j),(24,i)] := by intros; rfl
  refine R_nil (tr ..) ?_; clear tr
  refine then_n ?_
  refine at_seq rfl ?_
  refine cdd (fun h2 => ?_) (fun h2 => ?_)
  ·
   try simp only [decide_eq_true_eq, decide_eq_false_iff_not, Bool.not_eq_true', Bool.not_eq_false', beq_iff_eq, beq_eq_false_iff_ne, ne_eq] at h2
   refine at_skip rfl ?_
   refine then_n ?_
   refine at_seq rfl ?_
   refine at_block rfl ?_
   refine at_seq rfl ?_
   refine rg rfl ?_
   refine Rq ?_
   refine Rq ?_
   have tr : ∀ a b c d e f g h i j k : AV, let l := lc_same_ok a b c d e f g h i; trim ((5,k)::(15,j)::l) l = [(0,a),(1,b),(4,c),(5,k),(10,e),(12,f),(13,g),(14,h),(24,i)] := by intros; rfl
   refine R_nil (tr ..) ?_; clear tr
   refine then_n ?_
   refine at_seq rfl ?_
   refine rd rfl rfl ?_
   refine Qq ?_
   refine Qq ?_
   refine Qq ?_
   refine Qq ?_
   refine Qq ?_
   refine Qq ?_
   refine Qq ?_
   refine Qq ?_
   refine Qq ?_
   refine Q_nil ?_
   have tr : ∀ a b c d e f g h i j k m n o p q r s : AV, let l := lc_same_ok a b c d e f g h i; trim ((24,s)::(23,r)::(22,q)::(21,p)::(20,o)::(19,n)::(18,m)::(17,k)::(16,j)::l) l = [(0,a),(1,b),(4,c),(5,d),(10,e),(12,f),(13,g),(14,h),(24,s)] := by intros; rfl
   refine R_nil (tr ..) ?_; clear tr
   refine then_n ?_
   refine cdd (fun h3 => ?_) (fun h3 => ?_)
   ·
    try simp only [decide_eq_true_eq, decide_eq_false_iff_not, Bool.not_eq_true', Bool.not_eq_false', beq_iff_eq, beq_eq_false_iff_ne, ne_eq] at h3
    first | omega | contradiction | exact absurd rfl (by assumption) | exact absurd trivial (by assumption)
   ·
    try simp only [decide_eq_true_eq, decide_eq_false_iff_not, Bool.not_eq_true', Bool.not_eq_false', beq_iff_eq, beq_eq_false_iff_ne, ne_eq] at h3
    refine at_skip rfl ?_
    refine blk_n ?_
    refine then_n ?_
    refine rg rfl ?_
    refine Rq ?_
    refine Rq ?_
    have tr : ∀ a b c d e f g h i j k : AV, let l := lc_same_ok a b c d e f g h i; trim ((13,k)::(25,j)::l) l = [(0,a),(1,b),(4,c),(5,d),(10,e),(12,f),(13,k),(14,h),(24,i)] := by intros; rfl
    refine R_nil (tr ..) ?_; clear tr
    refine then_n ?_
    exact ⟨_, _, ⟨u + 1, _, _, _, _, rfl, rfl, rfl, by omega⟩, by rfl, by omega⟩
  ·
   try simp only [decide_eq_true_eq, decide_eq_false_iff_not, Bool.not_eq_true', Bool.not_eq_false', beq_iff_eq, beq_eq_false_iff_ne, ne_eq] at h2
   refine at_exit rfl ?_
   refine then_x ?_
   refine then_x ?_
   refine blk_x ?_
   refine then_n ?_
   refine at_seq rfl ?_
   refine rg rfl ?_
   refine Rq ?_
   have tr : ∀ a b c d e f g h i j : AV, let l := lc_same_ok a b c d e f g h i; trim ((4,j)::l) l = [(0,a),(1,b),(4,j),(5,d),(10,e),(12,f),(13,g),(14,h),(24,i)] := by intros; rfl
   refine R_nil (tr ..) ?_; clear tr
   refine then_n ?_
   refine at_ret rfl ?_
   refine fpure ?_
   refine ⟨?_, rfl⟩
   rfl

abbrev lc_outf_ok (a b : AV) : Env := [(0,a),(2,b)]
theorem outf_ok (lim : Nat) (H : Heap) (x : Int) :
    ACall sig lim 63 [AV.i x] H fun r H' => r = .v (.bool (decide (bOut x))) ∧ H' = H := by
 refine ACall_pure (fa := fa63) rfl rfl rfl rfl ?_
 have tr : ∀ a0 : AV, env0 fa63.keep [a0] = [(0,a0),(2,.any)] := fun a0 => rfl
 refine W_to (tr _) ?_; clear tr
 refine at_seq rfl ?_
 refine rg rfl ?_
 refine Rq ?_
 have tr : ∀ a b c : AV, let l := lc_outf_ok a b; trim ((2,c)::l) l = [(0,a),(2,c)] := by intros; rfl
 refine R_nil (tr ..) ?_; clear tr
 refine then_n ?_
 refine at_seq rfl ?_
 refine rg rfl ?_
 refine Rq ?_
 refine Rq ?_
 refine Rq ?_
 refine Rp_split (fun h1 => ?_) (fun h1 => ?_)
 ·
  try simp only [decide_eq_true_eq, decide_eq_false_iff_not, Bool.not_eq_true', Bool.not_eq_false', beq_iff_eq, beq_eq_false_iff_ne, ne_eq] at h1
  refine Rn ?_
  refine Rn ?_
  refine Rq ?_
  refine Rq ?_
  have tr : ∀ a b c d e f g h i : AV, let l := lc_outf_ok a b; trim ((2,i)::(8,h)::(7,g)::(6,f)::(5,e)::(4,d)::(3,c)::l) l = [(0,a),(2,i)] := by intros; rfl
  refine R_nil (tr ..) ?_; clear tr
  refine then_n ?_
  refine at_ret rfl ?_
  refine fpure ?_
  refine ⟨?_, rfl⟩
  first | (rw [decide_eq_true (show bOut x by unfold bOut; omega)]; done) | (congr 2; rw [decide_eq_decide]; unfold bOut; omega)
 ·
  try simp only [decide_eq_true_eq, decide_eq_false_iff_not, Bool.not_eq_true', Bool.not_eq_false', beq_iff_eq, beq_eq_false_iff_ne, ne_eq] at h1
  refine Ry ?_
  refine Rq ?_
  refine Ry ?_
  refine Rq ?_
  refine Rq ?_
  refine Rq ?_
  have tr : ∀ a b c d e f g h i : AV, let l := lc_outf_ok a b; trim ((2,i)::(8,h)::(7,g)::(6,f)::(5,e)::(4,d)::(3,c)::l) l = [(0,a),(2,i)] := by intros; rfl
  refine R_nil (tr ..) ?_; clear tr
  refine then_n ?_
  refine at_ret rfl ?_
  refine fpure ?_
  refine ⟨?_, rfl⟩
  first | (rw [decide_eq_true (show bOut x by unfold bOut; omega)]; done) | (congr 2; rw [decide_eq_decide]; unfold bOut; omega)

abbrev lc_smallf_ok (a b : AV) : Env := [(0,a),(2,b)]
theorem smallf_ok (lim : Nat) (H : Heap) (x : Int) :
    ACall sig lim 64 [AV.i x] H fun r H' => r = .v (.bool (decide (¬ bOut x))) ∧ H' = H := by
 refine ACall_pure (fa := fa64) rfl rfl rfl rfl ?_
 have tr : ∀ a0 : AV, env0 fa64.keep [a0] = [(0,a0),(2,.any)] := fun a0 => rfl
 refine W_to (tr _) ?_; clear tr
 refine at_seq rfl ?_
 refine rg rfl ?_
 refine Rq ?_
 have tr : ∀ a b c : AV, let l := lc_smallf_ok a b; trim ((2,c)::l) l = [(0,a),(2,c)] := by intros; rfl
 refine R_nil (tr ..) ?_; clear tr
 refine then_n ?_
 refine at_seq rfl ?_
 refine rg rfl ?_
 refine Rq ?_
 refine Rq ?_
 refine Rq ?_
 refine Rp_split (fun h1 => ?_) (fun h1 => ?_)
 ·
  try simp only [decide_eq_true_eq, decide_eq_false_iff_not, Bool.not_eq_true', Bool.not_eq_false', beq_iff_eq, beq_eq_false_iff_ne, ne_eq] at h1
  refine Ry ?_
  refine Rq ?_
  refine Ry ?_
  refine Rq ?_
  refine Rq ?_
  refine Rq ?_
  have tr : ∀ a b c d e f g h i : AV, let l := lc_smallf_ok a b; trim ((2,i)::(8,h)::(7,g)::(6,f)::(5,e)::(4,d)::(3,c)::l) l = [(0,a),(2,i)] := by intros; rfl
  refine R_nil (tr ..) ?_; clear tr
  refine then_n ?_
  refine at_ret rfl ?_
  refine fpure ?_
  refine ⟨?_, rfl⟩
  first | (rw [decide_eq_false (show ¬ ¬ bOut x by unfold bOut; omega)]; done) | (congr 2; rw [decide_eq_decide]; unfold bOut; omega)
 ·
  try simp only [decide_eq_true_eq, decide_eq_false_iff_not, Bool.not_eq_true', Bool.not_eq_false', beq_iff_eq, beq_eq_false_iff_ne, ne_eq] at h1
  refine Rn ?_
  refine Rn ?_
  refine Rq ?_
  refine Rq ?_
  have tr : ∀ a b c d e f g h i : AV, let l := lc_smallf_ok a b; trim ((2,i)::(8,h)::(7,g)::(6,f)::(5,e)::(4,d)::(3,c)::l) l = [(0,a),(2,i)] := by intros; rfl
  refine R_nil (tr ..) ?_; clear tr
  refine then_n ?_
  refine at_ret rfl ?_
  refine fpure ?_
  refine ⟨?_, rfl⟩
  first | (rw [decide_eq_false (show ¬ ¬ bOut x by unfold bOut; omega)]; done) | (congr 2; rw [decide_eq_decide]; unfold bOut; omega)

abbrev lc_balls_ok (a b c d e f g h i j k : AV) : Env := [(0,a),(1,b),(4,c),(5,d),(7,e),(15,f),(16,g),(17,h),(18,i),(19,j),(31,k)]
theorem balls_ok (lim : Nat) (H : Heap) (balls : Int) (l : List Stp) :
    ACall sig lim 46 [AV.i balls, stopsAV l] H fun r H' => r = AV.i (ballsS balls l) ∧ H' = H := by
 refine ACall_pure (fa := fa46) rfl rfl rfl rfl ?_
 have tr : ∀ a0 a1 : AV, env0 fa46.keep [a0, a1] = [(0,a0),(1,a1),(4,.any),(5,.any),(7,.any),(15,.any),(16,.any),(17,.any),(18,.any),(19,.any),(31,.any)] := fun a0 a1 => rfl
 refine W_to (tr _ _) ?_; clear tr
 refine at_seq rfl ?_
 refine rg rfl ?_
 refine Rq ?_
 have tr : ∀ a b c d e f g h i j k m : AV, let l := lc_balls_ok a b c d e f g h i j k; trim ((4,m)::l) l = [(0,a),(1,b),(4,m),(5,d),(7,e),(15,f),(16,g),(17,h),(18,i),(19,j),(31,k)] := by intros; rfl
 refine R_nil (tr ..) ?_; clear tr
 refine then_n ?_
 refine at_seq rfl ?_
 refine rg rfl ?_
 refine Rq ?_
 have tr : ∀ a b c d e f g h i j k m : AV, let l := lc_balls_ok a b c d e f g h i j k; trim ((5,m)::l) l = [(0,a),(1,b),(4,c),(5,m),(7,e),(15,f),(16,g),(17,h),(18,i),(19,j),(31,k)] := by intros; rfl
 refine R_nil (tr ..) ?_; clear tr
 refine then_n ?_
 refine at_seq rfl ?_
 refine at_seq rfl ?_
 refine rg rfl ?_
 refine Rq ?_
 refine Rq ?_
 refine R_callv (by simp (disch := first | omega | (simp only [List.length_map, List.length_append, List.length_set, List.length_cons, List.length_nil]; omega)) only [go_sem, ↓reduceIte, Nat.reduceEqDiff, reduceCtorEq]; rfl) (by simp only [List.map_cons, List.map_nil, List.cons_append, List.nil_append, go_sem, ↓reduceIte, Nat.reduceEqDiff]; rfl) ?_
 refine ACall_eq (outf_ok _ _ _) ?_
 refine Rq ?_
 refine Rp_split (fun h1 => ?_) (fun h1 => ?_)
 ·
  try simp only [decide_eq_true_eq, decide_eq_false_iff_not, Bool.not_eq_true', Bool.not_eq_false', beq_iff_eq, beq_eq_false_iff_ne, ne_eq] at h1
  refine Rn ?_
  refine Rn ?_
  refine Rn ?_
  refine Rq ?_
  have tr : ∀ a b c d e f g h i j k m n o p q r s t : AV, let l := lc_balls_ok a b c d e f g h i j k; trim ((15,t)::(14,s)::(13,r)::(12,q)::(11,p)::(10,o)::(9,n)::(8,m)::l) l = [(0,a),(1,b),(4,c),(5,d),(7,e),(15,t),(16,g),(17,h),(18,i),(19,j),(31,k)] := by intros; rfl
  refine R_nil (tr ..) ?_; clear tr
  refine then_n ?_
  refine cdt ?_
  refine at_seq rfl ?_
  refine rg rfl ?_
  refine Rq ?_
  have tr : ∀ a b c d e f g h i j k m : AV, let l := lc_balls_ok a b c d e f g h i j k; trim ((4,m)::l) l = [(0,a),(1,b),(4,m),(5,d),(7,e),(15,f),(16,g),(17,h),(18,i),(19,j),(31,k)] := by intros; rfl
  refine R_nil (tr ..) ?_; clear tr
  refine then_n ?_
  refine at_ret rfl ?_
  refine then_r ?_
  refine fpure ?_
  refine ⟨?_, rfl⟩
  rw [balls_a (.inl (by first | assumption | (simp_all; done) | (exact Decidable.not_not.mp (by assumption))))]
 ·
  try simp only [decide_eq_true_eq, decide_eq_false_iff_not, Bool.not_eq_true', Bool.not_eq_false', beq_iff_eq, beq_eq_false_iff_ne, ne_eq] at h1
  refine Ry ?_
  refine Rq ?_
  refine Ry ?_
  refine Rq ?_
  refine Ry ?_
  refine Rq ?_
  refine Rq ?_
  have tr : ∀ a b c d e f g h i j k m n o p q r s t : AV, let l := lc_balls_ok a b c d e f g h i j k; trim ((15,t)::(14,s)::(13,r)::(12,q)::(11,p)::(10,o)::(9,n)::(8,m)::l) l = [(0,a),(1,b),(4,c),(5,d),(7,e),(15,t),(16,g),(17,h),(18,i),(19,j),(31,k)] := by intros; rfl
  refine R_nil (tr ..) ?_; clear tr
  refine then_n ?_
  refine cdd (fun h2 => ?_) (fun h2 => ?_)
  ·
   try simp only [decide_eq_true_eq, decide_eq_false_iff_not, Bool.not_eq_true', Bool.not_eq_false', beq_iff_eq, beq_eq_false_iff_ne, ne_eq] at h2
   refine at_seq rfl ?_
   refine rg rfl ?_
   refine Rq ?_
   have tr : ∀ a b c d e f g h i j k m : AV, let l := lc_balls_ok a b c d e f g h i j k; trim ((4,m)::l) l = [(0,a),(1,b),(4,m),(5,d),(7,e),(15,f),(16,g),(17,h),(18,i),(19,j),(31,k)] := by intros; rfl
   refine R_nil (tr ..) ?_; clear tr
   refine then_n ?_
   refine at_ret rfl ?_
   refine then_r ?_
   refine fpure ?_
   refine ⟨?_, rfl⟩
   rw [balls_a (.inr (by omega))]
  ·
   try simp only [decide_eq_true_eq, decide_eq_false_iff_not, Bool.not_eq_true', Bool.not_eq_false', beq_iff_eq, beq_eq_false_iff_ne, ne_eq] at h2
   refine at_skip rfl ?_
   refine then_n ?_
   refine at_seq rfl ?_
   refine at_seq rfl ?_
   refine rg rfl ?_
   have hbo : ¬ bOut balls := by first | assumption | (intro hh; simp_all; done)
   have hbr : 0 ≤ balls ∧ balls ≤ 2147483648 := by unfold bOut at hbo; omega
   refine Rq ?_
   refine Rq ?_
   refine Rq ?_
   have tr : ∀ a b c d e f g h i j k m n o : AV, let l := lc_balls_ok a b c d e f g h i j k; trim ((18,o)::(17,n)::(16,m)::l) l = [(0,a),(1,b),(4,c),(5,d),(7,e),(15,f),(16,m),(17,n),(18,o),(19,j),(31,k)] := by intros; rfl
   refine R_nil (tr ..) ?_; clear tr
   refine then_n ?_
   refine at_block rfl ?_
   refine loop_n rfl (fun mm kv H' => ∃ u : Nat, ∃ n : Int, ∃ X : Heap, ∃ x4 x7 x19 x31 : AV, (kv = [(0, AV.i n), (4, x4), (7, x7), (18, AV.i u), (19, x19), (31, x31)]) ∧ (mm = l.length - u) ∧ (H' = H ++ X) ∧ (u ≤ l.length) ∧ (n = balls - dsum l u) ∧ (∀ i, i < u → ¬ (bOut (gt l i).b ∨ bOut (gt l i).a))) ⟨0, balls, [], _, _, _, _, rfl, rfl, by simp, by omega, by rw [dsum, Int.sub_zero], by intro i hi; omega⟩ (by rfl) ?_
   rintro mm kv H1 ⟨u, n, X, x4, x7, x19, x31, rfl, rfl, hX, hu, hn, hq⟩
   have tr : ∀ a b c d e f g h i j k m n o p q r : AV, upd [(0,a),(1,b),(4,c),(5,d),(7,e),(15,f),(16,g),(17,h),(18,i),(19,j),(31,k)] [(0,m),(4,n),(7,o),(18,p),(19,q),(31,r)] = [(0,m),(1,b),(4,n),(5,d),(7,o),(15,f),(16,g),(17,h),(18,p),(19,q),(31,r)] := by intros; rfl
   refine W_to (tr ..) ?_; clear tr
   subst hX
   have hdr := dsum_rng (l := l) u hq
   refine at_seq rfl ?_
   refine rg rfl ?_
   refine Rq ?_
   have tr : ∀ a b c d e f g h i j k m : AV, let l := lc_balls_ok a b c d e f g h i j k; trim ((19,m)::l) l = [(0,a),(1,b),(4,c),(5,d),(7,e),(15,f),(16,g),(17,h),(18,i),(19,m),(31,k)] := by intros; rfl
   refine R_nil (tr ..) ?_; clear tr
   refine then_n ?_
   refine at_seq rfl ?_
   refine cdd (fun h3 => ?_) (fun h3 => ?_)
   ·
    try simp only [decide_eq_true_eq, decide_eq_false_iff_not, Bool.not_eq_true', Bool.not_eq_false', beq_iff_eq, beq_eq_false_iff_ne, ne_eq] at h3
    refine at_skip rfl ?_
    refine then_n ?_
    refine at_seq rfl ?_
    refine at_block rfl ?_
    refine at_seq rfl ?_
    refine rg rfl ?_
    refine Rq ?_
    refine Rq ?_
    refine R_alloc (by simp (disch := first | omega | (simp only [List.length_map, List.length_append, List.length_set, List.length_cons, List.length_nil]; omega)) only [go_sem, ↓reduceIte, Nat.reduceEqDiff, reduceCtorEq]; rfl) rfl (by simp only [List.map_cons, List.map_nil]; rfl) ?_
    refine R_store ty56 (by simp (disch := first | omega | (simp only [List.length_map, List.length_append, List.length_set, List.length_cons, List.length_nil]; omega)) only [go_sem, ↓reduceIte, Nat.reduceEqDiff, reduceCtorEq]; rfl) (by simp (disch := first | omega | (simp only [List.length_map, List.length_append, List.length_set, List.length_cons, List.length_nil]; omega)) only [go_sem, ↓reduceIte, Nat.reduceEqDiff, reduceCtorEq]; rfl) (by simp (disch := first | omega | (simp only [List.length_map, List.length_append, List.length_set, List.length_cons, List.length_nil]; omega)) only [go_sem, ↓reduceIte, Nat.reduceEqDiff, reduceCtorEq]; rfl) (by simp) (by rfl) (by simp (disch := first | omega | (simp only [List.length_map, List.length_append, List.length_set, List.length_cons, List.length_nil]; omega)) only [go_sem, ↓reduceIte, Nat.reduceEqDiff, reduceCtorEq]; rfl) ?_
    have tr : ∀ a b c d e f g h i j k m n o : AV, let l := lc_balls_ok a b c d e f g h i j k; trim ((7,o)::(21,n)::(20,m)::l) l = [(0,a),(1,b),(4,c),(5,d),(7,o),(15,f),(16,g),(17,h),(18,i),(19,j),(31,k)] := by intros; rfl
    refine R_nil (tr ..) ?_; clear tr
    refine then_n ?_
    refine at_seq rfl ?_
    refine at_seq rfl ?_
    refine rg rfl ?_
    refine Rq ?_
    refine Rq ?_
    refine Rq ?_
    refine R_callv (by simp (disch := first | omega | (simp only [List.length_map, List.length_append, List.length_set, List.length_cons, List.length_nil]; omega)) only [go_sem, ↓reduceIte, Nat.reduceEqDiff, reduceCtorEq]; rfl) (by simp only [List.map_cons, List.map_nil, List.cons_append, List.nil_append, go_sem, ↓reduceIte, Nat.reduceEqDiff]; rfl) ?_
    refine ACall_eq (outf_ok _ _ _) ?_
    refine Rq ?_
    refine Rp_split (fun h4 => ?_) (fun h4 => ?_)
    ·
     try simp only [decide_eq_true_eq, decide_eq_false_iff_not, Bool.not_eq_true', Bool.not_eq_false', beq_iff_eq, beq_eq_false_iff_ne, ne_eq] at h4
     refine Rn ?_
     refine Rn ?_
     refine Rn ?_
     refine Rn ?_
     refine Rq ?_
     have tr : ∀ a b c d e f g h i j k m n o p q r s t u v : AV, let l := lc_balls_ok a b c d e f g h i j k; trim ((31,v)::(30,u)::(29,t)::(28,s)::(27,r)::(26,q)::(25,p)::(24,o)::(23,n)::(22,m)::l) l = [(0,a),(1,b),(4,c),(5,d),(7,e),(15,f),(16,g),(17,h),(18,i),(19,j),(31,v)] := by intros; rfl
     refine R_nil (tr ..) ?_; clear tr
     refine then_n ?_
     refine cdt ?_
     refine at_seq rfl ?_
     refine rg rfl ?_
     refine Rq ?_
     have tr : ∀ a b c d e f g h i j k m : AV, let l := lc_balls_ok a b c d e f g h i j k; trim ((4,m)::l) l = [(0,a),(1,b),(4,m),(5,d),(7,e),(15,f),(16,g),(17,h),(18,i),(19,j),(31,k)] := by intros; rfl
     refine R_nil (tr ..) ?_; clear tr
     refine then_n ?_
     refine at_ret rfl ?_
     refine then_r ?_
     refine blk_r ?_
     refine then_r ?_
     refine then_r ?_
     refine blk_r ?_
     refine then_r ?_
     refine fpure ?_
     refine ⟨?_, rfl⟩
     rw [balls_b (i := u) (by omega) (.inl (by first | assumption | (exact Decidable.not_not.mp (by assumption))))]
    ·
     try simp only [decide_eq_true_eq, decide_eq_false_iff_not, Bool.not_eq_true', Bool.not_eq_false', beq_iff_eq, beq_eq_false_iff_ne, ne_eq] at h4
     refine Ry ?_
     refine Rq ?_
     refine Ry ?_
     refine Rq ?_
     refine Ry ?_
     refine Rq ?_
     refine Ry ?_
     refine R_callv (by simp (disch := first | omega | (simp only [List.length_map, List.length_append, List.length_set, List.length_cons, List.length_nil]; omega)) only [go_sem, ↓reduceIte, Nat.reduceEqDiff, reduceCtorEq]; rfl) (by simp only [List.map_cons, List.map_nil, List.cons_append, List.nil_append, go_sem, ↓reduceIte, Nat.reduceEqDiff]; rfl) ?_
     refine ACall_eq (outf_ok _ _ _) ?_
     refine Rq ?_
     have tr : ∀ a b c d e f g h i j k m n o p q r s t u v : AV, let l := lc_balls_ok a b c d e f g h i j k; trim ((31,v)::(30,u)::(29,t)::(28,s)::(27,r)::(26,q)::(25,p)::(24,o)::(23,n)::(22,m)::l) l = [(0,a),(1,b),(4,c),(5,d),(7,e),(15,f),(16,g),(17,h),(18,i),(19,j),(31,v)] := by intros; rfl
     refine R_nil (tr ..) ?_; clear tr
     refine then_n ?_
     refine cdd (fun h5 => ?_) (fun h5 => ?_)
     ·
      try simp only [decide_eq_true_eq, decide_eq_false_iff_not, Bool.not_eq_true', Bool.not_eq_false', beq_iff_eq, beq_eq_false_iff_ne, ne_eq] at h5
      refine at_seq rfl ?_
      refine rg rfl ?_
      refine Rq ?_
      have tr : ∀ a b c d e f g h i j k m : AV, let l := lc_balls_ok a b c d e f g h i j k; trim ((4,m)::l) l = [(0,a),(1,b),(4,m),(5,d),(7,e),(15,f),(16,g),(17,h),(18,i),(19,j),(31,k)] := by intros; rfl
      refine R_nil (tr ..) ?_; clear tr
      refine then_n ?_
      refine at_ret rfl ?_
      refine then_r ?_
      refine blk_r ?_
      refine then_r ?_
      refine then_r ?_
      refine blk_r ?_
      refine then_r ?_
      refine fpure ?_
      refine ⟨?_, rfl⟩
      rw [balls_b (i := u) (by omega) (.inr (by first | assumption | (exact Decidable.not_not.mp (by assumption))))]
     ·
      try simp only [decide_eq_true_eq, decide_eq_false_iff_not, Bool.not_eq_true', Bool.not_eq_false', beq_iff_eq, beq_eq_false_iff_ne, ne_eq] at h5
      refine at_skip rfl ?_
      refine then_n ?_
      refine rg rfl ?_
      have hb9 : 0 ≤ (gt l u).b ∧ (gt l u).b ≤ 2147483648 := by
        have h7 : ¬ bOut (gt l u).b := by assumption
        unfold bOut at h7
        omega
      have ha9 : 0 ≤ (gt l u).a ∧ (gt l u).a ≤ 2147483648 := by
        have h7 : ¬ bOut (gt l u).a := by assumption
        unfold bOut at h7
        omega
      refine Rq ?_
      refine Rq ?_
      refine Rq ?_
      refine Rq ?_
      refine Rq ?_
      refine Rq ?_
      refine Rq ?_
      refine Rq ?_
      have tr : ∀ a b c d e f g h i j k m n o p q r s t : AV, let l := lc_balls_ok a b c d e f g h i j k; trim ((0,t)::(38,s)::(37,r)::(36,q)::(35,p)::(34,o)::(33,n)::(32,m)::l) l = [(0,t),(1,b),(4,c),(5,d),(7,e),(15,f),(16,g),(17,h),(18,i),(19,j),(31,k)] := by intros; rfl
      refine R_nil (tr ..) ?_; clear tr
      refine blk_n ?_
      refine then_n ?_
      refine rg rfl ?_
      refine Rq ?_
      refine Rq ?_
      have tr : ∀ a b c d e f g h i j k m n : AV, let l := lc_balls_ok a b c d e f g h i j k; trim ((18,n)::(39,m)::l) l = [(0,a),(1,b),(4,c),(5,d),(7,e),(15,f),(16,g),(17,h),(18,n),(19,j),(31,k)] := by intros; rfl
      refine R_nil (tr ..) ?_; clear tr
      refine then_n ?_
      exact ⟨_, _, ⟨u + 1, n - ((gt l u).b - (gt l u).a), X ++ [some (stC (gt l u))], _, _, _, _, rfl, rfl, by simp; rfl, by omega, by (rw [dsum, hn]; omega), by exact all_step2 hq (by rintro (hh | hh); all_goals first | (exact absurd hh (by assumption)) | (simp_all; done))⟩, by rfl, by omega⟩
   ·
    try simp only [decide_eq_true_eq, decide_eq_false_iff_not, Bool.not_eq_true', Bool.not_eq_false', beq_iff_eq, beq_eq_false_iff_ne, ne_eq] at h3
    refine at_exit rfl ?_
    refine then_x ?_
    refine then_x ?_
    refine blk_x ?_
    refine then_n ?_
    refine at_seq rfl ?_
    refine rg rfl ?_
    refine Rq ?_
    refine Rq ?_
    refine Rq ?_
    have tr : ∀ a b c d e f g h i j k m n o : AV, let l := lc_balls_ok a b c d e f g h i j k; trim ((4,o)::(41,n)::(40,m)::l) l = [(0,a),(1,b),(4,o),(5,d),(7,e),(15,f),(16,g),(17,h),(18,i),(19,j),(31,k)] := by intros; rfl
    refine R_nil (tr ..) ?_; clear tr
    refine then_n ?_
    refine at_ret rfl ?_
    refine fpure ?_
    refine ⟨?_, rfl⟩
    obtain hul : l.length = u := by first | omega | (simp; omega)
    rw [balls_c (fun hh => hh.elim hbo (by omega)) (fun i hi => hq i (by rw [← hul]; exact hi)), hul, ← hn]

abbrev lc_rballs_ok (a b c d e f g h i j : AV) : Env := [(0,a),(1,b),(4,c),(6,d),(14,e),(15,f),(16,g),(17,h),(18,i),(30,j)]
theorem rballs_ok (lim : Nat) (H : Heap) (balls : Int) (l : List Stp) :
    ACall sig lim 48 [AV.i balls, stopsAV l] H fun r H' => r = AV.i (ballsS balls l) ∧ H' = H := by
 refine ACall_pure (fa := fa48) rfl rfl rfl rfl ?_
 have tr : ∀ a0 a1 : AV, env0 fa48.keep [a0, a1] = [(0,a0),(1,a1),(4,.any),(6,.any),(14,.any),(15,.any),(16,.any),(17,.any),(18,.any),(30,.any)] := fun a0 a1 => rfl
 refine W_to (tr _ _) ?_; clear tr
 refine at_seq rfl ?_
 refine rg rfl ?_
 refine Rq ?_
 have tr : ∀ a b c d e f g h i j k : AV, let l := lc_rballs_ok a b c d e f g h i j; trim ((4,k)::l) l = [(0,a),(1,b),(4,k),(6,d),(14,e),(15,f),(16,g),(17,h),(18,i),(30,j)] := by intros; rfl
 refine R_nil (tr ..) ?_; clear tr
 refine then_n ?_
 refine at_seq rfl ?_
 refine at_seq rfl ?_
 refine rg rfl ?_
 refine Rq ?_
 refine Rcall ?_
 refine ACall_eq (smallf_ok _ _ _) ?_
 refine Rq ?_
 refine Rq ?_
 refine Rp_split (fun h1 => ?_) (fun h1 => ?_)
 ·
  try simp only [decide_eq_true_eq, decide_eq_false_iff_not, Bool.not_eq_true', Bool.not_eq_false', beq_iff_eq, beq_eq_false_iff_ne, ne_eq] at h1
  refine Rn ?_
  refine Rn ?_
  refine Rn ?_
  refine Rq ?_
  have tr : ∀ a b c d e f g h i j k m n o p q r s : AV, let l := lc_rballs_ok a b c d e f g h i j; trim ((14,s)::(13,r)::(12,q)::(11,p)::(10,o)::(9,n)::(8,m)::(7,k)::l) l = [(0,a),(1,b),(4,c),(6,d),(14,s),(15,f),(16,g),(17,h),(18,i),(30,j)] := by intros; rfl
  refine R_nil (tr ..) ?_; clear tr
  refine then_n ?_
  refine cdt ?_
  refine at_seq rfl ?_
  refine rg rfl ?_
  refine Rq ?_
  have tr : ∀ a b c d e f g h i j k : AV, let l := lc_rballs_ok a b c d e f g h i j; trim ((4,k)::l) l = [(0,a),(1,b),(4,k),(6,d),(14,e),(15,f),(16,g),(17,h),(18,i),(30,j)] := by intros; rfl
  refine R_nil (tr ..) ?_; clear tr
  refine then_n ?_
  refine at_ret rfl ?_
  refine then_r ?_
  refine fpure ?_
  refine ⟨?_, rfl⟩
  rw [balls_a (.inl (by first | assumption | (simp_all; done) | (exact Decidable.not_not.mp (by assumption))))]
 ·
  try simp only [decide_eq_true_eq, decide_eq_false_iff_not, Bool.not_eq_true', Bool.not_eq_false', beq_iff_eq, beq_eq_false_iff_ne, ne_eq] at h1
  refine Ry ?_
  refine Rq ?_
  refine Ry ?_
  refine Rq ?_
  refine Ry ?_
  refine Rq ?_
  refine Rq ?_
  have tr : ∀ a b c d e f g h i j k m n o p q r s : AV, let l := lc_rballs_ok a b c d e f g h i j; trim ((14,s)::(13,r)::(12,q)::(11,p)::(10,o)::(9,n)::(8,m)::(7,k)::l) l = [(0,a),(1,b),(4,c),(6,d),(14,s),(15,f),(16,g),(17,h),(18,i),(30,j)] := by intros; rfl
  refine R_nil (tr ..) ?_; clear tr
  refine then_n ?_
  refine cdd (fun h2 => ?_) (fun h2 => ?_)
  ·
   try simp only [decide_eq_true_eq, decide_eq_false_iff_not, Bool.not_eq_true', Bool.not_eq_false', beq_iff_eq, beq_eq_false_iff_ne, ne_eq] at h2
   refine at_seq rfl ?_
   refine rg rfl ?_
   refine Rq ?_
   have tr : ∀ a b c d e f g h i j k : AV, let l := lc_rballs_ok a b c d e f g h i j; trim ((4,k)::l) l = [(0,a),(1,b),(4,k),(6,d),(14,e),(15,f),(16,g),(17,h),(18,i),(30,j)] := by intros; rfl
   refine R_nil (tr ..) ?_; clear tr
   refine then_n ?_
   refine at_ret rfl ?_
   refine then_r ?_
   refine fpure ?_
   refine ⟨?_, rfl⟩
   rw [balls_a (.inr (by omega))]
  ·
   try simp only [decide_eq_true_eq, decide_eq_false_iff_not, Bool.not_eq_true', Bool.not_eq_false', beq_iff_eq, beq_eq_false_iff_ne, ne_eq] at h2
   refine at_skip rfl ?_
   refine then_n ?_
   refine at_seq rfl ?_
   refine at_seq rfl ?_
   refine rg rfl ?_
   have hbo : ¬ bOut balls := by first | assumption | (intro hh; simp_all; done)
   have hbr : 0 ≤ balls ∧ balls ≤ 2147483648 := by unfold bOut at hbo; omega
   refine Rq ?_
   refine Rq ?_
   refine Rq ?_
   have tr : ∀ a b c d e f g h i j k m n : AV, let l := lc_rballs_ok a b c d e f g h i j; trim ((17,n)::(16,m)::(15,k)::l) l = [(0,a),(1,b),(4,c),(6,d),(14,e),(15,k),(16,m),(17,n),(18,i),(30,j)] := by intros; rfl
   refine R_nil (tr ..) ?_; clear tr
   refine then_n ?_
   refine at_block rfl ?_
   refine loop_n rfl (fun mm kv H' => ∃ u : Nat, ∃ n : Int, ∃ X : Heap, ∃ x4 x6 x18 x30 : AV, (kv = [(0, AV.i n), (4, x4), (6, x6), (17, AV.i u), (18, x18), (30, x30)]) ∧ (mm = l.length - u) ∧ (H' = H ++ X) ∧ (u ≤ l.length) ∧ (n = balls - dsum l u) ∧ (∀ i, i < u → ¬ (bOut (gt l i).b ∨ bOut (gt l i).a))) ⟨0, balls, [], _, _, _, _, rfl, rfl, by simp, by omega, by rw [dsum, Int.sub_zero], by intro i hi; omega⟩ (by rfl) ?_
   rintro mm kv H1 ⟨u, n, X, x4, x6, x18, x30, rfl, rfl, hX, hu, hn, hq⟩
   have tr : ∀ a b c d e f g h i j k m n o p q : AV, upd [(0,a),(1,b),(4,c),(6,d),(14,e),(15,f),(16,g),(17,h),(18,i),(30,j)] [(0,k),(4,m),(6,n),(17,o),(18,p),(30,q)] = [(0,k),(1,b),(4,m),(6,n),(14,e),(15,f),(16,g),(17,o),(18,p),(30,q)] := by intros; rfl
   refine W_to (tr ..) ?_; clear tr
   subst hX
   have hdr := dsum_rng (l := l) u hq
   refine at_seq rfl ?_
   refine rg rfl ?_
   refine Rq ?_
   have tr : ∀ a b c d e f g h i j k : AV, let l := lc_rballs_ok a b c d e f g h i j; trim ((18,k)::l) l = [(0,a),(1,b),(4,c),(6,d),(14,e),(15,f),(16,g),(17,h),(18,k),(30,j)] := by intros; rfl
   refine R_nil (tr ..) ?_; clear tr
   refine then_n ?_
   refine at_seq rfl ?_
   refine cdd (fun h3 => ?_) (fun h3 => ?_)
   ·
    try simp only [decide_eq_true_eq, decide_eq_false_iff_not, Bool.not_eq_true', Bool.not_eq_false', beq_iff_eq, beq_eq_false_iff_ne, ne_eq] at h3
    refine at_skip rfl ?_
    refine then_n ?_
    refine at_seq rfl ?_
    refine at_block rfl ?_
    refine at_seq rfl ?_
    refine rg rfl ?_
    refine Rq ?_
    refine Rq ?_
    refine R_alloc (by simp (disch := first | omega | (simp only [List.length_map, List.length_append, List.length_set, List.length_cons, List.length_nil]; omega)) only [go_sem, ↓reduceIte, Nat.reduceEqDiff, reduceCtorEq]; rfl) rfl (by simp only [List.map_cons, List.map_nil]; rfl) ?_
    refine R_store ty56 (by simp (disch := first | omega | (simp only [List.length_map, List.length_append, List.length_set, List.length_cons, List.length_nil]; omega)) only [go_sem, ↓reduceIte, Nat.reduceEqDiff, reduceCtorEq]; rfl) (by simp (disch := first | omega | (simp only [List.length_map, List.length_append, List.length_set, List.length_cons, List.length_nil]; omega)) only [go_sem, ↓reduceIte, Nat.reduceEqDiff, reduceCtorEq]; rfl) (by simp (disch := first | omega | (simp only [List.length_map, List.length_append, List.length_set, List.length_cons, List.length_nil]; omega)) only [go_sem, ↓reduceIte, Nat.reduceEqDiff, reduceCtorEq]; rfl) (by simp) (by rfl) (by simp (disch := first | omega | (simp only [List.length_map, List.length_append, List.length_set, List.length_cons, List.length_nil]; omega)) only [go_sem, ↓reduceIte, Nat.reduceEqDiff, reduceCtorEq]; rfl) ?_
    have tr : ∀ a b c d e f g h i j k m n : AV, let l := lc_rballs_ok a b c d e f g h i j; trim ((6,n)::(20,m)::(19,k)::l) l = [(0,a),(1,b),(4,c),(6,n),(14,e),(15,f),(16,g),(17,h),(18,i),(30,j)] := by intros; rfl
    refine R_nil (tr ..) ?_; clear tr
    refine then_n ?_
    refine at_seq rfl ?_
    refine at_seq rfl ?_
    refine rg rfl ?_
    refine Rq ?_
    refine Rq ?_
    refine Rcall ?_
    refine ACall_eq (smallf_ok _ _ _) ?_
    refine Rq ?_
    refine Rq ?_
    refine Rp_split (fun h4 => ?_) (fun h4 => ?_)
    ·
     try simp only [decide_eq_true_eq, decide_eq_false_iff_not, Bool.not_eq_true', Bool.not_eq_false', beq_iff_eq, beq_eq_false_iff_ne, ne_eq] at h4
     refine Rn ?_
     refine Rn ?_
     refine Rn ?_
     refine Rn ?_
     refine Rq ?_
     have tr : ∀ a b c d e f g h i j k m n o p q r s t u : AV, let l := lc_rballs_ok a b c d e f g h i j; trim ((30,u)::(29,t)::(28,s)::(27,r)::(26,q)::(25,p)::(24,o)::(23,n)::(22,m)::(21,k)::l) l = [(0,a),(1,b),(4,c),(6,d),(14,e),(15,f),(16,g),(17,h),(18,i),(30,u)] := by intros; rfl
     refine R_nil (tr ..) ?_; clear tr
     refine then_n ?_
     refine cdt ?_
     refine at_seq rfl ?_
     refine rg rfl ?_
     refine Rq ?_
     have tr : ∀ a b c d e f g h i j k : AV, let l := lc_rballs_ok a b c d e f g h i j; trim ((4,k)::l) l = [(0,a),(1,b),(4,k),(6,d),(14,e),(15,f),(16,g),(17,h),(18,i),(30,j)] := by intros; rfl
     refine R_nil (tr ..) ?_; clear tr
     refine then_n ?_
     refine at_ret rfl ?_
     refine then_r ?_
     refine blk_r ?_
     refine then_r ?_
     refine then_r ?_
     refine blk_r ?_
     refine then_r ?_
     refine fpure ?_
     refine ⟨?_, rfl⟩
     rw [balls_b (i := u) (by omega) (.inl (by first | assumption | (exact Decidable.not_not.mp (by assumption))))]
    ·
     try simp only [decide_eq_true_eq, decide_eq_false_iff_not, Bool.not_eq_true', Bool.not_eq_false', beq_iff_eq, beq_eq_false_iff_ne, ne_eq] at h4
     refine Ry ?_
     refine Rq ?_
     refine Ry ?_
     refine Rq ?_
     refine Ry ?_
     refine Rcall ?_
     refine ACall_eq (smallf_ok _ _ _) ?_
     refine Ry ?_
     refine Rq ?_
     refine Rq ?_
     have tr : ∀ a b c d e f g h i j k m n o p q r s t u : AV, let l := lc_rballs_ok a b c d e f g h i j; trim ((30,u)::(29,t)::(28,s)::(27,r)::(26,q)::(25,p)::(24,o)::(23,n)::(22,m)::(21,k)::l) l = [(0,a),(1,b),(4,c),(6,d),(14,e),(15,f),(16,g),(17,h),(18,i),(30,u)] := by intros; rfl
     refine R_nil (tr ..) ?_; clear tr
     refine then_n ?_
     refine cdd (fun h5 => ?_) (fun h5 => ?_)
     ·
      try simp only [decide_eq_true_eq, decide_eq_false_iff_not, Bool.not_eq_true', Bool.not_eq_false', beq_iff_eq, beq_eq_false_iff_ne, ne_eq] at h5
      refine at_seq rfl ?_
      refine rg rfl ?_
      refine Rq ?_
      have tr : ∀ a b c d e f g h i j k : AV, let l := lc_rballs_ok a b c d e f g h i j; trim ((4,k)::l) l = [(0,a),(1,b),(4,k),(6,d),(14,e),(15,f),(16,g),(17,h),(18,i),(30,j)] := by intros; rfl
      refine R_nil (tr ..) ?_; clear tr
      refine then_n ?_
      refine at_ret rfl ?_
      refine then_r ?_
      refine blk_r ?_
      refine then_r ?_
      refine then_r ?_
      refine blk_r ?_
      refine then_r ?_
      refine fpure ?_
      refine ⟨?_, rfl⟩
      rw [balls_b (i := u) (by omega) (.inr (by first | assumption | (exact Decidable.not_not.mp (by assumption))))]
     ·
      try simp only [decide_eq_true_eq, decide_eq_false_iff_not, Bool.not_eq_true', Bool.not_eq_false', beq_iff_eq, beq_eq_false_iff_ne, ne_eq] at h5
      refine at_skip rfl ?_
      refine then_n ?_
      refine rg rfl ?_
      have hb9 : 0 ≤ (gt l u).b ∧ (gt l u).b ≤ 2147483648 := by
        have h7 : ¬ bOut (gt l u).b := by assumption
        unfold bOut at h7
        omega
      have ha9 : 0 ≤ (gt l u).a ∧ (gt l u).a ≤ 2147483648 := by
        have h7 : ¬ bOut (gt l u).a := by assumption
        unfold bOut at h7
        omega
      refine Rq ?_
      refine Rq ?_
      refine Rq ?_
      refine Rq ?_
      refine Rq ?_
      refine Rq ?_
      refine Rq ?_
      refine Rq ?_
      have tr : ∀ a b c d e f g h i j k m n o p q r s : AV, let l := lc_rballs_ok a b c d e f g h i j; trim ((0,s)::(37,r)::(36,q)::(35,p)::(34,o)::(33,n)::(32,m)::(31,k)::l) l = [(0,s),(1,b),(4,c),(6,d),(14,e),(15,f),(16,g),(17,h),(18,i),(30,j)] := by intros; rfl
      refine R_nil (tr ..) ?_; clear tr
      refine blk_n ?_
      refine then_n ?_
      refine rg rfl ?_
      refine Rq ?_
      refine Rq ?_
      have tr : ∀ a b c d e f g h i j k m : AV, let l := lc_rballs_ok a b c d e f g h i j; trim ((17,m)::(38,k)::l) l = [(0,a),(1,b),(4,c),(6,d),(14,e),(15,f),(16,g),(17,m),(18,i),(30,j)] := by intros; rfl
      refine R_nil (tr ..) ?_; clear tr
      refine then_n ?_
      exact ⟨_, _, ⟨u + 1, n - ((gt l u).b - (gt l u).a), X ++ [some (stC (gt l u))], _, _, _, _, rfl, rfl, by simp; rfl, by omega, by (rw [dsum, hn]; omega), by exact all_step2 hq (by rintro (hh | hh); all_goals first | (exact absurd hh (by assumption)) | (simp_all; done))⟩, by rfl, by omega⟩
   ·
    try simp only [decide_eq_true_eq, decide_eq_false_iff_not, Bool.not_eq_true', Bool.not_eq_false', beq_iff_eq, beq_eq_false_iff_ne, ne_eq] at h3
    refine at_exit rfl ?_
    refine then_x ?_
    refine then_x ?_
    refine blk_x ?_
    refine then_n ?_
    refine at_seq rfl ?_
    refine rg rfl ?_
    refine Rq ?_
    refine Rq ?_
    refine Rq ?_
    have tr : ∀ a b c d e f g h i j k m n : AV, let l := lc_rballs_ok a b c d e f g h i j; trim ((4,n)::(40,m)::(39,k)::l) l = [(0,a),(1,b),(4,n),(6,d),(14,e),(15,f),(16,g),(17,h),(18,i),(30,j)] := by intros; rfl
    refine R_nil (tr ..) ?_; clear tr
    refine then_n ?_
    refine at_ret rfl ?_
    refine fpure ?_
    refine ⟨?_, rfl⟩
    obtain hul : l.length = u := by first | omega | (simp; omega)
    rw [balls_c (fun hh => hh.elim hbo (by omega)) (fun i hi => hq i (by rw [← hul]; exact hi)), hul, ← hn]

end Go.Proofs.Ytaoondlakhocnaa
