/-
  Texts of TopRace, part 10 of 16. Walks of chapters 52 and 53. The steps are written by program (walk.py).
-/
import Derived.Test.YtdicnojnkbmdlaaKTopRace8
import Derived.Test.YtdicnojnkbmdlaaKTopRace5
import Derived.Test.YtdicnojnkbmdlaaKTopRace4
import Derived.Test.YtdicnojnkbmdlaaKTopRace7
section
set_option linter.unusedSimpArgs false
set_option linter.unusedVariables false
set_option maxHeartbeats 40000000
set_option maxRecDepth 4000
namespace Go.Proofs.Ytdicnojnkbmdlaa
open Go Go.Am

abbrev lc_max72_ok (a b c d e f : AV) : Env := [(0,a),(2,b),(3,c),(4,d),(7,e),(15,f)]
theorem max72_ok (lim : Nat) (H : Heap) (o : List Int) (h0 : 0 < o.length) (h1 : o.length ≤ 100000) :
    ACall sig lim 72 [intsAV o] H fun r H' => (∃ m : Int, r = AV.i m ∧ (∀ k, k < o.length → gt o k ≤ m) ∧ ∃ k, k < o.length ∧ gt o k = m) ∧ H' = H := by
 refine ACall_pure (fa := fa72) rfl rfl rfl rfl ?_
 have tr : ∀ a0 : AV, env0 fa72.keep [a0] = [(0,a0),(2,.any),(3,.any),(4,.any),(7,.any),(15,.any)] := fun a0 => rfl
 refine W_to (tr _) ?_; clear tr
 refine at_seq rfl ?_
 refine rg rfl ?_
 refine Rq ?_
 have tr : ∀ a b c d e f g : AV, let l := lc_max72_ok a b c d e f; trim ((2,g)::l) l = [(0,a),(2,g),(3,c),(4,d),(7,e),(15,f)] := by intros; rfl
 refine R_nil (tr ..) ?_; clear tr
 refine then_n ?_
 refine at_seq rfl ?_
 refine at_seq rfl ?_
 refine rg rfl ?_
 refine Rq ?_
 refine Rq ?_
 refine Rq ?_
 have tr : ∀ a b c d e f g h i : AV, let l := lc_max72_ok a b c d e f; trim ((7,i)::(6,h)::(5,g)::l) l = [(0,a),(2,b),(3,c),(4,d),(7,i),(15,f)] := by intros; rfl
 refine R_nil (tr ..) ?_; clear tr
 refine then_n ?_
 refine cdd (fun h1 => ?_) (fun h1 => ?_)
 ·
  try simp only [decide_eq_true_eq, decide_eq_false_iff_not, Bool.not_eq_true', Bool.not_eq_false', beq_iff_eq, beq_eq_false_iff_ne, ne_eq] at h1
  omega
 ·
  try simp only [decide_eq_true_eq, decide_eq_false_iff_not, Bool.not_eq_true', Bool.not_eq_false', beq_iff_eq, beq_eq_false_iff_ne, ne_eq] at h1
  refine at_skip rfl ?_
  refine then_n ?_
  refine at_seq rfl ?_
  refine rg rfl ?_
  refine Rq ?_
  refine Rq ?_
  refine Rq ?_
  refine Rq ?_
  have tr : ∀ a b c d e f g h i j : AV, let l := lc_max72_ok a b c d e f; trim ((3,j)::(11,i)::(10,h)::(9,g)::l) l = [(0,a),(2,b),(3,j),(4,d),(7,e),(15,f)] := by intros; rfl
  refine R_nil (tr ..) ?_; clear tr
  refine then_n ?_
  refine at_seq rfl ?_
  refine at_seq rfl ?_
  refine rg rfl ?_
  refine Rq ?_
  have tr : ∀ a b c d e f g : AV, let l := lc_max72_ok a b c d e f; trim ((4,g)::l) l = [(0,a),(2,b),(3,c),(4,g),(7,e),(15,f)] := by intros; rfl
  refine R_nil (tr ..) ?_; clear tr
  refine then_n ?_
  refine at_block rfl ?_
  refine loop_n rfl (fun mm kv H' => ∃ u : Nat, ∃ m : Int, ∃ x15 : AV, (kv = [(3, AV.i m), (4, AV.i u), (15, x15)]) ∧ (mm = o.length - u) ∧ (H' = H) ∧ (1 ≤ u) ∧ (u ≤ o.length) ∧ (∀ k, k < u → gt o k ≤ m) ∧ (∃ k, k < u ∧ gt o k = m)) ⟨1, (gt o 0), _, rfl, rfl, rfl, by omega, by omega, by intro k hk; rw [show k = 0 by omega]; exact Int.le_refl _, by exact ⟨0, by omega, rfl⟩⟩ (by rfl) ?_
  rintro mm kv H' ⟨u, m, x15, rfl, rfl, rfl, hu1, hu, hq, hx⟩
  have tr : ∀ a b c d e f g h i : AV, upd [(0,a),(2,b),(3,c),(4,d),(7,e),(15,f)] [(3,g),(4,h),(15,i)] = [(0,a),(2,b),(3,g),(4,h),(7,e),(15,i)] := by intros; rfl
  refine W_to (tr ..) ?_; clear tr
  refine at_seq rfl ?_
  refine at_seq rfl ?_
  refine rg rfl ?_
  refine Rq ?_
  refine Rq ?_
  refine Rq ?_
  refine Rq ?_
  have tr : ∀ a b c d e f g h i j : AV, let l := lc_max72_ok a b c d e f; trim ((15,j)::(14,i)::(13,h)::(12,g)::l) l = [(0,a),(2,b),(3,c),(4,d),(7,e),(15,j)] := by intros; rfl
  refine R_nil (tr ..) ?_; clear tr
  refine then_n ?_
  refine cdd (fun h2 => ?_) (fun h2 => ?_)
  ·
   try simp only [decide_eq_true_eq, decide_eq_false_iff_not, Bool.not_eq_true', Bool.not_eq_false', beq_iff_eq, beq_eq_false_iff_ne, ne_eq] at h2
   refine at_skip rfl ?_
   refine then_n ?_
   refine at_seq rfl ?_
   refine at_block rfl ?_
   refine rg rfl ?_
   refine Rq ?_
   refine Rq ?_
   refine Rq ?_
   refine Rq ?_
   refine Rq ?_
   refine Rq ?_
   refine Rq ?_
   have tr : ∀ a b c d e f g h i j k m n : AV, let l := lc_max72_ok a b c d e f; trim ((3,n)::(23,m)::(22,k)::(21,j)::(20,i)::(19,h)::(18,g)::l) l = [(0,a),(2,b),(3,n),(4,d),(7,e),(15,f)] := by intros; rfl
   refine R_nil (tr ..) ?_; clear tr
   refine blk_n ?_
   refine then_n ?_
   refine rg rfl ?_
   refine Rq ?_
   refine Rq ?_
   refine Rq ?_
   have tr : ∀ a b c d e f g h i : AV, let l := lc_max72_ok a b c d e f; trim ((4,i)::(17,h)::(16,g)::l) l = [(0,a),(2,b),(3,c),(4,i),(7,e),(15,f)] := by intros; rfl
   refine R_nil (tr ..) ?_; clear tr
   refine then_n ?_
   exact ⟨_, _, ⟨u + 1, (max m (gt o u)), _, rfl, rfl, rfl, by omega, by omega, by intro k hk; by_cases hku : k = u; (subst hku; omega); (have := hq k (by omega); omega), by obtain ⟨k, hk, hkm⟩ := hx; by_cases hmm : m ≤ gt o u; exact ⟨u, by omega, by omega⟩; exact ⟨k, by omega, by omega⟩⟩, by rfl, by omega⟩
  ·
   try simp only [decide_eq_true_eq, decide_eq_false_iff_not, Bool.not_eq_true', Bool.not_eq_false', beq_iff_eq, beq_eq_false_iff_ne, ne_eq] at h2
   refine at_exit rfl ?_
   refine then_x ?_
   refine then_x ?_
   refine blk_x ?_
   refine then_n ?_
   refine at_seq rfl ?_
   refine rg rfl ?_
   refine Rq ?_
   refine Rq ?_
   have tr : ∀ a b c d e f g h : AV, let l := lc_max72_ok a b c d e f; trim ((2,h)::(24,g)::l) l = [(0,a),(2,h),(3,c),(4,d),(7,e),(15,f)] := by intros; rfl
   refine R_nil (tr ..) ?_; clear tr
   refine then_n ?_
   refine at_ret rfl ?_
   refine fpure ?_
   obtain ⟨k, hk, hkm⟩ := hx
   exact ⟨⟨_, rfl, fun k hk => hq k (by omega), k, by omega, hkm⟩, rfl⟩

abbrev lc_index79_ok (a b c d e f g h : AV) : Env := [(0,a),(1,b),(4,c),(5,d),(7,e),(8,f),(9,g),(16,h)]
theorem index79_ok (lim : Nat) (H : Heap) (m : List Int) (x : Int) (hm : m.length ≤ 100000) :
    ACall sig lim 79 [intsAV m, AV.i x] H fun r H' => (∃ k : Int, r = AV.i k ∧ (0 ≤ k ↔ x ∈ m)) ∧ H' = H := by
 refine ACall_pure (fa := fa79) rfl rfl rfl rfl ?_
 have tr : ∀ a0 a1 : AV, env0 fa79.keep [a0, a1] = [(0,a0),(1,a1),(4,.any),(5,.any),(7,.any),(8,.any),(9,.any),(16,.any)] := fun a0 a1 => rfl
 refine W_to (tr _ _) ?_; clear tr
 refine at_seq rfl ?_
 refine rg rfl ?_
 refine Rq ?_
 have tr : ∀ a b c d e f g h i : AV, let l := lc_index79_ok a b c d e f g h; trim ((4,i)::l) l = [(0,a),(1,b),(4,i),(5,d),(7,e),(8,f),(9,g),(16,h)] := by intros; rfl
 refine R_nil (tr ..) ?_; clear tr
 refine then_n ?_
 refine at_seq rfl ?_
 refine at_seq rfl ?_
 refine rg rfl ?_
 refine Rq ?_
 refine Rq ?_
 refine Rq ?_
 have tr : ∀ a b c d e f g h i j k : AV, let l := lc_index79_ok a b c d e f g h; trim ((8,k)::(7,j)::(6,i)::l) l = [(0,a),(1,b),(4,c),(5,d),(7,j),(8,k),(9,g),(16,h)] := by intros; rfl
 refine R_nil (tr ..) ?_; clear tr
 refine then_n ?_
 refine at_block rfl ?_
 refine loop_n rfl (fun mm kv H' => ∃ u : Nat, ∃ x4 x5 x9 x16 : AV, (kv = [(4, x4), (5, x5), (8, AV.i u), (9, x9), (16, x16)]) ∧ (mm = m.length - u) ∧ (H' = H) ∧ (u ≤ m.length) ∧ (∀ i, i < u → x ≠ gt m i)) ⟨0, _, _, _, _, rfl, rfl, rfl, by omega, by intro i hi; omega⟩ (by rfl) ?_
 rintro mm kv H' ⟨u, x4, x5, x9, x16, rfl, rfl, rfl, hu, hq⟩
 have tr : ∀ a b c d e f g h i j k m n : AV, upd [(0,a),(1,b),(4,c),(5,d),(7,e),(8,f),(9,g),(16,h)] [(4,i),(5,j),(8,k),(9,m),(16,n)] = [(0,a),(1,b),(4,i),(5,j),(7,e),(8,k),(9,m),(16,n)] := by intros; rfl
 refine W_to (tr ..) ?_; clear tr
 refine at_seq rfl ?_
 refine rg rfl ?_
 refine Rq ?_
 have tr : ∀ a b c d e f g h i : AV, let l := lc_index79_ok a b c d e f g h; trim ((9,i)::l) l = [(0,a),(1,b),(4,c),(5,d),(7,e),(8,f),(9,i),(16,h)] := by intros; rfl
 refine R_nil (tr ..) ?_; clear tr
 refine then_n ?_
 refine at_seq rfl ?_
 refine cdd (fun h1 => ?_) (fun h1 => ?_)
 ·
  try simp only [decide_eq_true_eq, decide_eq_false_iff_not, Bool.not_eq_true', Bool.not_eq_false', beq_iff_eq, beq_eq_false_iff_ne, ne_eq] at h1
  refine at_skip rfl ?_
  refine then_n ?_
  refine at_seq rfl ?_
  refine at_block rfl ?_
  refine at_seq rfl ?_
  refine rg rfl ?_
  refine Rq ?_
  refine Rq ?_
  have tr : ∀ a b c d e f g h i j : AV, let l := lc_index79_ok a b c d e f g h; trim ((5,j)::(10,i)::l) l = [(0,a),(1,b),(4,c),(5,j),(7,e),(8,f),(9,g),(16,h)] := by intros; rfl
  refine R_nil (tr ..) ?_; clear tr
  refine then_n ?_
  refine at_seq rfl ?_
  refine rg rfl ?_
  refine Rq ?_
  refine Rq ?_
  refine Rq ?_
  refine Rq ?_
  refine Rq ?_
  refine Rq ?_
  have tr : ∀ a b c d e f g h i j k m n o : AV, let l := lc_index79_ok a b c d e f g h; trim ((16,o)::(15,n)::(14,m)::(13,k)::(12,j)::(11,i)::l) l = [(0,a),(1,b),(4,c),(5,d),(7,e),(8,f),(9,g),(16,o)] := by intros; rfl
  refine R_nil (tr ..) ?_; clear tr
  refine then_n ?_
  refine cdd (fun h2 => ?_) (fun h2 => ?_)
  ·
   try simp only [decide_eq_true_eq, decide_eq_false_iff_not, Bool.not_eq_true', Bool.not_eq_false', beq_iff_eq, beq_eq_false_iff_ne, ne_eq] at h2
   refine at_seq rfl ?_
   refine rg rfl ?_
   refine Rq ?_
   refine Rq ?_
   have tr : ∀ a b c d e f g h i j : AV, let l := lc_index79_ok a b c d e f g h; trim ((4,j)::(17,i)::l) l = [(0,a),(1,b),(4,j),(5,d),(7,e),(8,f),(9,g),(16,h)] := by intros; rfl
   refine R_nil (tr ..) ?_; clear tr
   refine then_n ?_
   refine at_ret rfl ?_
   refine blk_r ?_
   refine then_r ?_
   refine then_r ?_
   refine blk_r ?_
   refine then_r ?_
   refine fpure ?_
   exact ⟨⟨_, rfl, fun _ => by rw [show x = gt m u by omega]; exact gt_mem (by omega), fun _ => by omega⟩, rfl⟩
  ·
   try simp only [decide_eq_true_eq, decide_eq_false_iff_not, Bool.not_eq_true', Bool.not_eq_false', beq_iff_eq, beq_eq_false_iff_ne, ne_eq] at h2
   refine at_skip rfl ?_
   refine blk_n ?_
   refine then_n ?_
   refine rg rfl ?_
   refine Rq ?_
   refine Rq ?_
   have tr : ∀ a b c d e f g h i j : AV, let l := lc_index79_ok a b c d e f g h; trim ((8,j)::(18,i)::l) l = [(0,a),(1,b),(4,c),(5,d),(7,e),(8,j),(9,g),(16,h)] := by intros; rfl
   refine R_nil (tr ..) ?_; clear tr
   refine then_n ?_
   exact ⟨_, _, ⟨u + 1, _, _, _, _, rfl, rfl, rfl, by omega, by exact all_step hq (by omega)⟩, by rfl, by omega⟩
 ·
  try simp only [decide_eq_true_eq, decide_eq_false_iff_not, Bool.not_eq_true', Bool.not_eq_false', beq_iff_eq, beq_eq_false_iff_ne, ne_eq] at h1
  refine at_exit rfl ?_
  refine then_x ?_
  refine then_x ?_
  refine blk_x ?_
  refine then_n ?_
  refine at_seq rfl ?_
  refine rg rfl ?_
  refine Rq ?_
  have tr : ∀ a b c d e f g h i : AV, let l := lc_index79_ok a b c d e f g h; trim ((4,i)::l) l = [(0,a),(1,b),(4,i),(5,d),(7,e),(8,f),(9,g),(16,h)] := by intros; rfl
  refine R_nil (tr ..) ?_; clear tr
  refine then_n ?_
  refine at_ret rfl ?_
  refine fpure ?_
  refine ⟨⟨_, rfl, fun hh => by omega, fun hh => ?_⟩, rfl⟩
  obtain ⟨i, hi, he⟩ := List.mem_iff_getElem.1 hh
  exact absurd (by rw [gt_eq _ _ hi]; exact he.symm) (hq i (by omega))

abbrev lc_contains73_ok (a b c : AV) : Env := [(0,a),(1,b),(4,c)]
theorem contains73_ok (lim : Nat) (H : Heap) (m : List Int) (x : Int) (hm : m.length ≤ 100000) :
    ACall sig lim 73 [intsAV m, AV.i x] H fun r H' => r = .v (.bool (decide (x ∈ m))) ∧ H' = H := by
 refine ACall_pure (fa := fa73) rfl rfl rfl rfl ?_
 have tr : ∀ a0 a1 : AV, env0 fa73.keep [a0, a1] = [(0,a0),(1,a1),(4,.any)] := fun a0 a1 => rfl
 refine W_to (tr _ _) ?_; clear tr
 refine at_seq rfl ?_
 refine rg rfl ?_
 refine Rq ?_
 have tr : ∀ a b c d : AV, let l := lc_contains73_ok a b c; trim ((4,d)::l) l = [(0,a),(1,b),(4,d)] := by intros; rfl
 refine R_nil (tr ..) ?_; clear tr
 refine then_n ?_
 refine at_seq rfl ?_
 refine rg rfl ?_
 refine Rq ?_
 refine Rq ?_
 refine Rcall ?_
 refine ACall_mono (index79_ok _ _ m x hm) ?_
 rintro r H6 ⟨⟨k, rfl, hk⟩, rfl⟩
 refine Rq ?_
 refine Rq ?_
 have tr : ∀ a b c d e f g h : AV, let l := lc_contains73_ok a b c; trim ((4,h)::(8,g)::(7,f)::(6,e)::(5,d)::l) l = [(0,a),(1,b),(4,h)] := by intros; rfl
 refine R_nil (tr ..) ?_; clear tr
 refine then_n ?_
 refine at_ret rfl ?_
 refine fpure ?_
 refine ⟨?_, rfl⟩
 congr 2
 rw [decide_eq_decide]
 exact hk

abbrev lc_possible_ok (a b c d e f g h i : AV) : Env := [(0,a),(1,b),(2,c),(3,d),(5,e),(6,f),(7,g),(26,h),(37,i)]
theorem possible_ok (lim : Nat) (H : Heap) (P : List Int) (L : List Pr) (t : Int) (S R : List Int) (sa : AV) (hsa : IsA sa S) (g : ROK P L) (t0 : 0 ≤ t) (t1 : t < P.length) (hR : R.length ≤ 100000) (hS : S.length ≤ 100000) :
    ACall sig lim 57 [.agg (raceC P L), AV.i t, .agg [.v (.bool true), sa, intsAV R]] H fun r H' => r = AV.i (posS P L t S R) ∧ H' = H := by
 have q0 : True := trivial
 have q5 : True := trivial
 have g20 := g.n20
 have g2 := g.n2
 have gel := g.el
 refine ACall_pure (fa := fa57) rfl rfl rfl rfl ?_
 have tr : ∀ a0 a1 a2 : AV, env0 fa57.keep [a0, a1, a2] = [(0,a0),(1,a1),(2,a2),(3,.any),(5,.any),(6,.any),(7,.any),(26,.any),(37,.any)] := fun a0 a1 a2 => rfl
 refine W_to (tr _ _ _) ?_; clear tr
 refine at_seq rfl ?_
 refine rg rfl ?_
 refine A_box rfl (by simp (disch := first | omega | (simp only [List.length_map, List.length_append, List.length_set, List.length_cons, List.length_nil]; omega)) only [go_sem, ↓reduceIte, Nat.reduceEqDiff, reduceCtorEq] <;> rfl) ?_
 intro H1 n0
 have en0 := n0.len
 have q0 := n0.new
 refine A_box rfl (by simp (disch := first | omega | (simp only [List.length_map, List.length_append, List.length_set, List.length_cons, List.length_nil]; omega)) only [go_sem, ↓reduceIte, Nat.reduceEqDiff, reduceCtorEq, hsa.stor, Bool.and_self] <;> rfl) ?_
 intro H2 n1
 have en1 := n1.len
 have q0 := (n1.old _ (hget_lt q0)).trans q0
 have q5 := n1.new
 refine Rq ?_
 have tr : ∀ a b c d e f g h i j k m : AV, let l := lc_possible_ok a b c d e f g h i; trim ((6,m)::(5,k)::(3,j)::l) l = [(0,a),(1,b),(2,c),(3,j),(5,k),(6,m),(7,g),(26,h),(37,i)] := by intros; rfl
 refine R_nil (tr ..) ?_; clear tr
 refine then_n ?_
 refine at_seq rfl ?_
 refine at_seq rfl ?_
 refine rg rfl ?_
 refine Rq ?_
 refine R_q rfl (by simp (disch := first | omega | (simp only [List.length_map, List.length_append, List.length_set, List.length_cons, List.length_nil]; omega)) only [go_sem, ↓reduceIte, Nat.reduceEqDiff, reduceCtorEq, q0, q5] <;> rfl) ?_
 refine R_q rfl (by simp (disch := first | omega | (simp only [List.length_map, List.length_append, List.length_set, List.length_cons, List.length_nil]; omega)) only [go_sem, ↓reduceIte, Nat.reduceEqDiff, reduceCtorEq, q0, q5]; exact hsa.len) ?_
 refine Rq ?_
 refine Rq ?_
 refine Rp_split (fun h1 => ?_) (fun h1 => ?_)
 ·
  try simp only [decide_eq_true_eq, decide_eq_false_iff_not, Bool.not_eq_true', Bool.not_eq_false', beq_iff_eq, beq_eq_false_iff_ne, ne_eq] at h1
  refine Rn ?_
  refine Rn ?_
  refine Rn ?_
  refine Rn ?_
  refine Rn ?_
  refine Rn ?_
  refine Rn ?_
  refine Rq ?_
  refine Rq ?_
  refine Rn ?_
  refine Rn ?_
  refine Rn ?_
  refine Rn ?_
  refine Rq ?_
  have tr : ∀ a b c d e f g h i j k m n o p q r s t u v w x y z A B C : AV, let l := lc_possible_ok a b c d e f g h i; trim ((26,C)::(25,B)::(24,A)::(23,z)::(22,y)::(21,x)::(20,w)::(19,v)::(18,u)::(17,t)::(16,s)::(15,r)::(14,q)::(13,p)::(12,o)::(11,n)::(10,m)::(9,k)::(8,j)::l) l = [(0,a),(1,b),(2,c),(3,d),(5,e),(6,f),(7,g),(26,C),(37,i)] := by intros; rfl
  refine R_nil (tr ..) ?_; clear tr
  refine then_n ?_
  refine cdt ?_
  refine at_seq rfl ?_
  refine rg rfl ?_
  refine Rq ?_
  have tr : ∀ a b c d e f g h i j : AV, let l := lc_possible_ok a b c d e f g h i; trim ((6,j)::l) l = [(0,a),(1,b),(2,c),(3,d),(5,e),(6,j),(7,g),(26,h),(37,i)] := by intros; rfl
  refine R_nil (tr ..) ?_; clear tr
  refine then_n ?_
  refine at_ret rfl ?_
  refine then_r ?_
  refine fpure ?_
  refine ⟨?_, rfl⟩
  rw [posS_a (.inl (by omega))]
 ·
  try simp only [decide_eq_true_eq, decide_eq_false_iff_not, Bool.not_eq_true', Bool.not_eq_false', beq_iff_eq, beq_eq_false_iff_ne, ne_eq] at h1
  refine Ry ?_
  refine Rq ?_
  refine Ry ?_
  refine R_q rfl (by simp (disch := first | omega | (simp only [List.length_map, List.length_append, List.length_set, List.length_cons, List.length_nil]; omega)) only [go_sem, ↓reduceIte, Nat.reduceEqDiff, reduceCtorEq, q0, q5] <;> rfl) ?_
  refine Ry ?_
  refine Rq ?_
  refine Ry ?_
  refine Rq ?_
  refine Ry ?_
  refine R_q rfl (by simp (disch := first | omega | (simp only [List.length_map, List.length_append, List.length_set, List.length_cons, List.length_nil]; omega)) only [go_sem, ↓reduceIte, Nat.reduceEqDiff, reduceCtorEq, q0, q5] <;> rfl) ?_
  refine Ry ?_
  refine Rq ?_
  refine Ry ?_
  refine Rq ?_
  refine Rq ?_
  refine Rq ?_
  refine Rp_split (fun h2 => ?_) (fun h2 => ?_)
  ·
   try simp only [decide_eq_true_eq, decide_eq_false_iff_not, Bool.not_eq_true', Bool.not_eq_false', beq_iff_eq, beq_eq_false_iff_ne, ne_eq] at h2
   refine Rn ?_
   refine Rn ?_
   refine Rn ?_
   refine Rn ?_
   refine Rq ?_
   have tr : ∀ a b c d e f g h i j k m n o p q r s t u v w x y z A B C : AV, let l := lc_possible_ok a b c d e f g h i; trim ((26,C)::(25,B)::(24,A)::(23,z)::(22,y)::(21,x)::(20,w)::(19,v)::(18,u)::(17,t)::(16,s)::(15,r)::(14,q)::(13,p)::(12,o)::(11,n)::(10,m)::(9,k)::(8,j)::l) l = [(0,a),(1,b),(2,c),(3,d),(5,e),(6,f),(7,g),(26,C),(37,i)] := by intros; rfl
   refine R_nil (tr ..) ?_; clear tr
   refine then_n ?_
   refine cdt ?_
   refine at_seq rfl ?_
   refine rg rfl ?_
   refine Rq ?_
   have tr : ∀ a b c d e f g h i j : AV, let l := lc_possible_ok a b c d e f g h i; trim ((6,j)::l) l = [(0,a),(1,b),(2,c),(3,d),(5,e),(6,j),(7,g),(26,h),(37,i)] := by intros; rfl
   refine R_nil (tr ..) ?_; clear tr
   refine then_n ?_
   refine at_ret rfl ?_
   refine then_r ?_
   refine fpure ?_
   refine ⟨?_, rfl⟩
   rw [posS_a (.inr (.inl (by omega)))]
  ·
   try simp only [decide_eq_true_eq, decide_eq_false_iff_not, Bool.not_eq_true', Bool.not_eq_false', beq_iff_eq, beq_eq_false_iff_ne, ne_eq] at h2
   refine Ry ?_
   refine Rq ?_
   refine Ry ?_
   refine R_q rfl (by simp (disch := first | omega | (simp only [List.length_map, List.length_append, List.length_set, List.length_cons, List.length_nil]; omega)) only [go_sem, ↓reduceIte, Nat.reduceEqDiff, reduceCtorEq, q0, q5] <;> rfl) ?_
   refine Ry ?_
   refine Rcall ?_
   refine ACall_mono (valid_ok _ _ R (by omega)) ?_
   rintro r H6 ⟨⟨b, rfl, hb⟩, rfl⟩
   refine Ry ?_
   refine Rq ?_
   refine Rq ?_
   have tr : ∀ a b c d e f g h i j k m n o p q r s t u v w x y z A B C : AV, let l := lc_possible_ok a b c d e f g h i; trim ((26,C)::(25,B)::(24,A)::(23,z)::(22,y)::(21,x)::(20,w)::(19,v)::(18,u)::(17,t)::(16,s)::(15,r)::(14,q)::(13,p)::(12,o)::(11,n)::(10,m)::(9,k)::(8,j)::l) l = [(0,a),(1,b),(2,c),(3,d),(5,e),(6,f),(7,g),(26,C),(37,i)] := by intros; rfl
   refine R_nil (tr ..) ?_; clear tr
   refine then_n ?_
   refine cdd (fun h3 => ?_) (fun h3 => ?_)
   ·
    try simp only [decide_eq_true_eq, decide_eq_false_iff_not, Bool.not_eq_true', Bool.not_eq_false', beq_iff_eq, beq_eq_false_iff_ne, ne_eq] at h3
    refine at_seq rfl ?_
    refine rg rfl ?_
    refine Rq ?_
    have tr : ∀ a b c d e f g h i j : AV, let l := lc_possible_ok a b c d e f g h i; trim ((6,j)::l) l = [(0,a),(1,b),(2,c),(3,d),(5,e),(6,j),(7,g),(26,h),(37,i)] := by intros; rfl
    refine R_nil (tr ..) ?_; clear tr
    refine then_n ?_
    refine at_ret rfl ?_
    refine then_r ?_
    refine fpure ?_
    refine ⟨?_, rfl⟩
    rw [posS_a (.inr (.inr (fun hh => by have := hb.2 hh; simp_all)))]
   ·
    try simp only [decide_eq_true_eq, decide_eq_false_iff_not, Bool.not_eq_true', Bool.not_eq_false', beq_iff_eq, beq_eq_false_iff_ne, ne_eq] at h3
    refine at_skip rfl ?_
    refine then_n ?_
    refine at_seq rfl ?_
    refine rg rfl ?_
    have hro : resOK R := hb.1 (by assumption)
    have hpl := play_len P L R L.length
    refine R_q rfl (by simp (disch := first | omega | (simp only [List.length_map, List.length_append, List.length_set, List.length_cons, List.length_nil]; omega)) only [go_sem, ↓reduceIte, Nat.reduceEqDiff, reduceCtorEq, q0, q5] <;> rfl) ?_
    refine Rq ?_
    refine R_q rfl (by simp (disch := first | omega | (simp only [List.length_map, List.length_append, List.length_set, List.length_cons, List.length_nil]; omega)) only [go_sem, ↓reduceIte, Nat.reduceEqDiff, reduceCtorEq, q0, q5] <;> rfl) ?_
    refine Rcall ?_
    refine ACall_eq (play_ok _ _ P L R g (by omega) hro) ?_
    refine Rq ?_
    have tr : ∀ a b c d e f g h i j k m n o : AV, let l := lc_possible_ok a b c d e f g h i; trim ((7,o)::(30,n)::(29,m)::(28,k)::(27,j)::l) l = [(0,a),(1,b),(2,c),(3,d),(5,e),(6,f),(7,o),(26,h),(37,i)] := by intros; rfl
    refine R_nil (tr ..) ?_; clear tr
    refine then_n ?_
    refine at_seq rfl ?_
    refine at_seq rfl ?_
    refine rd rfl rfl ?_
    refine Qq ?_
    refine Qcall ?_
    refine ACall_mono (max72_ok _ _ _ (by omega) (by omega)) ?_
    rintro r H7 ⟨⟨m, rfl, hmx1, hmx2⟩, rfl⟩
    refine ⟨rfl, ?_⟩
    refine Qq ?_
    refine Qq ?_
    refine Qq ?_
    refine Q_q rfl (by simp (disch := first | omega | (simp only [List.length_map, List.length_append, List.length_set, List.length_cons, List.length_nil]; omega)) only [go_sem, ↓reduceIte, Nat.reduceEqDiff, reduceCtorEq, q0, q5] <;> rfl) ?_
    refine Qq ?_
    refine Q_nil ?_
    have tr : ∀ a b c d e f g h i j k m n o p q : AV, let l := lc_possible_ok a b c d e f g h i; trim ((37,q)::(36,p)::(35,o)::(34,n)::(33,m)::(32,k)::(31,j)::l) l = [(0,a),(1,b),(2,c),(3,d),(5,e),(6,f),(7,g),(26,h),(37,q)] := by intros; rfl
    refine R_nil (tr ..) ?_; clear tr
    refine then_n ?_
    refine cdd (fun h4 => ?_) (fun h4 => ?_)
    ·
     try simp only [decide_eq_true_eq, decide_eq_false_iff_not, Bool.not_eq_true', Bool.not_eq_false', beq_iff_eq, beq_eq_false_iff_ne, ne_eq] at h4
     refine at_seq rfl ?_
     refine rg rfl ?_
     refine Rq ?_
     have tr : ∀ a b c d e f g h i j : AV, let l := lc_possible_ok a b c d e f g h i; trim ((6,j)::l) l = [(0,a),(1,b),(2,c),(3,d),(5,e),(6,j),(7,g),(26,h),(37,i)] := by intros; rfl
     refine R_nil (tr ..) ?_; clear tr
     refine then_n ?_
     refine at_ret rfl ?_
     refine then_r ?_
     refine fpure ?_
     refine ⟨?_, rfl⟩
     obtain ⟨k, hk, hkm⟩ := hmx2
     rw [posS_b (by omega) (by omega) hro ⟨k, by omega, by omega⟩]
    ·
     try simp only [decide_eq_true_eq, decide_eq_false_iff_not, Bool.not_eq_true', Bool.not_eq_false', beq_iff_eq, beq_eq_false_iff_ne, ne_eq] at h4
     refine at_skip rfl ?_
     refine then_n ?_
     refine at_seq rfl ?_
     refine rg rfl ?_
     refine Rq ?_
     have tr : ∀ a b c d e f g h i j : AV, let l := lc_possible_ok a b c d e f g h i; trim ((6,j)::l) l = [(0,a),(1,b),(2,c),(3,d),(5,e),(6,j),(7,g),(26,h),(37,i)] := by intros; rfl
     refine R_nil (tr ..) ?_; clear tr
     refine then_n ?_
     refine at_ret rfl ?_
     refine fpure ?_
     refine ⟨?_, rfl⟩
     rw [posS_c (by omega) (by omega) hro (fun ⟨k, hk, hkm⟩ => by have := hmx1 k (by omega); omega)]

abbrev lc_elim_ok (a b c d e f g h i j k m n o p q r s t u v w x : AV) : Env := [(0,a),(1,b),(2,c),(3,d),(4,e),(7,f),(8,g),(9,h),(10,i),(11,j),(13,k),(23,m),(25,n),(26,o),(27,p),(28,q),(59,r),(69,s),(70,t),(71,u),(72,v),(86,w),(96,x)]
theorem elim_ok (lim : Nat) (H : Heap) (P : List Int) (L : List Pr) (t G : Int) (S R : List Int) (ra : AV) (hra : IsA ra R) (g : ROK P L) (t0 : 0 ≤ t) (t1 : t < P.length) (hR : R.length ≤ 100000) (hS : S.length ≤ 1000) (hG0 : 0 ≤ G) (hG : G ≤ 2000) :
    ACall sig lim 58 [.agg (raceC P L), AV.i t, AV.i G, .agg [.v (.bool false), intsAV S, ra]] H fun r H' => r = AV.i (elimS P L t G S R) ∧ H' = H := by
 have q0 : True := trivial
 have q7 : True := trivial
 have qx : True := trivial
 have hfi : True := trivial
 have g20 := g.n20
 have g2 := g.n2
 have gel := g.el
 refine ACall_pure (fa := fa58) rfl rfl rfl rfl ?_
 have tr : ∀ a0 a1 a2 a3 : AV, env0 fa58.keep [a0, a1, a2, a3] = [(0,a0),(1,a1),(2,a2),(3,a3),(4,.any),(7,.any),(8,.any),(9,.any),(10,.any),(11,.any),(13,.any),(23,.any),(25,.any),(26,.any),(27,.any),(28,.any),(59,.any),(69,.any),(70,.any),(71,.any),(72,.any),(86,.any),(96,.any)] := fun a0 a1 a2 a3 => rfl
 refine W_to (tr _ _ _ _) ?_; clear tr
 refine at_seq rfl ?_
 refine rg rfl ?_
 refine A_box rfl (by simp (disch := first | omega | (simp only [List.length_map, List.length_append, List.length_set, List.length_cons, List.length_nil]; omega)) only [go_sem, ↓reduceIte, Nat.reduceEqDiff, reduceCtorEq] <;> rfl) ?_
 intro H1 n0
 have en0 := n0.len
 have q0 := n0.new
 refine A_box rfl (by simp (disch := first | omega | (simp only [List.length_map, List.length_append, List.length_set, List.length_cons, List.length_nil]; omega)) only [go_sem, ↓reduceIte, Nat.reduceEqDiff, reduceCtorEq, hra.stor, Bool.and_self] <;> rfl) ?_
 intro H2 n1
 have en1 := n1.len
 have q0 := (n1.old _ (hget_lt q0)).trans q0
 have q7 := n1.new
 refine Rq ?_
 have tr : ∀ a b c d e f g h i j k m n o p q r s t u v w x y z A : AV, let l := lc_elim_ok a b c d e f g h i j k m n o p q r s t u v w x; trim ((8,A)::(7,z)::(4,y)::l) l = [(0,a),(1,b),(2,c),(3,d),(4,y),(7,z),(8,A),(9,h),(10,i),(11,j),(13,k),(23,m),(25,n),(26,o),(27,p),(28,q),(59,r),(69,s),(70,t),(71,u),(72,v),(86,w),(96,x)] := by intros; rfl
 refine R_nil (tr ..) ?_; clear tr
 refine then_n ?_
 refine at_seq rfl ?_
 refine at_seq rfl ?_
 refine rg rfl ?_
 refine Rq ?_
 refine R_q rfl (by simp (disch := first | omega | (simp only [List.length_map, List.length_append, List.length_set, List.length_cons, List.length_nil]; omega)) only [go_sem, ↓reduceIte, Nat.reduceEqDiff, reduceCtorEq, q0, q7, qx, hfi] <;> rfl) ?_
 refine R_q rfl (by simp (disch := first | omega | (simp only [List.length_map, List.length_append, List.length_set, List.length_cons, List.length_nil]; omega)) only [go_sem, ↓reduceIte, Nat.reduceEqDiff, reduceCtorEq, q0, q7, qx, hfi]; exact hra.len) ?_
 refine Rq ?_
 refine Rq ?_
 refine Rp_split (fun h1 => ?_) (fun h1 => ?_)
 ·
  try simp only [decide_eq_true_eq, decide_eq_false_iff_not, Bool.not_eq_true', Bool.not_eq_false', beq_iff_eq, beq_eq_false_iff_ne, ne_eq] at h1
  refine Rn ?_
  refine Rn ?_
  refine Rn ?_
  refine Rn ?_
  refine Rq ?_
  have tr : ∀ a b c d e f g h i j k m n o p q r s t u v w x y z A B C D E F G H : AV, let l := lc_elim_ok a b c d e f g h i j k m n o p q r s t u v w x; trim ((23,H)::(22,G)::(21,F)::(20,E)::(19,D)::(18,C)::(17,B)::(16,A)::(15,z)::(14,y)::l) l = [(0,a),(1,b),(2,c),(3,d),(4,e),(7,f),(8,g),(9,h),(10,i),(11,j),(13,k),(23,H),(25,n),(26,o),(27,p),(28,q),(59,r),(69,s),(70,t),(71,u),(72,v),(86,w),(96,x)] := by intros; rfl
  refine R_nil (tr ..) ?_; clear tr
  refine then_n ?_
  refine cdt ?_
  refine at_seq rfl ?_
  refine rg rfl ?_
  refine Rq ?_
  have tr : ∀ a b c d e f g h i j k m n o p q r s t u v w x y : AV, let l := lc_elim_ok a b c d e f g h i j k m n o p q r s t u v w x; trim ((8,y)::l) l = [(0,a),(1,b),(2,c),(3,d),(4,e),(7,f),(8,y),(9,h),(10,i),(11,j),(13,k),(23,m),(25,n),(26,o),(27,p),(28,q),(59,r),(69,s),(70,t),(71,u),(72,v),(86,w),(96,x)] := by intros; rfl
  refine R_nil (tr ..) ?_; clear tr
  refine then_n ?_
  refine at_ret rfl ?_
  refine then_r ?_
  refine fpure ?_
  refine ⟨?_, rfl⟩
  rw [elimS_a (.inl (by omega))]
 ·
  try simp only [decide_eq_true_eq, decide_eq_false_iff_not, Bool.not_eq_true', Bool.not_eq_false', beq_iff_eq, beq_eq_false_iff_ne, ne_eq] at h1
  refine Ry ?_
  refine Rq ?_
  refine Ry ?_
  refine R_q rfl (by simp (disch := first | omega | (simp only [List.length_map, List.length_append, List.length_set, List.length_cons, List.length_nil]; omega)) only [go_sem, ↓reduceIte, Nat.reduceEqDiff, reduceCtorEq, q0, q7, qx, hfi] <;> rfl) ?_
  refine Ry ?_
  refine Rq ?_
  refine Ry ?_
  refine Rq ?_
  refine Rq ?_
  have tr : ∀ a b c d e f g h i j k m n o p q r s t u v w x y z A B C D E F G H : AV, let l := lc_elim_ok a b c d e f g h i j k m n o p q r s t u v w x; trim ((23,H)::(22,G)::(21,F)::(20,E)::(19,D)::(18,C)::(17,B)::(16,A)::(15,z)::(14,y)::l) l = [(0,a),(1,b),(2,c),(3,d),(4,e),(7,f),(8,g),(9,h),(10,i),(11,j),(13,k),(23,H),(25,n),(26,o),(27,p),(28,q),(59,r),(69,s),(70,t),(71,u),(72,v),(86,w),(96,x)] := by intros; rfl
  refine R_nil (tr ..) ?_; clear tr
  refine then_n ?_
  refine cdd (fun h2 => ?_) (fun h2 => ?_)
  ·
   try simp only [decide_eq_true_eq, decide_eq_false_iff_not, Bool.not_eq_true', Bool.not_eq_false', beq_iff_eq, beq_eq_false_iff_ne, ne_eq] at h2
   refine at_seq rfl ?_
   refine rg rfl ?_
   refine Rq ?_
   have tr : ∀ a b c d e f g h i j k m n o p q r s t u v w x y : AV, let l := lc_elim_ok a b c d e f g h i j k m n o p q r s t u v w x; trim ((8,y)::l) l = [(0,a),(1,b),(2,c),(3,d),(4,e),(7,f),(8,y),(9,h),(10,i),(11,j),(13,k),(23,m),(25,n),(26,o),(27,p),(28,q),(59,r),(69,s),(70,t),(71,u),(72,v),(86,w),(96,x)] := by intros; rfl
   refine R_nil (tr ..) ?_; clear tr
   refine then_n ?_
   refine at_ret rfl ?_
   refine then_r ?_
   refine fpure ?_
   refine ⟨?_, rfl⟩
   rw [elimS_a (.inr (.inl (by omega)))]
  ·
   try simp only [decide_eq_true_eq, decide_eq_false_iff_not, Bool.not_eq_true', Bool.not_eq_false', beq_iff_eq, beq_eq_false_iff_ne, ne_eq] at h2
   refine at_skip rfl ?_
   refine then_n ?_
   refine at_seq rfl ?_
   refine rg rfl ?_
   refine Rq ?_
   have tr : ∀ a b c d e f g h i j k m n o p q r s t u v w x y : AV, let l := lc_elim_ok a b c d e f g h i j k m n o p q r s t u v w x; trim ((9,y)::l) l = [(0,a),(1,b),(2,c),(3,d),(4,e),(7,f),(8,g),(9,y),(10,i),(11,j),(13,k),(23,m),(25,n),(26,o),(27,p),(28,q),(59,r),(69,s),(70,t),(71,u),(72,v),(86,w),(96,x)] := by intros; rfl
   refine R_nil (tr ..) ?_; clear tr
   refine then_n ?_
   refine at_seq rfl ?_
   refine at_seq rfl ?_
   refine rg rfl ?_
   refine Rq ?_
   refine R_q rfl (by simp (disch := first | omega | (simp only [List.length_map, List.length_append, List.length_set, List.length_cons, List.length_nil]; omega)) only [go_sem, ↓reduceIte, Nat.reduceEqDiff, reduceCtorEq, q0, q7, qx, hfi] <;> rfl) ?_
   refine Rq ?_
   refine Rq ?_
   have tr : ∀ a b c d e f g h i j k m n o p q r s t u v w x y z A B : AV, let l := lc_elim_ok a b c d e f g h i j k m n o p q r s t u v w x; trim ((27,B)::(26,A)::(25,z)::(24,y)::l) l = [(0,a),(1,b),(2,c),(3,d),(4,e),(7,f),(8,g),(9,h),(10,i),(11,j),(13,k),(23,m),(25,z),(26,A),(27,B),(28,q),(59,r),(69,s),(70,t),(71,u),(72,v),(86,w),(96,x)] := by intros; rfl
   refine R_nil (tr ..) ?_; clear tr
   refine then_n ?_
   refine at_block rfl ?_
   refine loop_n rfl (fun mm kv H' => ∃ i : Nat, ∃ c : Int, ∃ x8 x10 x11 x28 x59 : AV, (kv = [(8, x8), (9, AV.i c), (10, x10), (11, x11), (27, AV.i i), (28, x28), (59, x59)]) ∧ (mm = S.length - i) ∧ (H2 = H') ∧ (i ≤ S.length) ∧ (setOK t (S.take i) P.length) ∧ (c = sumS P S i)) ⟨0, 0, _, _, _, _, _, rfl, rfl, by rfl, by omega, by intro j hj; simp at hj, by rfl⟩ (by rfl) ?_
   rintro mm kv HX ⟨i, c, x8, x10, x11, x28, x59, rfl, rfl, hX, hi, hq, hc⟩
   have tr : ∀ a b c d e f g h i j k m n o p q r s t u v w x y z A B C D E : AV, upd [(0,a),(1,b),(2,c),(3,d),(4,e),(7,f),(8,g),(9,h),(10,i),(11,j),(13,k),(23,m),(25,n),(26,o),(27,p),(28,q),(59,r),(69,s),(70,t),(71,u),(72,v),(86,w),(96,x)] [(8,y),(9,z),(10,A),(11,B),(27,C),(28,D),(59,E)] = [(0,a),(1,b),(2,c),(3,d),(4,e),(7,f),(8,y),(9,z),(10,A),(11,B),(13,k),(23,m),(25,n),(26,o),(27,C),(28,D),(59,E),(69,s),(70,t),(71,u),(72,v),(86,w),(96,x)] := by intros; rfl
   refine W_to (tr ..) ?_; clear tr
   subst hX
   have hcr := sumS_rng (P := P) (S := S) g.pt i (fun j hj => setT_rng hq hi j hj)
   refine at_seq rfl ?_
   refine rg rfl ?_
   refine Rq ?_
   have tr : ∀ a b c d e f g h i j k m n o p q r s t u v w x y : AV, let l := lc_elim_ok a b c d e f g h i j k m n o p q r s t u v w x; trim ((28,y)::l) l = [(0,a),(1,b),(2,c),(3,d),(4,e),(7,f),(8,g),(9,h),(10,i),(11,j),(13,k),(23,m),(25,n),(26,o),(27,p),(28,y),(59,r),(69,s),(70,t),(71,u),(72,v),(86,w),(96,x)] := by intros; rfl
   refine R_nil (tr ..) ?_; clear tr
   refine then_n ?_
   refine at_seq rfl ?_
   refine cdd (fun h3 => ?_) (fun h3 => ?_)
   ·
    try simp only [decide_eq_true_eq, decide_eq_false_iff_not, Bool.not_eq_true', Bool.not_eq_false', beq_iff_eq, beq_eq_false_iff_ne, ne_eq] at h3
    refine at_skip rfl ?_
    refine then_n ?_
    refine at_seq rfl ?_
    refine at_block rfl ?_
    refine at_seq rfl ?_
    refine rg rfl ?_
    refine Rq ?_
    refine Rq ?_
    refine R_q rfl (by simp (disch := first | omega | (simp only [List.length_map, List.length_append, List.length_set, List.length_cons, List.length_nil]; omega)) only [go_sem, ↓reduceIte, Nat.reduceEqDiff, reduceCtorEq, q0, q7, qx, hfi] <;> rfl) ?_
    refine Rq ?_
    refine Rq ?_
    have tr : ∀ a b c d e f g h i j k m n o p q r s t u v w x y z A B C : AV, let l := lc_elim_ok a b c d e f g h i j k m n o p q r s t u v w x; trim ((11,C)::(10,B)::(31,A)::(30,z)::(29,y)::l) l = [(0,a),(1,b),(2,c),(3,d),(4,e),(7,f),(8,g),(9,h),(10,B),(11,C),(13,k),(23,m),(25,n),(26,o),(27,p),(28,q),(59,r),(69,s),(70,t),(71,u),(72,v),(86,w),(96,x)] := by intros; rfl
    refine R_nil (tr ..) ?_; clear tr
    refine then_n ?_
    refine at_seq rfl ?_
    refine at_seq rfl ?_
    refine rg rfl ?_
    refine Rq ?_
    refine Rq ?_
    refine Rq ?_
    refine Rp_split (fun h4 => ?_) (fun h4 => ?_)
    ·
     try simp only [decide_eq_true_eq, decide_eq_false_iff_not, Bool.not_eq_true', Bool.not_eq_false', beq_iff_eq, beq_eq_false_iff_ne, ne_eq] at h4
     refine Rn ?_
     refine Rn ?_
     refine Rn ?_
     refine Rn ?_
     refine Rn ?_
     refine Rq ?_
     refine Rq ?_
     refine Rn ?_
     refine Rn ?_
     refine Rn ?_
     refine Rq ?_
     refine Rq ?_
     refine Rn ?_
     refine Rn ?_
     refine Rn ?_
     refine Ru ?_
     refine Ru ?_
     refine Ru ?_
     refine Ru ?_
     refine Ru ?_
     refine Ru ?_
     have hfi : gt S ((i : Int) - 1).toNat = gt S (i - 1) := by rw [show ((i : Int) - 1).toNat = i - 1 by omega]
     refine Ru ?_
     refine Ru ?_
     refine Rn ?_
     refine Rq ?_
     have tr : ∀ a b c d e f g h i j k m n o p q r s t u v w x y z A B C D E F G H I J K L M N O P Q R S T U V W X Y Z : AV, let l := lc_elim_ok a b c d e f g h i j k m n o p q r s t u v w x; trim ((59,Z)::(58,Y)::(57,X)::(56,W)::(55,V)::(54,U)::(53,T)::(52,S)::(51,R)::(50,Q)::(49,P)::(48,O)::(47,N)::(46,M)::(45,L)::(44,K)::(43,J)::(42,I)::(41,H)::(40,G)::(39,F)::(38,E)::(37,D)::(36,C)::(35,B)::(34,A)::(33,z)::(32,y)::l) l = [(0,a),(1,b),(2,c),(3,d),(4,e),(7,f),(8,g),(9,h),(10,i),(11,j),(13,k),(23,m),(25,n),(26,o),(27,p),(28,q),(59,Z),(69,s),(70,t),(71,u),(72,v),(86,w),(96,x)] := by intros; rfl
     refine R_nil (tr ..) ?_; clear tr
     refine then_n ?_
     refine cdt ?_
     refine at_seq rfl ?_
     refine rg rfl ?_
     refine Rq ?_
     have tr : ∀ a b c d e f g h i j k m n o p q r s t u v w x y : AV, let l := lc_elim_ok a b c d e f g h i j k m n o p q r s t u v w x; trim ((8,y)::l) l = [(0,a),(1,b),(2,c),(3,d),(4,e),(7,f),(8,y),(9,h),(10,i),(11,j),(13,k),(23,m),(25,n),(26,o),(27,p),(28,q),(59,r),(69,s),(70,t),(71,u),(72,v),(86,w),(96,x)] := by intros; rfl
     refine R_nil (tr ..) ?_; clear tr
     refine then_n ?_
     refine at_ret rfl ?_
     refine then_r ?_
     refine blk_r ?_
     refine then_r ?_
     refine then_r ?_
     refine blk_r ?_
     refine then_r ?_
     refine fpure ?_
     refine ⟨?_, rfl⟩
     rw [elimS_a (.inr (.inr (fun hh => by have h7 := hh i (by omega); omega)))]
    ·
     try simp only [decide_eq_true_eq, decide_eq_false_iff_not, Bool.not_eq_true', Bool.not_eq_false', beq_iff_eq, beq_eq_false_iff_ne, ne_eq] at h4
     refine Ry ?_
     refine Rq ?_
     refine Ry ?_
     refine Rq ?_
     refine Ry ?_
     refine R_q rfl (by simp (disch := first | omega | (simp only [List.length_map, List.length_append, List.length_set, List.length_cons, List.length_nil]; omega)) only [go_sem, ↓reduceIte, Nat.reduceEqDiff, reduceCtorEq, q0, q7, qx, hfi] <;> rfl) ?_
     refine Ry ?_
     refine Rq ?_
     refine Ry ?_
     refine Rq ?_
     refine Rq ?_
     refine Rq ?_
     refine Rp_split (fun h5 => ?_) (fun h5 => ?_)
     ·
      try simp only [decide_eq_true_eq, decide_eq_false_iff_not, Bool.not_eq_true', Bool.not_eq_false', beq_iff_eq, beq_eq_false_iff_ne, ne_eq] at h5
      refine Rn ?_
      refine Rn ?_
      refine Rn ?_
      refine Rq ?_
      refine Rq ?_
      refine Rn ?_
      refine Rn ?_
      refine Rn ?_
      refine Ru ?_
      refine Ru ?_
      refine Ru ?_
      refine Ru ?_
      refine Ru ?_
      refine Ru ?_
      have hfi : gt S ((i : Int) - 1).toNat = gt S (i - 1) := by rw [show ((i : Int) - 1).toNat = i - 1 by omega]
      refine Ru ?_
      refine Ru ?_
      refine Rn ?_
      refine Rq ?_
      have tr : ∀ a b c d e f g h i j k m n o p q r s t u v w x y z A B C D E F G H I J K L M N O P Q R S T U V W X Y Z : AV, let l := lc_elim_ok a b c d e f g h i j k m n o p q r s t u v w x; trim ((59,Z)::(58,Y)::(57,X)::(56,W)::(55,V)::(54,U)::(53,T)::(52,S)::(51,R)::(50,Q)::(49,P)::(48,O)::(47,N)::(46,M)::(45,L)::(44,K)::(43,J)::(42,I)::(41,H)::(40,G)::(39,F)::(38,E)::(37,D)::(36,C)::(35,B)::(34,A)::(33,z)::(32,y)::l) l = [(0,a),(1,b),(2,c),(3,d),(4,e),(7,f),(8,g),(9,h),(10,i),(11,j),(13,k),(23,m),(25,n),(26,o),(27,p),(28,q),(59,Z),(69,s),(70,t),(71,u),(72,v),(86,w),(96,x)] := by intros; rfl
      refine R_nil (tr ..) ?_; clear tr
      refine then_n ?_
      refine cdt ?_
      refine at_seq rfl ?_
      refine rg rfl ?_
      refine Rq ?_
      have tr : ∀ a b c d e f g h i j k m n o p q r s t u v w x y : AV, let l := lc_elim_ok a b c d e f g h i j k m n o p q r s t u v w x; trim ((8,y)::l) l = [(0,a),(1,b),(2,c),(3,d),(4,e),(7,f),(8,y),(9,h),(10,i),(11,j),(13,k),(23,m),(25,n),(26,o),(27,p),(28,q),(59,r),(69,s),(70,t),(71,u),(72,v),(86,w),(96,x)] := by intros; rfl
      refine R_nil (tr ..) ?_; clear tr
      refine then_n ?_
      refine at_ret rfl ?_
      refine then_r ?_
      refine blk_r ?_
      refine then_r ?_
      refine then_r ?_
      refine blk_r ?_
      refine then_r ?_
      refine fpure ?_
      refine ⟨?_, rfl⟩
      rw [elimS_a (.inr (.inr (fun hh => by have h7 := hh i (by omega); omega)))]
     ·
      try simp only [decide_eq_true_eq, decide_eq_false_iff_not, Bool.not_eq_true', Bool.not_eq_false', beq_iff_eq, beq_eq_false_iff_ne, ne_eq] at h5
      refine Ry ?_
      refine Rq ?_
      refine Ry ?_
      refine Rq ?_
      refine Ry ?_
      refine Rq ?_
      refine Rq ?_
      refine Rq ?_
      refine Rp_split (fun h6 => ?_) (fun h6 => ?_)
      ·
       try simp only [decide_eq_true_eq, decide_eq_false_iff_not, Bool.not_eq_true', Bool.not_eq_false', beq_iff_eq, beq_eq_false_iff_ne, ne_eq] at h6
       refine Rn ?_
       refine Rn ?_
       refine Rn ?_
       refine Ru ?_
       refine Ru ?_
       refine Ru ?_
       refine Ru ?_
       refine Ru ?_
       refine Ru ?_
       have hfi : gt S ((i : Int) - 1).toNat = gt S (i - 1) := by rw [show ((i : Int) - 1).toNat = i - 1 by omega]
       refine Ru ?_
       refine Ru ?_
       refine Rn ?_
       refine Rq ?_
       have tr : ∀ a b c d e f g h i j k m n o p q r s t u v w x y z A B C D E F G H I J K L M N O P Q R S T U V W X Y Z : AV, let l := lc_elim_ok a b c d e f g h i j k m n o p q r s t u v w x; trim ((59,Z)::(58,Y)::(57,X)::(56,W)::(55,V)::(54,U)::(53,T)::(52,S)::(51,R)::(50,Q)::(49,P)::(48,O)::(47,N)::(46,M)::(45,L)::(44,K)::(43,J)::(42,I)::(41,H)::(40,G)::(39,F)::(38,E)::(37,D)::(36,C)::(35,B)::(34,A)::(33,z)::(32,y)::l) l = [(0,a),(1,b),(2,c),(3,d),(4,e),(7,f),(8,g),(9,h),(10,i),(11,j),(13,k),(23,m),(25,n),(26,o),(27,p),(28,q),(59,Z),(69,s),(70,t),(71,u),(72,v),(86,w),(96,x)] := by intros; rfl
       refine R_nil (tr ..) ?_; clear tr
       refine then_n ?_
       refine cdt ?_
       refine at_seq rfl ?_
       refine rg rfl ?_
       refine Rq ?_
       have tr : ∀ a b c d e f g h i j k m n o p q r s t u v w x y : AV, let l := lc_elim_ok a b c d e f g h i j k m n o p q r s t u v w x; trim ((8,y)::l) l = [(0,a),(1,b),(2,c),(3,d),(4,e),(7,f),(8,y),(9,h),(10,i),(11,j),(13,k),(23,m),(25,n),(26,o),(27,p),(28,q),(59,r),(69,s),(70,t),(71,u),(72,v),(86,w),(96,x)] := by intros; rfl
       refine R_nil (tr ..) ?_; clear tr
       refine then_n ?_
       refine at_ret rfl ?_
       refine then_r ?_
       refine blk_r ?_
       refine then_r ?_
       refine then_r ?_
       refine blk_r ?_
       refine then_r ?_
       refine fpure ?_
       refine ⟨?_, rfl⟩
       rw [elimS_a (.inr (.inr (fun hh => by have h7 := hh i (by omega); omega)))]
      ·
       try simp only [decide_eq_true_eq, decide_eq_false_iff_not, Bool.not_eq_true', Bool.not_eq_false', beq_iff_eq, beq_eq_false_iff_ne, ne_eq] at h6
       refine Ry ?_
       refine Rq ?_
       refine Ry ?_
       refine Rq ?_
       refine Ry ?_
       refine Rq ?_
       refine Rp_split (fun h7 => ?_) (fun h7 => ?_)
       ·
        try simp only [decide_eq_true_eq, decide_eq_false_iff_not, Bool.not_eq_true', Bool.not_eq_false', beq_iff_eq, beq_eq_false_iff_ne, ne_eq] at h7
        refine Ry ?_
        refine Rq ?_
        refine Ry ?_
        refine Rq ?_
        refine Ry ?_
        refine R_q rfl (by simp (disch := first | omega | (simp only [List.length_map, List.length_append, List.length_set, List.length_cons, List.length_nil]; omega)) only [go_sem, ↓reduceIte, Nat.reduceEqDiff, reduceCtorEq, q0, q7, qx, hfi] <;> rfl) ?_
        refine Ry ?_
        refine Rq ?_
        refine Ry ?_
        refine Rq ?_
        refine Ry ?_
        refine Rq ?_
        have hfi : gt S ((i : Int) - 1).toNat = gt S (i - 1) := by rw [show ((i : Int) - 1).toNat = i - 1 by omega]
        refine Ry ?_
        refine R_q rfl (by simp (disch := first | omega | (simp only [List.length_map, List.length_append, List.length_set, List.length_cons, List.length_nil]; omega)) only [go_sem, ↓reduceIte, Nat.reduceEqDiff, reduceCtorEq, q0, q7, qx, hfi] <;> rfl) ?_
        refine Ry ?_
        refine Rq ?_
        refine Ry ?_
        refine Rq ?_
        refine Rq ?_
        have tr : ∀ a b c d e f g h i j k m n o p q r s t u v w x y z A B C D E F G H I J K L M N O P Q R S T U V W X Y Z : AV, let l := lc_elim_ok a b c d e f g h i j k m n o p q r s t u v w x; trim ((59,Z)::(58,Y)::(57,X)::(56,W)::(55,V)::(54,U)::(53,T)::(52,S)::(51,R)::(50,Q)::(49,P)::(48,O)::(47,N)::(46,M)::(45,L)::(44,K)::(43,J)::(42,I)::(41,H)::(40,G)::(39,F)::(38,E)::(37,D)::(36,C)::(35,B)::(34,A)::(33,z)::(32,y)::l) l = [(0,a),(1,b),(2,c),(3,d),(4,e),(7,f),(8,g),(9,h),(10,i),(11,j),(13,k),(23,m),(25,n),(26,o),(27,p),(28,q),(59,Z),(69,s),(70,t),(71,u),(72,v),(86,w),(96,x)] := by intros; rfl
        refine R_nil (tr ..) ?_; clear tr
        refine then_n ?_
        refine cdd (fun h8 => ?_) (fun h8 => ?_)
        ·
         try simp only [decide_eq_true_eq, decide_eq_false_iff_not, Bool.not_eq_true', Bool.not_eq_false', beq_iff_eq, beq_eq_false_iff_ne, ne_eq] at h8
         refine at_seq rfl ?_
         refine rg rfl ?_
         refine Rq ?_
         have tr : ∀ a b c d e f g h i j k m n o p q r s t u v w x y : AV, let l := lc_elim_ok a b c d e f g h i j k m n o p q r s t u v w x; trim ((8,y)::l) l = [(0,a),(1,b),(2,c),(3,d),(4,e),(7,f),(8,y),(9,h),(10,i),(11,j),(13,k),(23,m),(25,n),(26,o),(27,p),(28,q),(59,r),(69,s),(70,t),(71,u),(72,v),(86,w),(96,x)] := by intros; rfl
         refine R_nil (tr ..) ?_; clear tr
         refine then_n ?_
         refine at_ret rfl ?_
         refine then_r ?_
         refine blk_r ?_
         refine then_r ?_
         refine then_r ?_
         refine blk_r ?_
         refine then_r ?_
         refine fpure ?_
         refine ⟨?_, rfl⟩
         rw [elimS_a (.inr (.inr (fun hh => by have h7 := hh i (by omega); have h8 := h7.2.2.2 (by omega); omega)))]
        ·
         try simp only [decide_eq_true_eq, decide_eq_false_iff_not, Bool.not_eq_true', Bool.not_eq_false', beq_iff_eq, beq_eq_false_iff_ne, ne_eq] at h8
         refine at_skip rfl ?_
         refine then_n ?_
         refine rg rfl ?_
         have hpx := g.pt (gt S i).toNat (by omega)
         refine Rq ?_
         refine Rq ?_
         refine R_q rfl (by simp (disch := first | omega | (simp only [List.length_map, List.length_append, List.length_set, List.length_cons, List.length_nil]; omega)) only [go_sem, ↓reduceIte, Nat.reduceEqDiff, reduceCtorEq, q0, q7, qx, hfi] <;> rfl) ?_
         refine Rq ?_
         refine Rq ?_
         refine R_q rfl (by simp (disch := first | omega | (simp only [List.length_map, List.length_append, List.length_set, List.length_cons, List.length_nil]; omega)) only [go_sem, ↓reduceIte, Nat.reduceEqDiff, reduceCtorEq, q0, q7, qx, hfi] <;> rfl) ?_
         refine Rq ?_
         refine Rq ?_
         have tr : ∀ a b c d e f g h i j k m n o p q r s t u v w x y z A B C D E F : AV, let l := lc_elim_ok a b c d e f g h i j k m n o p q r s t u v w x; trim ((9,F)::(66,E)::(65,D)::(64,C)::(63,B)::(62,A)::(61,z)::(60,y)::l) l = [(0,a),(1,b),(2,c),(3,d),(4,e),(7,f),(8,g),(9,F),(10,i),(11,j),(13,k),(23,m),(25,n),(26,o),(27,p),(28,q),(59,r),(69,s),(70,t),(71,u),(72,v),(86,w),(96,x)] := by intros; rfl
         refine R_nil (tr ..) ?_; clear tr
         refine blk_n ?_
         refine then_n ?_
         refine rg rfl ?_
         refine Rq ?_
         refine Rq ?_
         have tr : ∀ a b c d e f g h i j k m n o p q r s t u v w x y z : AV, let l := lc_elim_ok a b c d e f g h i j k m n o p q r s t u v w x; trim ((27,z)::(67,y)::l) l = [(0,a),(1,b),(2,c),(3,d),(4,e),(7,f),(8,g),(9,h),(10,i),(11,j),(13,k),(23,m),(25,n),(26,o),(27,z),(28,q),(59,r),(69,s),(70,t),(71,u),(72,v),(86,w),(96,x)] := by intros; rfl
         refine R_nil (tr ..) ?_; clear tr
         refine then_n ?_
         exact ⟨_, _, ⟨i + 1, (c + gt P (gt S i).toNat), _, _, _, _, _, rfl, rfl, by rfl, by omega, by exact setT_on hq (by omega) (by omega) (by omega) (by omega) (fun _ => by omega), by rw [sumS, hc]⟩, by rfl, by omega⟩
       ·
        try simp only [decide_eq_true_eq, decide_eq_false_iff_not, Bool.not_eq_true', Bool.not_eq_false', beq_iff_eq, beq_eq_false_iff_ne, ne_eq] at h7
        refine Rn ?_
        refine Rn ?_
        refine Rn ?_
        refine Rn ?_
        refine Rn ?_
        refine Rn ?_
        have hfi : gt S ((i : Int) - 1).toNat = gt S (i - 1) := by rw [show ((i : Int) - 1).toNat = i - 1 by omega]
        refine Rn ?_
        refine Rn ?_
        refine Ry ?_
        refine Rq ?_
        refine Rq ?_
        have tr : ∀ a b c d e f g h i j k m n o p q r s t u v w x y z A B C D E F G H I J K L M N O P Q R S T U V W X Y Z : AV, let l := lc_elim_ok a b c d e f g h i j k m n o p q r s t u v w x; trim ((59,Z)::(58,Y)::(57,X)::(56,W)::(55,V)::(54,U)::(53,T)::(52,S)::(51,R)::(50,Q)::(49,P)::(48,O)::(47,N)::(46,M)::(45,L)::(44,K)::(43,J)::(42,I)::(41,H)::(40,G)::(39,F)::(38,E)::(37,D)::(36,C)::(35,B)::(34,A)::(33,z)::(32,y)::l) l = [(0,a),(1,b),(2,c),(3,d),(4,e),(7,f),(8,g),(9,h),(10,i),(11,j),(13,k),(23,m),(25,n),(26,o),(27,p),(28,q),(59,Z),(69,s),(70,t),(71,u),(72,v),(86,w),(96,x)] := by intros; rfl
        refine R_nil (tr ..) ?_; clear tr
        refine then_n ?_
        refine cdf ?_
        refine at_skip rfl ?_
        refine then_n ?_
        refine rg rfl ?_
        have hpx := g.pt (gt S i).toNat (by omega)
        refine Rq ?_
        refine Rq ?_
        refine R_q rfl (by simp (disch := first | omega | (simp only [List.length_map, List.length_append, List.length_set, List.length_cons, List.length_nil]; omega)) only [go_sem, ↓reduceIte, Nat.reduceEqDiff, reduceCtorEq, q0, q7, qx, hfi] <;> rfl) ?_
        refine Rq ?_
        refine Rq ?_
        refine R_q rfl (by simp (disch := first | omega | (simp only [List.length_map, List.length_append, List.length_set, List.length_cons, List.length_nil]; omega)) only [go_sem, ↓reduceIte, Nat.reduceEqDiff, reduceCtorEq, q0, q7, qx, hfi] <;> rfl) ?_
        refine Rq ?_
        refine Rq ?_
        have tr : ∀ a b c d e f g h i j k m n o p q r s t u v w x y z A B C D E F : AV, let l := lc_elim_ok a b c d e f g h i j k m n o p q r s t u v w x; trim ((9,F)::(66,E)::(65,D)::(64,C)::(63,B)::(62,A)::(61,z)::(60,y)::l) l = [(0,a),(1,b),(2,c),(3,d),(4,e),(7,f),(8,g),(9,F),(10,i),(11,j),(13,k),(23,m),(25,n),(26,o),(27,p),(28,q),(59,r),(69,s),(70,t),(71,u),(72,v),(86,w),(96,x)] := by intros; rfl
        refine R_nil (tr ..) ?_; clear tr
        refine blk_n ?_
        refine then_n ?_
        refine rg rfl ?_
        refine Rq ?_
        refine Rq ?_
        have tr : ∀ a b c d e f g h i j k m n o p q r s t u v w x y z : AV, let l := lc_elim_ok a b c d e f g h i j k m n o p q r s t u v w x; trim ((27,z)::(67,y)::l) l = [(0,a),(1,b),(2,c),(3,d),(4,e),(7,f),(8,g),(9,h),(10,i),(11,j),(13,k),(23,m),(25,n),(26,o),(27,z),(28,q),(59,r),(69,s),(70,t),(71,u),(72,v),(86,w),(96,x)] := by intros; rfl
        refine R_nil (tr ..) ?_; clear tr
        refine then_n ?_
        exact ⟨_, _, ⟨i + 1, (c + gt P (gt S i).toNat), _, _, _, _, _, rfl, rfl, by rfl, by omega, by exact setT_on hq (by omega) (by omega) (by omega) (by omega) (fun _ => by omega), by rw [sumS, hc]⟩, by rfl, by omega⟩
   ·
    try simp only [decide_eq_true_eq, decide_eq_false_iff_not, Bool.not_eq_true', Bool.not_eq_false', beq_iff_eq, beq_eq_false_iff_ne, ne_eq] at h3
    refine at_exit rfl ?_
    refine then_x ?_
    refine then_x ?_
    refine blk_x ?_
    refine then_n ?_
    refine at_seq rfl ?_
    refine at_seq rfl ?_
    refine rg rfl ?_
    obtain rfl : i = S.length := by omega
    have hso : setOK t S P.length := by rwa [List.take_length] at hq
    have hcr2 := hcr
    refine Rq ?_
    refine R_q rfl (by simp (disch := first | omega | (simp only [List.length_map, List.length_append, List.length_set, List.length_cons, List.length_nil]; omega)) only [go_sem, ↓reduceIte, Nat.reduceEqDiff, reduceCtorEq, q0, q7, qx, hfi] <;> rfl) ?_
    refine Rq ?_
    refine Rq ?_
    have tr : ∀ a b c d e f g h i j k m n o p q r s t u v w x y z A B : AV, let l := lc_elim_ok a b c d e f g h i j k m n o p q r s t u v w x; trim ((71,B)::(70,A)::(69,z)::(68,y)::l) l = [(0,a),(1,b),(2,c),(3,d),(4,e),(7,f),(8,g),(9,h),(10,i),(11,j),(13,k),(23,m),(25,n),(26,o),(27,p),(28,q),(59,r),(69,z),(70,A),(71,B),(72,v),(86,w),(96,x)] := by intros; rfl
    refine R_nil (tr ..) ?_; clear tr
    refine then_n ?_
    refine at_block rfl ?_
    refine loop_n rfl (fun mm kv H' => ∃ u : Nat, ∃ d : Int, ∃ x13 x72 x86 : AV, (kv = [(9, AV.i d), (13, x13), (71, AV.i u), (72, x72), (86, x86)]) ∧ (mm = L.length - u) ∧ (hget H' H.length = some (raceC P L)) ∧ (hget H' H1.length = some [.v (.bool false), intsAV S, ra]) ∧ (H2.length ≤ H'.length) ∧ (u ≤ L.length) ∧ (d = sumS P S S.length + inN (memB S) L u)) ⟨0, c, _, _, _, rfl, rfl, by exact q0, by exact q7, by exact Nat.le_refl _, by omega, by rw [inN, hc, Int.add_zero]⟩ (by rfl) ?_
    rintro mm kv HB ⟨u, d, x13, x72, x86, rfl, rfl, q0, q7, hHB, hu, hd⟩
    have tr : ∀ a b c d e f g h i j k m n o p q r s t u v w x y z A B C : AV, upd [(0,a),(1,b),(2,c),(3,d),(4,e),(7,f),(8,g),(9,h),(10,i),(11,j),(13,k),(23,m),(25,n),(26,o),(27,p),(28,q),(59,r),(69,s),(70,t),(71,u),(72,v),(86,w),(96,x)] [(9,y),(13,z),(71,A),(72,B),(86,C)] = [(0,a),(1,b),(2,c),(3,d),(4,e),(7,f),(8,g),(9,y),(10,i),(11,j),(13,z),(23,m),(25,n),(26,o),(27,p),(28,q),(59,r),(69,s),(70,t),(71,A),(72,B),(86,C),(96,x)] := by intros; rfl
    refine W_to (tr ..) ?_; clear tr
    have hdr := inN_rng (memB S) L u
    refine at_seq rfl ?_
    refine rg rfl ?_
    refine Rq ?_
    have tr : ∀ a b c d e f g h i j k m n o p q r s t u v w x y : AV, let l := lc_elim_ok a b c d e f g h i j k m n o p q r s t u v w x; trim ((72,y)::l) l = [(0,a),(1,b),(2,c),(3,d),(4,e),(7,f),(8,g),(9,h),(10,i),(11,j),(13,k),(23,m),(25,n),(26,o),(27,p),(28,q),(59,r),(69,s),(70,t),(71,u),(72,y),(86,w),(96,x)] := by intros; rfl
    refine R_nil (tr ..) ?_; clear tr
    refine then_n ?_
    refine at_seq rfl ?_
    refine cdd (fun h9 => ?_) (fun h9 => ?_)
    ·
     try simp only [decide_eq_true_eq, decide_eq_false_iff_not, Bool.not_eq_true', Bool.not_eq_false', beq_iff_eq, beq_eq_false_iff_ne, ne_eq] at h9
     refine at_skip rfl ?_
     refine then_n ?_
     refine at_seq rfl ?_
     refine at_block rfl ?_
     refine at_seq rfl ?_
     refine rg rfl ?_
     refine Rq ?_
     refine R_q rfl (by simp (disch := first | omega | (simp only [List.length_map, List.length_append, List.length_set, List.length_cons, List.length_nil]; omega)) only [go_sem, ↓reduceIte, Nat.reduceEqDiff, reduceCtorEq, q0, q7, qx, hfi] <;> rfl) ?_
     refine A_alloc rfl ?_
     intro HC n4
     have en4 := n4.len
     have q0 := (n4.old _ (hget_lt q0)).trans q0
     have q7 := (n4.old _ (hget_lt q7)).trans q7
     have qx := n4.new
     have lq0 := hget_lt q0
     have lq7 := hget_lt q7
     have lqx := hget_lt qx
     refine A_store ty58 (by simp (disch := first | omega | (simp only [List.length_map, List.length_append, List.length_set, List.length_cons, List.length_nil]; omega)) only [go_sem, ↓reduceIte, Nat.reduceEqDiff, reduceCtorEq, q0, q7, qx, hfi] <;> rfl) (by simp (disch := first | omega | (simp only [List.length_map, List.length_append, List.length_set, List.length_cons, List.length_nil]; omega)) only [go_sem, ↓reduceIte, Nat.reduceEqDiff, reduceCtorEq, q0, q7, qx, hfi] <;> rfl) qx ⟨by omega, rfl, by first | exact Nat.le_refl _ | simp⟩ (show _ = prC (gt L u) from rfl) ?_
     intro HD w4
     have ew4 := w4.len
     have q0 := (w4.old _ (by omega)).trans q0
     have q7 := (w4.old _ (by omega)).trans q7
     have qx := w4.new
     have tr : ∀ a b c d e f g h i j k m n o p q r s t u v w x y z A : AV, let l := lc_elim_ok a b c d e f g h i j k m n o p q r s t u v w x; trim ((13,A)::(74,z)::(73,y)::l) l = [(0,a),(1,b),(2,c),(3,d),(4,e),(7,f),(8,g),(9,h),(10,i),(11,j),(13,A),(23,m),(25,n),(26,o),(27,p),(28,q),(59,r),(69,s),(70,t),(71,u),(72,v),(86,w),(96,x)] := by intros; rfl
     refine R_nil (tr ..) ?_; clear tr
     refine then_n ?_
     refine at_seq rfl ?_
     refine rg rfl ?_
     have he := g.ed u (by omega)
     refine Rq ?_
     refine R_q rfl (by simp (disch := first | omega | (simp only [List.length_map, List.length_append, List.length_set, List.length_cons, List.length_nil]; omega)) only [go_sem, ↓reduceIte, Nat.reduceEqDiff, reduceCtorEq, q0, q7, qx, hfi] <;> rfl) ?_
     refine Rq ?_
     refine R_q rfl (by simp (disch := first | omega | (simp only [List.length_map, List.length_append, List.length_set, List.length_cons, List.length_nil]; omega)) only [go_sem, ↓reduceIte, Nat.reduceEqDiff, reduceCtorEq, q0, q7, qx, hfi] <;> rfl) ?_
     refine Rcall ?_
     refine ACall_eq (contains73_ok _ _ S _ (by omega)) ?_
     refine Rq ?_
     refine Rp_split (fun h10 => ?_) (fun h10 => ?_)
     ·
      try simp only [decide_eq_true_eq, decide_eq_false_iff_not, Bool.not_eq_true', Bool.not_eq_false', beq_iff_eq, beq_eq_false_iff_ne, ne_eq] at h10
      refine Ry ?_
      refine Rq ?_
      refine Ry ?_
      refine R_q rfl (by simp (disch := first | omega | (simp only [List.length_map, List.length_append, List.length_set, List.length_cons, List.length_nil]; omega)) only [go_sem, ↓reduceIte, Nat.reduceEqDiff, reduceCtorEq, q0, q7, qx, hfi] <;> rfl) ?_
      refine Ry ?_
      refine Rq ?_
      refine Ry ?_
      refine R_q rfl (by simp (disch := first | omega | (simp only [List.length_map, List.length_append, List.length_set, List.length_cons, List.length_nil]; omega)) only [go_sem, ↓reduceIte, Nat.reduceEqDiff, reduceCtorEq, q0, q7, qx, hfi] <;> rfl) ?_
      refine Ry ?_
      refine Rcall ?_
      refine ACall_eq (contains73_ok _ _ S _ (by omega)) ?_
      refine Rq ?_
      have tr : ∀ a b c d e f g h i j k m n o p q r s t u v w x y z A B C D E F G H I J : AV, let l := lc_elim_ok a b c d e f g h i j k m n o p q r s t u v w x; trim ((86,J)::(85,I)::(84,H)::(83,G)::(82,F)::(81,E)::(80,D)::(79,C)::(78,B)::(77,A)::(76,z)::(75,y)::l) l = [(0,a),(1,b),(2,c),(3,d),(4,e),(7,f),(8,g),(9,h),(10,i),(11,j),(13,k),(23,m),(25,n),(26,o),(27,p),(28,q),(59,r),(69,s),(70,t),(71,u),(72,v),(86,J),(96,x)] := by intros; rfl
      refine R_nil (tr ..) ?_; clear tr
      refine then_n ?_
      refine cdd (fun h11 => ?_) (fun h11 => ?_)
      ·
       try simp only [decide_eq_true_eq, decide_eq_false_iff_not, Bool.not_eq_true', Bool.not_eq_false', beq_iff_eq, beq_eq_false_iff_ne, ne_eq] at h11
       refine rg rfl ?_
       refine Rq ?_
       refine Rq ?_
       refine Rq ?_
       have tr : ∀ a b c d e f g h i j k m n o p q r s t u v w x y z A : AV, let l := lc_elim_ok a b c d e f g h i j k m n o p q r s t u v w x; trim ((9,A)::(88,z)::(87,y)::l) l = [(0,a),(1,b),(2,c),(3,d),(4,e),(7,f),(8,g),(9,A),(10,i),(11,j),(13,k),(23,m),(25,n),(26,o),(27,p),(28,q),(59,r),(69,s),(70,t),(71,u),(72,v),(86,w),(96,x)] := by intros; rfl
       refine R_nil (tr ..) ?_; clear tr
       refine blk_n ?_
       refine then_n ?_
       refine rg rfl ?_
       refine Rq ?_
       refine Rq ?_
       have tr : ∀ a b c d e f g h i j k m n o p q r s t u v w x y z : AV, let l := lc_elim_ok a b c d e f g h i j k m n o p q r s t u v w x; trim ((71,z)::(89,y)::l) l = [(0,a),(1,b),(2,c),(3,d),(4,e),(7,f),(8,g),(9,h),(10,i),(11,j),(13,k),(23,m),(25,n),(26,o),(27,p),(28,q),(59,r),(69,s),(70,t),(71,z),(72,v),(86,w),(96,x)] := by intros; rfl
       refine R_nil (tr ..) ?_; clear tr
       refine then_n ?_
       exact ⟨_, _, ⟨u + 1, (d + 2), _, _, _, rfl, rfl, by exact q0, by exact q7, by (show H2.length ≤ HD.length; omega), by omega, by first | (rw [inN_hit (by rw [memB_int (by omega)]; exact decide_eq_true (by assumption)) (by rw [memB_int (by omega)]; exact decide_eq_true (by assumption)), hd]; omega) | (rw [inN_miss (.inr (by rw [memB_int (by omega)]; exact decide_eq_false (by assumption))), hd]) | (rw [inN_miss (.inl (by rw [memB_int (by omega)]; exact decide_eq_false (by assumption))), hd])⟩, by rfl, by omega⟩
      ·
       try simp only [decide_eq_true_eq, decide_eq_false_iff_not, Bool.not_eq_true', Bool.not_eq_false', beq_iff_eq, beq_eq_false_iff_ne, ne_eq] at h11
       refine at_skip rfl ?_
       refine blk_n ?_
       refine then_n ?_
       refine rg rfl ?_
       refine Rq ?_
       refine Rq ?_
       have tr : ∀ a b c d e f g h i j k m n o p q r s t u v w x y z : AV, let l := lc_elim_ok a b c d e f g h i j k m n o p q r s t u v w x; trim ((71,z)::(89,y)::l) l = [(0,a),(1,b),(2,c),(3,d),(4,e),(7,f),(8,g),(9,h),(10,i),(11,j),(13,k),(23,m),(25,n),(26,o),(27,p),(28,q),(59,r),(69,s),(70,t),(71,z),(72,v),(86,w),(96,x)] := by intros; rfl
       refine R_nil (tr ..) ?_; clear tr
       refine then_n ?_
       exact ⟨_, _, ⟨u + 1, d, _, _, _, rfl, rfl, by exact q0, by exact q7, by (show H2.length ≤ HD.length; omega), by omega, by first | (rw [inN_hit (by rw [memB_int (by omega)]; exact decide_eq_true (by assumption)) (by rw [memB_int (by omega)]; exact decide_eq_true (by assumption)), hd]; omega) | (rw [inN_miss (.inr (by rw [memB_int (by omega)]; exact decide_eq_false (by assumption))), hd]) | (rw [inN_miss (.inl (by rw [memB_int (by omega)]; exact decide_eq_false (by assumption))), hd])⟩, by rfl, by omega⟩
     ·
      try simp only [decide_eq_true_eq, decide_eq_false_iff_not, Bool.not_eq_true', Bool.not_eq_false', beq_iff_eq, beq_eq_false_iff_ne, ne_eq] at h10
      refine Rn ?_
      refine Rn ?_
      refine Rn ?_
      refine Rn ?_
      refine Rn ?_
      refine Rq ?_
      have tr : ∀ a b c d e f g h i j k m n o p q r s t u v w x y z A B C D E F G H I J : AV, let l := lc_elim_ok a b c d e f g h i j k m n o p q r s t u v w x; trim ((86,J)::(85,I)::(84,H)::(83,G)::(82,F)::(81,E)::(80,D)::(79,C)::(78,B)::(77,A)::(76,z)::(75,y)::l) l = [(0,a),(1,b),(2,c),(3,d),(4,e),(7,f),(8,g),(9,h),(10,i),(11,j),(13,k),(23,m),(25,n),(26,o),(27,p),(28,q),(59,r),(69,s),(70,t),(71,u),(72,v),(86,J),(96,x)] := by intros; rfl
      refine R_nil (tr ..) ?_; clear tr
      refine then_n ?_
      refine cdf ?_
      refine at_skip rfl ?_
      refine blk_n ?_
      refine then_n ?_
      refine rg rfl ?_
      refine Rq ?_
      refine Rq ?_
      have tr : ∀ a b c d e f g h i j k m n o p q r s t u v w x y z : AV, let l := lc_elim_ok a b c d e f g h i j k m n o p q r s t u v w x; trim ((71,z)::(89,y)::l) l = [(0,a),(1,b),(2,c),(3,d),(4,e),(7,f),(8,g),(9,h),(10,i),(11,j),(13,k),(23,m),(25,n),(26,o),(27,p),(28,q),(59,r),(69,s),(70,t),(71,z),(72,v),(86,w),(96,x)] := by intros; rfl
      refine R_nil (tr ..) ?_; clear tr
      refine then_n ?_
      exact ⟨_, _, ⟨u + 1, d, _, _, _, rfl, rfl, by exact q0, by exact q7, by (show H2.length ≤ HD.length; omega), by omega, by first | (rw [inN_hit (by rw [memB_int (by omega)]; exact decide_eq_true (by assumption)) (by rw [memB_int (by omega)]; exact decide_eq_true (by assumption)), hd]; omega) | (rw [inN_miss (.inr (by rw [memB_int (by omega)]; exact decide_eq_false (by assumption))), hd]) | (rw [inN_miss (.inl (by rw [memB_int (by omega)]; exact decide_eq_false (by assumption))), hd])⟩, by rfl, by omega⟩
    ·
     try simp only [decide_eq_true_eq, decide_eq_false_iff_not, Bool.not_eq_true', Bool.not_eq_false', beq_iff_eq, beq_eq_false_iff_ne, ne_eq] at h9
     refine at_exit rfl ?_
     refine then_x ?_
     refine then_x ?_
     refine blk_x ?_
     refine then_n ?_
     refine at_seq rfl ?_
     refine at_seq rfl ?_
     refine rg rfl ?_
     have hdu : d = sumS P S S.length + inN (memB S) L L.length := by rw [show L.length = u by omega]; exact hd
     have hmul : 0 ≤ (S.length : Int) * G ∧ (S.length : Int) * G ≤ 2000000 := ⟨Int.mul_nonneg (by omega) hG0, Int.le_trans (Int.mul_le_mul (show (S.length : Int) ≤ 1000 by omega) hG hG0 (by omega)) (by decide)⟩
     have hdr2 := inN_rng (memB S) L L.length
     have hcr3 := sumS_rng (P := P) (S := S) g.pt S.length (fun j hj => ⟨(hso j hj).1, (hso j hj).2.1⟩)
     refine Rq ?_
     refine Rq ?_
     refine R_q rfl (by simp (disch := first | omega | (simp only [List.length_map, List.length_append, List.length_set, List.length_cons, List.length_nil]; omega)) only [go_sem, ↓reduceIte, Nat.reduceEqDiff, reduceCtorEq, q0, q7, qx, hfi] <;> rfl) ?_
     refine Rq ?_
     refine Rq ?_
     refine Rq ?_
     refine Rq ?_
     have tr : ∀ a b c d e f g h i j k m n o p q r s t u v w x y z A B C D E : AV, let l := lc_elim_ok a b c d e f g h i j k m n o p q r s t u v w x; trim ((96,E)::(95,D)::(94,C)::(93,B)::(92,A)::(91,z)::(90,y)::l) l = [(0,a),(1,b),(2,c),(3,d),(4,e),(7,f),(8,g),(9,h),(10,i),(11,j),(13,k),(23,m),(25,n),(26,o),(27,p),(28,q),(59,r),(69,s),(70,t),(71,u),(72,v),(86,w),(96,E)] := by intros; rfl
     refine R_nil (tr ..) ?_; clear tr
     refine then_n ?_
     refine cdd (fun h12 => ?_) (fun h12 => ?_)
     ·
      try simp only [decide_eq_true_eq, decide_eq_false_iff_not, Bool.not_eq_true', Bool.not_eq_false', beq_iff_eq, beq_eq_false_iff_ne, ne_eq] at h12
      refine at_seq rfl ?_
      refine rg rfl ?_
      refine Rq ?_
      have tr : ∀ a b c d e f g h i j k m n o p q r s t u v w x y : AV, let l := lc_elim_ok a b c d e f g h i j k m n o p q r s t u v w x; trim ((8,y)::l) l = [(0,a),(1,b),(2,c),(3,d),(4,e),(7,f),(8,y),(9,h),(10,i),(11,j),(13,k),(23,m),(25,n),(26,o),(27,p),(28,q),(59,r),(69,s),(70,t),(71,u),(72,v),(86,w),(96,x)] := by intros; rfl
      refine R_nil (tr ..) ?_; clear tr
      refine then_n ?_
      refine at_ret rfl ?_
      refine then_r ?_
      refine fpure ?_
      refine ⟨?_, rfl⟩
      rw [elimS_b (by omega) (by omega) hso (by omega)]
     ·
      try simp only [decide_eq_true_eq, decide_eq_false_iff_not, Bool.not_eq_true', Bool.not_eq_false', beq_iff_eq, beq_eq_false_iff_ne, ne_eq] at h12
      refine at_skip rfl ?_
      refine then_n ?_
      refine at_seq rfl ?_
      refine rg rfl ?_
      refine Rq ?_
      have tr : ∀ a b c d e f g h i j k m n o p q r s t u v w x y : AV, let l := lc_elim_ok a b c d e f g h i j k m n o p q r s t u v w x; trim ((8,y)::l) l = [(0,a),(1,b),(2,c),(3,d),(4,e),(7,f),(8,y),(9,h),(10,i),(11,j),(13,k),(23,m),(25,n),(26,o),(27,p),(28,q),(59,r),(69,s),(70,t),(71,u),(72,v),(86,w),(96,x)] := by intros; rfl
      refine R_nil (tr ..) ?_; clear tr
      refine then_n ?_
      refine at_ret rfl ?_
      refine fpure ?_
      refine ⟨?_, rfl⟩
      rw [elimS_c (by omega) (by omega) hso (by omega)]

end Go.Proofs.Ytdicnojnkbmdlaa
end
section
set_option linter.unusedSimpArgs false
set_option linter.unusedVariables false
set_option maxHeartbeats 40000000
set_option maxRecDepth 4000
namespace Go.Proofs.Ytdicnojnkbmdlaa
open Go Go.Am

abbrev lc_small53_ok (a b c : AV) : Env := [(0,a),(1,b),(2,c)]
theorem small53_ok (lim : Nat) (H : Heap) (P : List Int) (L : List Pr) :
    ACall sig lim 34 [.agg (raceC P L)] H fun r H' => r = .v (.bool (decide (P.length ≤ 40 ∧ L.length ≤ 100))) ∧ H' = H := by
 refine ACall_pure (fa := fa34) rfl rfl rfl rfl ?_
 have tr : ∀ a0 : AV, env0 fa34.keep [a0] = [(0,a0),(1,.any),(2,.any)] := fun a0 => rfl
 refine W_to (tr _) ?_; clear tr
 refine at_seq rfl ?_
 refine rg rfl ?_
 refine R_box rfl (by simp (disch := first | omega | (simp only [List.length_map, List.length_append, List.length_set, List.length_cons, List.length_nil]; omega)) only [go_sem, ↓reduceIte, Nat.reduceEqDiff, reduceCtorEq] <;> rfl) rfl rfl ?_
 refine Rq ?_
 have tr : ∀ a b c d e : AV, let l := lc_small53_ok a b c; trim ((2,e)::(1,d)::l) l = [(0,a),(1,d),(2,e)] := by intros; rfl
 refine R_nil (tr ..) ?_; clear tr
 refine then_n ?_
 refine at_seq rfl ?_
 refine rg rfl ?_
 refine Rq ?_
 refine Rq ?_
 refine Rq ?_
 refine Rq ?_
 refine Rq ?_
 refine Rp_split (fun h1 => ?_) (fun h1 => ?_)
 ·
  try simp only [decide_eq_true_eq, decide_eq_false_iff_not, Bool.not_eq_true', Bool.not_eq_false', beq_iff_eq, beq_eq_false_iff_ne, ne_eq] at h1
  refine Ry ?_
  refine Rq ?_
  refine Ry ?_
  refine Rq ?_
  refine Ry ?_
  refine Rq ?_
  refine Ry ?_
  refine Rq ?_
  refine Rq ?_
  refine Rq ?_
  have tr : ∀ a b c d e f g h i j k m n o : AV, let l := lc_small53_ok a b c; trim ((2,o)::(12,n)::(11,m)::(10,k)::(9,j)::(8,i)::(7,h)::(6,g)::(5,f)::(4,e)::(3,d)::l) l = [(0,a),(1,b),(2,o)] := by intros; rfl
  refine R_nil (tr ..) ?_; clear tr
  refine then_n ?_
  refine at_ret rfl ?_
  refine fpure ?_
  refine ⟨?_, rfl⟩
  congr 2
  exact decide_eq_decide.mpr (by omega)
 ·
  try simp only [decide_eq_true_eq, decide_eq_false_iff_not, Bool.not_eq_true', Bool.not_eq_false', beq_iff_eq, beq_eq_false_iff_ne, ne_eq] at h1
  refine Rn ?_
  refine Rn ?_
  refine Rn ?_
  refine Rn ?_
  refine Rq ?_
  refine Rq ?_
  have tr : ∀ a b c d e f g h i j k m n o : AV, let l := lc_small53_ok a b c; trim ((2,o)::(12,n)::(11,m)::(10,k)::(9,j)::(8,i)::(7,h)::(6,g)::(5,f)::(4,e)::(3,d)::l) l = [(0,a),(1,b),(2,o)] := by intros; rfl
  refine R_nil (tr ..) ?_; clear tr
  refine then_n ?_
  refine at_ret rfl ?_
  refine fpure ?_
  refine ⟨?_, rfl⟩
  rw [decide_eq_false (by omega)]

abbrev lc_most_ok (a b c d e f g h i j k : AV) : Env := [(0,a),(1,b),(2,c),(4,d),(5,e),(7,f),(14,g),(15,h),(16,i),(17,j),(29,k)]
theorem most_x (lim : Nat) (H : Heap) (P : List Int) (L : List Pr) (t : Int) (g : ROK P L) (ht0 : 0 ≤ t) (ht1 : t < P.length) (x : AV) (hx : frz H 0 8 x = .agg (raceC P L)) :
    ACall sig lim 56 [x, AV.i t] H fun r H' => r = AV.i (mostN P L t L.length) ∧ H' = H := by
 have hp := g.pt t.toNat (by omega)
 have hel := g.el
 have hargs : [x, AV.i t].map (frz H 0 8) = [.agg (raceC P L), AV.i t] := by
  show [frz H 0 8 x, AV.i t] = _
  rw [hx]
 refine ACall_data (fa := fa56) rfl rfl rfl rfl hargs ?_
 have tr : ∀ a0 a1 : AV, env0 fa56.keep [a0, a1] = [(0,a0),(1,a1),(2,.any),(4,.any),(5,.any),(7,.any),(14,.any),(15,.any),(16,.any),(17,.any),(29,.any)] := fun a0 a1 => rfl
 refine W_to (tr _ _) ?_; clear tr
 refine at_seq rfl ?_
 refine rg rfl ?_
 refine R_box rfl (by simp (disch := first | omega | (simp only [List.length_map, List.length_append, List.length_set, List.length_cons, List.length_nil]; omega)) only [go_sem, ↓reduceIte, Nat.reduceEqDiff, reduceCtorEq] <;> rfl) rfl rfl ?_
 refine Rq ?_
 have tr : ∀ a b c d e f g h i j k m n : AV, let l := lc_most_ok a b c d e f g h i j k; trim ((4,n)::(2,m)::l) l = [(0,a),(1,b),(2,m),(4,n),(5,e),(7,f),(14,g),(15,h),(16,i),(17,j),(29,k)] := by intros; rfl
 refine R_nil (tr ..) ?_; clear tr
 refine then_n ?_
 refine at_seq rfl ?_
 refine rg rfl ?_
 refine Rq ?_
 refine Rq ?_
 refine Rq ?_
 refine Rq ?_
 refine Rq ?_
 refine Rq ?_
 have tr : ∀ a b c d e f g h i j k m n o p q r : AV, let l := lc_most_ok a b c d e f g h i j k; trim ((5,r)::(12,q)::(11,p)::(10,o)::(9,n)::(8,m)::l) l = [(0,a),(1,b),(2,c),(4,d),(5,r),(7,f),(14,g),(15,h),(16,i),(17,j),(29,k)] := by intros; rfl
 refine R_nil (tr ..) ?_; clear tr
 refine then_n ?_
 refine at_seq rfl ?_
 refine at_seq rfl ?_
 refine rg rfl ?_
 refine Rq ?_
 refine Rq ?_
 refine Rq ?_
 refine Rq ?_
 have tr : ∀ a b c d e f g h i j k m n o p : AV, let l := lc_most_ok a b c d e f g h i j k; trim ((16,p)::(15,o)::(14,n)::(13,m)::l) l = [(0,a),(1,b),(2,c),(4,d),(5,e),(7,f),(14,n),(15,o),(16,p),(17,j),(29,k)] := by intros; rfl
 refine R_nil (tr ..) ?_; clear tr
 refine then_n ?_
 refine at_block rfl ?_
 refine loop_n rfl (fun mm kv H' => ∃ u : Nat, ∃ c : Int, ∃ X : Heap, ∃ x7 x17 x29 : AV, (kv = [(5, AV.i c), (7, x7), (16, AV.i u), (17, x17), (29, x29)]) ∧ (mm = L.length - u) ∧ (H' = [] ++ [some (raceC P L)] ++ X) ∧ (u ≤ L.length) ∧ (c = mostN P L t u)) ⟨0, (gt P t.toNat), [], _, _, _, rfl, rfl, by simp, by omega, by rfl⟩ (by rfl) ?_
 rintro mm kv H1 ⟨u, c, X, x7, x17, x29, rfl, rfl, hX, hu, hc⟩
 have tr : ∀ a b c d e f g h i j k m n o p q : AV, upd [(0,a),(1,b),(2,c),(4,d),(5,e),(7,f),(14,g),(15,h),(16,i),(17,j),(29,k)] [(5,m),(7,n),(16,o),(17,p),(29,q)] = [(0,a),(1,b),(2,c),(4,d),(5,m),(7,n),(14,g),(15,h),(16,o),(17,p),(29,q)] := by intros; rfl
 refine W_to (tr ..) ?_; clear tr
 subst hX
 have hmr := most_rng (L := L) hp.1 hp.2 u
 refine at_seq rfl ?_
 refine rg rfl ?_
 refine Rq ?_
 have tr : ∀ a b c d e f g h i j k m : AV, let l := lc_most_ok a b c d e f g h i j k; trim ((17,m)::l) l = [(0,a),(1,b),(2,c),(4,d),(5,e),(7,f),(14,g),(15,h),(16,i),(17,m),(29,k)] := by intros; rfl
 refine R_nil (tr ..) ?_; clear tr
 refine then_n ?_
 refine at_seq rfl ?_
 refine cdd (fun h1 => ?_) (fun h1 => ?_)
 ·
  try simp only [decide_eq_true_eq, decide_eq_false_iff_not, Bool.not_eq_true', Bool.not_eq_false', beq_iff_eq, beq_eq_false_iff_ne, ne_eq] at h1
  refine at_skip rfl ?_
  refine then_n ?_
  refine at_seq rfl ?_
  refine at_block rfl ?_
  refine at_seq rfl ?_
  refine rg rfl ?_
  refine Rq ?_
  refine Rq ?_
  refine R_alloc (by simp (disch := first | omega | (simp only [List.length_map, List.length_append, List.length_set, List.length_cons, List.length_nil]; omega)) only [go_sem, ↓reduceIte, Nat.reduceEqDiff, reduceCtorEq] <;> rfl) rfl (by simp only [List.map_cons, List.map_nil]; rfl) ?_
  refine R_store ty58 (by simp (disch := first | omega | (simp only [List.length_map, List.length_append, List.length_set, List.length_cons, List.length_nil]; omega)) only [go_sem, ↓reduceIte, Nat.reduceEqDiff, reduceCtorEq] <;> rfl) (by simp (disch := first | omega | (simp only [List.length_map, List.length_append, List.length_set, List.length_cons, List.length_nil]; omega)) only [go_sem, ↓reduceIte, Nat.reduceEqDiff, reduceCtorEq] <;> rfl) (by simp (disch := first | omega | (simp only [List.length_map, List.length_append, List.length_set, List.length_cons, List.length_nil]; omega)) only [go_sem, ↓reduceIte, Nat.reduceEqDiff, reduceCtorEq] <;> rfl) (by simp) (by rfl) (by simp (disch := first | omega | (simp only [List.length_map, List.length_append, List.length_set, List.length_cons, List.length_nil]; omega)) only [go_sem, ↓reduceIte, Nat.reduceEqDiff, reduceCtorEq] <;> rfl) ?_
  have tr : ∀ a b c d e f g h i j k m n o : AV, let l := lc_most_ok a b c d e f g h i j k; trim ((7,o)::(19,n)::(18,m)::l) l = [(0,a),(1,b),(2,c),(4,d),(5,e),(7,o),(14,g),(15,h),(16,i),(17,j),(29,k)] := by intros; rfl
  refine R_nil (tr ..) ?_; clear tr
  refine then_n ?_
  refine at_seq rfl ?_
  refine rg rfl ?_
  refine Rq ?_
  refine Rq ?_
  refine Rq ?_
  refine Rq ?_
  refine Rq ?_
  refine Rp_split (fun h2 => ?_) (fun h2 => ?_)
  ·
   try simp only [decide_eq_true_eq, decide_eq_false_iff_not, Bool.not_eq_true', Bool.not_eq_false', beq_iff_eq, beq_eq_false_iff_ne, ne_eq] at h2
   refine Rn ?_
   refine Rn ?_
   refine Rn ?_
   refine Rn ?_
   refine Rq ?_
   have tr : ∀ a b c d e f g h i j k m n o p q r s t u v : AV, let l := lc_most_ok a b c d e f g h i j k; trim ((29,v)::(28,u)::(27,t)::(26,s)::(25,r)::(24,q)::(23,p)::(22,o)::(21,n)::(20,m)::l) l = [(0,a),(1,b),(2,c),(4,d),(5,e),(7,f),(14,g),(15,h),(16,i),(17,j),(29,v)] := by intros; rfl
   refine R_nil (tr ..) ?_; clear tr
   refine then_n ?_
   refine cdt ?_
   refine rg rfl ?_
   refine Rq ?_
   refine Rq ?_
   refine Rq ?_
   have tr : ∀ a b c d e f g h i j k m n o : AV, let l := lc_most_ok a b c d e f g h i j k; trim ((5,o)::(31,n)::(30,m)::l) l = [(0,a),(1,b),(2,c),(4,d),(5,o),(7,f),(14,g),(15,h),(16,i),(17,j),(29,k)] := by intros; rfl
   refine R_nil (tr ..) ?_; clear tr
   refine blk_n ?_
   refine then_n ?_
   refine rg rfl ?_
   refine Rq ?_
   refine Rq ?_
   have tr : ∀ a b c d e f g h i j k m n : AV, let l := lc_most_ok a b c d e f g h i j k; trim ((16,n)::(32,m)::l) l = [(0,a),(1,b),(2,c),(4,d),(5,e),(7,f),(14,g),(15,h),(16,n),(17,j),(29,k)] := by intros; rfl
   refine R_nil (tr ..) ?_; clear tr
   refine then_n ?_
   exact ⟨_, _, ⟨u + 1, (c + 2), X ++ [some (prC (gt L u))], _, _, _, rfl, rfl, by simp; rfl, by omega, by rw [mostN, hc]; first | rw [if_pos (by omega)] | rw [if_neg (by omega)]⟩, by rfl, by omega⟩
  ·
   try simp only [decide_eq_true_eq, decide_eq_false_iff_not, Bool.not_eq_true', Bool.not_eq_false', beq_iff_eq, beq_eq_false_iff_ne, ne_eq] at h2
   refine Ry ?_
   refine Rq ?_
   refine Ry ?_
   refine Rq ?_
   refine Ry ?_
   refine Rq ?_
   refine Ry ?_
   refine Rq ?_
   refine Rq ?_
   have tr : ∀ a b c d e f g h i j k m n o p q r s t u v : AV, let l := lc_most_ok a b c d e f g h i j k; trim ((29,v)::(28,u)::(27,t)::(26,s)::(25,r)::(24,q)::(23,p)::(22,o)::(21,n)::(20,m)::l) l = [(0,a),(1,b),(2,c),(4,d),(5,e),(7,f),(14,g),(15,h),(16,i),(17,j),(29,v)] := by intros; rfl
   refine R_nil (tr ..) ?_; clear tr
   refine then_n ?_
   refine cdd (fun h3 => ?_) (fun h3 => ?_)
   ·
    try simp only [decide_eq_true_eq, decide_eq_false_iff_not, Bool.not_eq_true', Bool.not_eq_false', beq_iff_eq, beq_eq_false_iff_ne, ne_eq] at h3
    refine rg rfl ?_
    refine Rq ?_
    refine Rq ?_
    refine Rq ?_
    have tr : ∀ a b c d e f g h i j k m n o : AV, let l := lc_most_ok a b c d e f g h i j k; trim ((5,o)::(31,n)::(30,m)::l) l = [(0,a),(1,b),(2,c),(4,d),(5,o),(7,f),(14,g),(15,h),(16,i),(17,j),(29,k)] := by intros; rfl
    refine R_nil (tr ..) ?_; clear tr
    refine blk_n ?_
    refine then_n ?_
    refine rg rfl ?_
    refine Rq ?_
    refine Rq ?_
    have tr : ∀ a b c d e f g h i j k m n : AV, let l := lc_most_ok a b c d e f g h i j k; trim ((16,n)::(32,m)::l) l = [(0,a),(1,b),(2,c),(4,d),(5,e),(7,f),(14,g),(15,h),(16,n),(17,j),(29,k)] := by intros; rfl
    refine R_nil (tr ..) ?_; clear tr
    refine then_n ?_
    exact ⟨_, _, ⟨u + 1, (c + 2), X ++ [some (prC (gt L u))], _, _, _, rfl, rfl, by simp; rfl, by omega, by rw [mostN, hc]; first | rw [if_pos (by omega)] | rw [if_neg (by omega)]⟩, by rfl, by omega⟩
   ·
    try simp only [decide_eq_true_eq, decide_eq_false_iff_not, Bool.not_eq_true', Bool.not_eq_false', beq_iff_eq, beq_eq_false_iff_ne, ne_eq] at h3
    refine at_skip rfl ?_
    refine blk_n ?_
    refine then_n ?_
    refine rg rfl ?_
    refine Rq ?_
    refine Rq ?_
    have tr : ∀ a b c d e f g h i j k m n : AV, let l := lc_most_ok a b c d e f g h i j k; trim ((16,n)::(32,m)::l) l = [(0,a),(1,b),(2,c),(4,d),(5,e),(7,f),(14,g),(15,h),(16,n),(17,j),(29,k)] := by intros; rfl
    refine R_nil (tr ..) ?_; clear tr
    refine then_n ?_
    exact ⟨_, _, ⟨u + 1, c, X ++ [some (prC (gt L u))], _, _, _, rfl, rfl, by simp; rfl, by omega, by rw [mostN, hc]; first | rw [if_pos (by omega)] | rw [if_neg (by omega)]⟩, by rfl, by omega⟩
 ·
  try simp only [decide_eq_true_eq, decide_eq_false_iff_not, Bool.not_eq_true', Bool.not_eq_false', beq_iff_eq, beq_eq_false_iff_ne, ne_eq] at h1
  refine at_exit rfl ?_
  refine then_x ?_
  refine then_x ?_
  refine blk_x ?_
  refine then_n ?_
  refine at_seq rfl ?_
  refine rg rfl ?_
  refine Rq ?_
  refine Rq ?_
  have tr : ∀ a b c d e f g h i j k m n : AV, let l := lc_most_ok a b c d e f g h i j k; trim ((4,n)::(33,m)::l) l = [(0,a),(1,b),(2,c),(4,n),(5,e),(7,f),(14,g),(15,h),(16,i),(17,j),(29,k)] := by intros; rfl
  refine R_nil (tr ..) ?_; clear tr
  refine then_n ?_
  refine at_ret rfl ?_
  refine fpure ?_
  refine ⟨rfl, ?_, rfl⟩
  rw [hc, show L.length = u by omega]

theorem most_ok (lim : Nat) (H : Heap) (P : List Int) (L : List Pr) (t : Int) (g : ROK P L) (ht0 : 0 ≤ t) (ht1 : t < P.length) :
    ACall sig lim 56 [.agg (raceC P L), AV.i t] H fun r H' => r = AV.i (mostN P L t L.length) ∧ H' = H :=
  most_x lim H P L t g ht0 ht1 _ (frz_race H P L)

abbrev lc_rmost_ok (a b c d e f g h i j k : AV) : Env := [(0,a),(1,b),(2,c),(4,d),(5,e),(7,f),(14,g),(15,h),(16,i),(17,j),(29,k)]
theorem rmost_ok (lim : Nat) (H : Heap) (P : List Int) (L : List Pr) (t : Int) (g : ROK P L) (ht0 : 0 ≤ t) (ht1 : t < P.length) :
    ACall sig lim 62 [.agg (raceC P L), AV.i t] H fun r H' => r = AV.i (mostN P L t L.length) ∧ H' = H := by
 have hp := g.pt t.toNat (by omega)
 have hel := g.el
 refine ACall_pure (fa := fa62) rfl rfl rfl rfl ?_
 have tr : ∀ a0 a1 : AV, env0 fa62.keep [a0, a1] = [(0,a0),(1,a1),(2,.any),(4,.any),(5,.any),(7,.any),(14,.any),(15,.any),(16,.any),(17,.any),(29,.any)] := fun a0 a1 => rfl
 refine W_to (tr _ _) ?_; clear tr
 refine at_seq rfl ?_
 refine rg rfl ?_
 refine R_box rfl (by simp (disch := first | omega | (simp only [List.length_map, List.length_append, List.length_set, List.length_cons, List.length_nil]; omega)) only [go_sem, ↓reduceIte, Nat.reduceEqDiff, reduceCtorEq] <;> rfl) rfl rfl ?_
 refine Rq ?_
 have tr : ∀ a b c d e f g h i j k m n : AV, let l := lc_rmost_ok a b c d e f g h i j k; trim ((4,n)::(2,m)::l) l = [(0,a),(1,b),(2,m),(4,n),(5,e),(7,f),(14,g),(15,h),(16,i),(17,j),(29,k)] := by intros; rfl
 refine R_nil (tr ..) ?_; clear tr
 refine then_n ?_
 refine at_seq rfl ?_
 refine rg rfl ?_
 refine Rq ?_
 refine Rq ?_
 refine Rq ?_
 refine Rq ?_
 refine Rq ?_
 refine Rq ?_
 have tr : ∀ a b c d e f g h i j k m n o p q r : AV, let l := lc_rmost_ok a b c d e f g h i j k; trim ((5,r)::(12,q)::(11,p)::(10,o)::(9,n)::(8,m)::l) l = [(0,a),(1,b),(2,c),(4,d),(5,r),(7,f),(14,g),(15,h),(16,i),(17,j),(29,k)] := by intros; rfl
 refine R_nil (tr ..) ?_; clear tr
 refine then_n ?_
 refine at_seq rfl ?_
 refine at_seq rfl ?_
 refine rg rfl ?_
 refine Rq ?_
 refine Rq ?_
 refine Rq ?_
 refine Rq ?_
 have tr : ∀ a b c d e f g h i j k m n o p : AV, let l := lc_rmost_ok a b c d e f g h i j k; trim ((16,p)::(15,o)::(14,n)::(13,m)::l) l = [(0,a),(1,b),(2,c),(4,d),(5,e),(7,f),(14,n),(15,o),(16,p),(17,j),(29,k)] := by intros; rfl
 refine R_nil (tr ..) ?_; clear tr
 refine then_n ?_
 refine at_block rfl ?_
 refine loop_n rfl (fun mm kv H' => ∃ u : Nat, ∃ c : Int, ∃ X : Heap, ∃ x7 x17 x29 : AV, (kv = [(5, AV.i c), (7, x7), (16, AV.i u), (17, x17), (29, x29)]) ∧ (mm = L.length - u) ∧ (H' = H ++ [some (raceC P L)] ++ X) ∧ (u ≤ L.length) ∧ (c = mostN P L t u)) ⟨0, (gt P t.toNat), [], _, _, _, rfl, rfl, by simp, by omega, by rfl⟩ (by rfl) ?_
 rintro mm kv H1 ⟨u, c, X, x7, x17, x29, rfl, rfl, hX, hu, hc⟩
 have tr : ∀ a b c d e f g h i j k m n o p q : AV, upd [(0,a),(1,b),(2,c),(4,d),(5,e),(7,f),(14,g),(15,h),(16,i),(17,j),(29,k)] [(5,m),(7,n),(16,o),(17,p),(29,q)] = [(0,a),(1,b),(2,c),(4,d),(5,m),(7,n),(14,g),(15,h),(16,o),(17,p),(29,q)] := by intros; rfl
 refine W_to (tr ..) ?_; clear tr
 subst hX
 have hmr := most_rng (L := L) hp.1 hp.2 u
 refine at_seq rfl ?_
 refine rg rfl ?_
 refine Rq ?_
 have tr : ∀ a b c d e f g h i j k m : AV, let l := lc_rmost_ok a b c d e f g h i j k; trim ((17,m)::l) l = [(0,a),(1,b),(2,c),(4,d),(5,e),(7,f),(14,g),(15,h),(16,i),(17,m),(29,k)] := by intros; rfl
 refine R_nil (tr ..) ?_; clear tr
 refine then_n ?_
 refine at_seq rfl ?_
 refine cdd (fun h1 => ?_) (fun h1 => ?_)
 ·
  try simp only [decide_eq_true_eq, decide_eq_false_iff_not, Bool.not_eq_true', Bool.not_eq_false', beq_iff_eq, beq_eq_false_iff_ne, ne_eq] at h1
  refine at_skip rfl ?_
  refine then_n ?_
  refine at_seq rfl ?_
  refine at_block rfl ?_
  refine at_seq rfl ?_
  refine rg rfl ?_
  refine Rq ?_
  refine Rq ?_
  refine R_alloc (by simp (disch := first | omega | (simp only [List.length_map, List.length_append, List.length_set, List.length_cons, List.length_nil]; omega)) only [go_sem, ↓reduceIte, Nat.reduceEqDiff, reduceCtorEq] <;> rfl) rfl (by simp only [List.map_cons, List.map_nil]; rfl) ?_
  refine R_store ty58 (by simp (disch := first | omega | (simp only [List.length_map, List.length_append, List.length_set, List.length_cons, List.length_nil]; omega)) only [go_sem, ↓reduceIte, Nat.reduceEqDiff, reduceCtorEq] <;> rfl) (by simp (disch := first | omega | (simp only [List.length_map, List.length_append, List.length_set, List.length_cons, List.length_nil]; omega)) only [go_sem, ↓reduceIte, Nat.reduceEqDiff, reduceCtorEq] <;> rfl) (by simp (disch := first | omega | (simp only [List.length_map, List.length_append, List.length_set, List.length_cons, List.length_nil]; omega)) only [go_sem, ↓reduceIte, Nat.reduceEqDiff, reduceCtorEq] <;> rfl) (by simp) (by rfl) (by simp (disch := first | omega | (simp only [List.length_map, List.length_append, List.length_set, List.length_cons, List.length_nil]; omega)) only [go_sem, ↓reduceIte, Nat.reduceEqDiff, reduceCtorEq] <;> rfl) ?_
  have tr : ∀ a b c d e f g h i j k m n o : AV, let l := lc_rmost_ok a b c d e f g h i j k; trim ((7,o)::(19,n)::(18,m)::l) l = [(0,a),(1,b),(2,c),(4,d),(5,e),(7,o),(14,g),(15,h),(16,i),(17,j),(29,k)] := by intros; rfl
  refine R_nil (tr ..) ?_; clear tr
  refine then_n ?_
  refine at_seq rfl ?_
  refine rg rfl ?_
  refine Rq ?_
  refine Rq ?_
  refine Rq ?_
  refine Rq ?_
  refine Rq ?_
  refine Rp_split (fun h2 => ?_) (fun h2 => ?_)
  ·
   try simp only [decide_eq_true_eq, decide_eq_false_iff_not, Bool.not_eq_true', Bool.not_eq_false', beq_iff_eq, beq_eq_false_iff_ne, ne_eq] at h2
   refine Rn ?_
   refine Rn ?_
   refine Rn ?_
   refine Rn ?_
   refine Rq ?_
   have tr : ∀ a b c d e f g h i j k m n o p q r s t u v : AV, let l := lc_rmost_ok a b c d e f g h i j k; trim ((29,v)::(28,u)::(27,t)::(26,s)::(25,r)::(24,q)::(23,p)::(22,o)::(21,n)::(20,m)::l) l = [(0,a),(1,b),(2,c),(4,d),(5,e),(7,f),(14,g),(15,h),(16,i),(17,j),(29,v)] := by intros; rfl
   refine R_nil (tr ..) ?_; clear tr
   refine then_n ?_
   refine cdt ?_
   refine rg rfl ?_
   refine Rq ?_
   refine Rq ?_
   refine Rq ?_
   have tr : ∀ a b c d e f g h i j k m n o : AV, let l := lc_rmost_ok a b c d e f g h i j k; trim ((5,o)::(31,n)::(30,m)::l) l = [(0,a),(1,b),(2,c),(4,d),(5,o),(7,f),(14,g),(15,h),(16,i),(17,j),(29,k)] := by intros; rfl
   refine R_nil (tr ..) ?_; clear tr
   refine blk_n ?_
   refine then_n ?_
   refine rg rfl ?_
   refine Rq ?_
   refine Rq ?_
   have tr : ∀ a b c d e f g h i j k m n : AV, let l := lc_rmost_ok a b c d e f g h i j k; trim ((16,n)::(32,m)::l) l = [(0,a),(1,b),(2,c),(4,d),(5,e),(7,f),(14,g),(15,h),(16,n),(17,j),(29,k)] := by intros; rfl
   refine R_nil (tr ..) ?_; clear tr
   refine then_n ?_
   exact ⟨_, _, ⟨u + 1, (c + 2), X ++ [some (prC (gt L u))], _, _, _, rfl, rfl, by simp; rfl, by omega, by rw [mostN, hc]; first | rw [if_pos (by omega)] | rw [if_neg (by omega)]⟩, by rfl, by omega⟩
  ·
   try simp only [decide_eq_true_eq, decide_eq_false_iff_not, Bool.not_eq_true', Bool.not_eq_false', beq_iff_eq, beq_eq_false_iff_ne, ne_eq] at h2
   refine Ry ?_
   refine Rq ?_
   refine Ry ?_
   refine Rq ?_
   refine Ry ?_
   refine Rq ?_
   refine Ry ?_
   refine Rq ?_
   refine Rq ?_
   have tr : ∀ a b c d e f g h i j k m n o p q r s t u v : AV, let l := lc_rmost_ok a b c d e f g h i j k; trim ((29,v)::(28,u)::(27,t)::(26,s)::(25,r)::(24,q)::(23,p)::(22,o)::(21,n)::(20,m)::l) l = [(0,a),(1,b),(2,c),(4,d),(5,e),(7,f),(14,g),(15,h),(16,i),(17,j),(29,v)] := by intros; rfl
   refine R_nil (tr ..) ?_; clear tr
   refine then_n ?_
   refine cdd (fun h3 => ?_) (fun h3 => ?_)
   ·
    try simp only [decide_eq_true_eq, decide_eq_false_iff_not, Bool.not_eq_true', Bool.not_eq_false', beq_iff_eq, beq_eq_false_iff_ne, ne_eq] at h3
    refine rg rfl ?_
    refine Rq ?_
    refine Rq ?_
    refine Rq ?_
    have tr : ∀ a b c d e f g h i j k m n o : AV, let l := lc_rmost_ok a b c d e f g h i j k; trim ((5,o)::(31,n)::(30,m)::l) l = [(0,a),(1,b),(2,c),(4,d),(5,o),(7,f),(14,g),(15,h),(16,i),(17,j),(29,k)] := by intros; rfl
    refine R_nil (tr ..) ?_; clear tr
    refine blk_n ?_
    refine then_n ?_
    refine rg rfl ?_
    refine Rq ?_
    refine Rq ?_
    have tr : ∀ a b c d e f g h i j k m n : AV, let l := lc_rmost_ok a b c d e f g h i j k; trim ((16,n)::(32,m)::l) l = [(0,a),(1,b),(2,c),(4,d),(5,e),(7,f),(14,g),(15,h),(16,n),(17,j),(29,k)] := by intros; rfl
    refine R_nil (tr ..) ?_; clear tr
    refine then_n ?_
    exact ⟨_, _, ⟨u + 1, (c + 2), X ++ [some (prC (gt L u))], _, _, _, rfl, rfl, by simp; rfl, by omega, by rw [mostN, hc]; first | rw [if_pos (by omega)] | rw [if_neg (by omega)]⟩, by rfl, by omega⟩
   ·
    try simp only [decide_eq_true_eq, decide_eq_false_iff_not, Bool.not_eq_true', Bool.not_eq_false', beq_iff_eq, beq_eq_false_iff_ne, ne_eq] at h3
    refine at_skip rfl ?_
    refine blk_n ?_
    refine then_n ?_
    refine rg rfl ?_
    refine Rq ?_
    refine Rq ?_
    have tr : ∀ a b c d e f g h i j k m n : AV, let l := lc_rmost_ok a b c d e f g h i j k; trim ((16,n)::(32,m)::l) l = [(0,a),(1,b),(2,c),(4,d),(5,e),(7,f),(14,g),(15,h),(16,n),(17,j),(29,k)] := by intros; rfl
    refine R_nil (tr ..) ?_; clear tr
    refine then_n ?_
    exact ⟨_, _, ⟨u + 1, c, X ++ [some (prC (gt L u))], _, _, _, rfl, rfl, by simp; rfl, by omega, by rw [mostN, hc]; first | rw [if_pos (by omega)] | rw [if_neg (by omega)]⟩, by rfl, by omega⟩
 ·
  try simp only [decide_eq_true_eq, decide_eq_false_iff_not, Bool.not_eq_true', Bool.not_eq_false', beq_iff_eq, beq_eq_false_iff_ne, ne_eq] at h1
  refine at_exit rfl ?_
  refine then_x ?_
  refine then_x ?_
  refine blk_x ?_
  refine then_n ?_
  refine at_seq rfl ?_
  refine rg rfl ?_
  refine Rq ?_
  refine Rq ?_
  have tr : ∀ a b c d e f g h i j k m n : AV, let l := lc_rmost_ok a b c d e f g h i j k; trim ((4,n)::(33,m)::l) l = [(0,a),(1,b),(2,c),(4,n),(5,e),(7,f),(14,g),(15,h),(16,i),(17,j),(29,k)] := by intros; rfl
  refine R_nil (tr ..) ?_; clear tr
  refine then_n ?_
  refine at_ret rfl ?_
  refine fpure ?_
  refine ⟨?_, rfl⟩
  rw [hc, show L.length = u by omega]

end Go.Proofs.Ytdicnojnkbmdlaa
end
section
set_option linter.unusedSimpArgs false
set_option linter.unusedVariables false
set_option maxHeartbeats 40000000
set_option maxRecDepth 4000
namespace Go.Proofs.Ytdicnojnkbmdlaa
open Go Go.Am

abbrev lc_mst_ok (a b c d e f g h : AV) : Env := [(0,a),(1,b),(2,c),(4,d),(5,e),(6,f),(10,g),(20,h)]
theorem mst_x (lim : Nat) (H : Heap) (P : List Int) (L : List Pr) (t : Int) (x : AV) (hx : frz H 0 8 x = .agg (raceC P L)) :
    ACall sig lim 38 [x, AV.i t] H fun r H' => r = .tup [AV.i (mostS P L t).1, AV.i (mostS P L t).2] ∧ H' = H := by
 have hargs : [x, AV.i t].map (frz H 0 8) = [.agg (raceC P L), AV.i t] := by
  show [frz H 0 8 x, AV.i t] = _
  rw [hx]
 refine ACall_data (fa := fa38) rfl rfl rfl rfl hargs ?_
 have tr : ∀ a0 a1 : AV, env0 fa38.keep [a0, a1] = [(0,a0),(1,a1),(2,.any),(4,.any),(5,.any),(6,.any),(10,.any),(20,.any)] := fun a0 a1 => rfl
 refine W_to (tr _ _) ?_; clear tr
 refine at_seq rfl ?_
 refine rg rfl ?_
 refine R_box rfl (by simp (disch := first | omega | (simp only [List.length_map, List.length_append, List.length_set, List.length_cons, List.length_nil]; omega)) only [go_sem, ↓reduceIte, Nat.reduceEqDiff, reduceCtorEq] <;> rfl) rfl rfl ?_
 refine Rq ?_
 refine Rq ?_
 have tr : ∀ a b c d e f g h i j k : AV, let l := lc_mst_ok a b c d e f g h; trim ((5,k)::(4,j)::(2,i)::l) l = [(0,a),(1,b),(2,i),(4,j),(5,k),(6,f),(10,g),(20,h)] := by intros; rfl
 refine R_nil (tr ..) ?_; clear tr
 refine then_n ?_
 refine at_seq rfl ?_
 refine at_seq rfl ?_
 refine rg rfl ?_
 refine Rq ?_
 refine Rcall ?_
 refine ACall_eq (chk53_ok _ _ P L) ?_
 refine Rq ?_
 have tr : ∀ a b c d e f g h i j k : AV, let l := lc_mst_ok a b c d e f g h; trim ((6,k)::(8,j)::(7,i)::l) l = [(0,a),(1,b),(2,c),(4,d),(5,e),(6,k),(10,g),(20,h)] := by intros; rfl
 refine R_nil (tr ..) ?_; clear tr
 refine then_n ?_
 refine at_seq rfl ?_
 refine rg rfl ?_
 refine Rq ?_
 refine Rq ?_
 have tr : ∀ a b c d e f g h i j : AV, let l := lc_mst_ok a b c d e f g h; trim ((10,j)::(9,i)::l) l = [(0,a),(1,b),(2,c),(4,d),(5,e),(6,f),(10,j),(20,h)] := by intros; rfl
 refine R_nil (tr ..) ?_; clear tr
 refine then_n ?_
 refine cdd (fun h1 => ?_) (fun h1 => ?_)
 ·
  try simp only [decide_eq_true_eq, decide_eq_false_iff_not, Bool.not_eq_true', Bool.not_eq_false', beq_iff_eq, beq_eq_false_iff_ne, ne_eq] at h1
  refine at_seq rfl ?_
  refine rg rfl ?_
  refine Rq ?_
  refine Rq ?_
  refine Rq ?_
  have tr : ∀ a b c d e f g h i j k : AV, let l := lc_mst_ok a b c d e f g h; trim ((5,k)::(4,j)::(11,i)::l) l = [(0,a),(1,b),(2,c),(4,j),(5,k),(6,f),(10,g),(20,h)] := by intros; rfl
  refine R_nil (tr ..) ?_; clear tr
  refine then_n ?_
  refine at_ret rfl ?_
  refine then_r ?_
  refine fpure ?_
  refine ⟨rfl, ?_, rfl⟩
  rw [mostS, if_pos (by assumption)]
 ·
  try simp only [decide_eq_true_eq, decide_eq_false_iff_not, Bool.not_eq_true', Bool.not_eq_false', beq_iff_eq, beq_eq_false_iff_ne, ne_eq] at h1
  refine at_skip rfl ?_
  refine then_n ?_
  refine at_seq rfl ?_
  refine at_seq rfl ?_
  refine rg rfl ?_
  have g := rok_of (by assumption : rchkS P L = 0)
  refine Rq ?_
  refine Rq ?_
  refine Rq ?_
  refine Rp_split (fun h2 => ?_) (fun h2 => ?_)
  ·
   try simp only [decide_eq_true_eq, decide_eq_false_iff_not, Bool.not_eq_true', Bool.not_eq_false', beq_iff_eq, beq_eq_false_iff_ne, ne_eq] at h2
   refine Rn ?_
   refine Rn ?_
   refine Rn ?_
   refine Rn ?_
   refine Rn ?_
   refine Rq ?_
   have tr : ∀ a b c d e f g h i j k m n o p q r : AV, let l := lc_mst_ok a b c d e f g h; trim ((20,r)::(19,q)::(18,p)::(17,o)::(16,n)::(15,m)::(14,k)::(13,j)::(12,i)::l) l = [(0,a),(1,b),(2,c),(4,d),(5,e),(6,f),(10,g),(20,r)] := by intros; rfl
   refine R_nil (tr ..) ?_; clear tr
   refine then_n ?_
   refine cdt ?_
   refine at_seq rfl ?_
   refine rg rfl ?_
   refine Rq ?_
   refine Rq ?_
   have tr : ∀ a b c d e f g h i j : AV, let l := lc_mst_ok a b c d e f g h; trim ((5,j)::(4,i)::l) l = [(0,a),(1,b),(2,c),(4,i),(5,j),(6,f),(10,g),(20,h)] := by intros; rfl
   refine R_nil (tr ..) ?_; clear tr
   refine then_n ?_
   refine at_ret rfl ?_
   refine then_r ?_
   refine fpure ?_
   refine ⟨rfl, ?_, rfl⟩
   rw [mostS, if_neg (fun hh => hh (by assumption)), if_pos (by omega)]
  ·
   try simp only [decide_eq_true_eq, decide_eq_false_iff_not, Bool.not_eq_true', Bool.not_eq_false', beq_iff_eq, beq_eq_false_iff_ne, ne_eq] at h2
   refine Ry ?_
   refine Rq ?_
   refine Ry ?_
   refine Rq ?_
   refine Ry ?_
   refine Rq ?_
   refine Ry ?_
   refine Rq ?_
   refine Ry ?_
   refine Rq ?_
   refine Rq ?_
   have tr : ∀ a b c d e f g h i j k m n o p q r : AV, let l := lc_mst_ok a b c d e f g h; trim ((20,r)::(19,q)::(18,p)::(17,o)::(16,n)::(15,m)::(14,k)::(13,j)::(12,i)::l) l = [(0,a),(1,b),(2,c),(4,d),(5,e),(6,f),(10,g),(20,r)] := by intros; rfl
   refine R_nil (tr ..) ?_; clear tr
   refine then_n ?_
   refine cdd (fun h3 => ?_) (fun h3 => ?_)
   ·
    try simp only [decide_eq_true_eq, decide_eq_false_iff_not, Bool.not_eq_true', Bool.not_eq_false', beq_iff_eq, beq_eq_false_iff_ne, ne_eq] at h3
    refine at_seq rfl ?_
    refine rg rfl ?_
    refine Rq ?_
    refine Rq ?_
    have tr : ∀ a b c d e f g h i j : AV, let l := lc_mst_ok a b c d e f g h; trim ((5,j)::(4,i)::l) l = [(0,a),(1,b),(2,c),(4,i),(5,j),(6,f),(10,g),(20,h)] := by intros; rfl
    refine R_nil (tr ..) ?_; clear tr
    refine then_n ?_
    refine at_ret rfl ?_
    refine then_r ?_
    refine fpure ?_
    refine ⟨rfl, ?_, rfl⟩
    rw [mostS, if_neg (fun hh => hh (by assumption)), if_pos (by omega)]
   ·
    try simp only [decide_eq_true_eq, decide_eq_false_iff_not, Bool.not_eq_true', Bool.not_eq_false', beq_iff_eq, beq_eq_false_iff_ne, ne_eq] at h3
    refine at_skip rfl ?_
    refine then_n ?_
    refine at_seq rfl ?_
    refine rg rfl ?_
    refine Rq ?_
    refine Rq ?_
    refine Rcall ?_
    refine ACall_eq (most_ok _ _ P L t g (by omega) (by omega)) ?_
    refine Rq ?_
    refine Rq ?_
    have tr : ∀ a b c d e f g h i j k m n : AV, let l := lc_mst_ok a b c d e f g h; trim ((5,n)::(4,m)::(23,k)::(22,j)::(21,i)::l) l = [(0,a),(1,b),(2,c),(4,m),(5,n),(6,f),(10,g),(20,h)] := by intros; rfl
    refine R_nil (tr ..) ?_; clear tr
    refine then_n ?_
    refine at_ret rfl ?_
    refine fpure ?_
    refine ⟨rfl, ?_, rfl⟩
    rw [mostS, if_neg (fun hh => hh (by assumption)), if_neg (by omega)]

theorem mst_ok (lim : Nat) (H : Heap) (P : List Int) (L : List Pr) (t : Int) :
    ACall sig lim 38 [.agg (raceC P L), AV.i t] H fun r H' => r = .tup [AV.i (mostS P L t).1, AV.i (mostS P L t).2] ∧ H' = H :=
  mst_x lim H P L t _ (frz_race H P L)

abbrev lc_rmst_ok (a b c d e f g h : AV) : Env := [(0,a),(1,b),(2,c),(4,d),(5,e),(6,f),(10,g),(20,h)]
theorem rmst_ok (lim : Nat) (H : Heap) (P : List Int) (L : List Pr) (t : Int) :
    ACall sig lim 39 [.agg (raceC P L), AV.i t] H fun r H' => r = .tup [AV.i (mostS P L t).1, AV.i (mostS P L t).2] ∧ H' = H := by
 refine ACall_pure (fa := fa39) rfl rfl rfl rfl ?_
 have tr : ∀ a0 a1 : AV, env0 fa39.keep [a0, a1] = [(0,a0),(1,a1),(2,.any),(4,.any),(5,.any),(6,.any),(10,.any),(20,.any)] := fun a0 a1 => rfl
 refine W_to (tr _ _) ?_; clear tr
 refine at_seq rfl ?_
 refine rg rfl ?_
 refine R_box rfl (by simp (disch := first | omega | (simp only [List.length_map, List.length_append, List.length_set, List.length_cons, List.length_nil]; omega)) only [go_sem, ↓reduceIte, Nat.reduceEqDiff, reduceCtorEq] <;> rfl) rfl rfl ?_
 refine Rq ?_
 refine Rq ?_
 have tr : ∀ a b c d e f g h i j k : AV, let l := lc_rmst_ok a b c d e f g h; trim ((5,k)::(4,j)::(2,i)::l) l = [(0,a),(1,b),(2,i),(4,j),(5,k),(6,f),(10,g),(20,h)] := by intros; rfl
 refine R_nil (tr ..) ?_; clear tr
 refine then_n ?_
 refine at_seq rfl ?_
 refine at_seq rfl ?_
 refine rg rfl ?_
 refine Rq ?_
 refine Rcall ?_
 refine ACall_eq (rchk53_ok _ _ P L) ?_
 refine Rq ?_
 have tr : ∀ a b c d e f g h i j k : AV, let l := lc_rmst_ok a b c d e f g h; trim ((6,k)::(8,j)::(7,i)::l) l = [(0,a),(1,b),(2,c),(4,d),(5,e),(6,k),(10,g),(20,h)] := by intros; rfl
 refine R_nil (tr ..) ?_; clear tr
 refine then_n ?_
 refine at_seq rfl ?_
 refine rg rfl ?_
 refine Rq ?_
 refine Rq ?_
 have tr : ∀ a b c d e f g h i j : AV, let l := lc_rmst_ok a b c d e f g h; trim ((10,j)::(9,i)::l) l = [(0,a),(1,b),(2,c),(4,d),(5,e),(6,f),(10,j),(20,h)] := by intros; rfl
 refine R_nil (tr ..) ?_; clear tr
 refine then_n ?_
 refine cdd (fun h1 => ?_) (fun h1 => ?_)
 ·
  try simp only [decide_eq_true_eq, decide_eq_false_iff_not, Bool.not_eq_true', Bool.not_eq_false', beq_iff_eq, beq_eq_false_iff_ne, ne_eq] at h1
  refine at_seq rfl ?_
  refine rg rfl ?_
  refine Rq ?_
  refine Rq ?_
  refine Rq ?_
  have tr : ∀ a b c d e f g h i j k : AV, let l := lc_rmst_ok a b c d e f g h; trim ((5,k)::(4,j)::(11,i)::l) l = [(0,a),(1,b),(2,c),(4,j),(5,k),(6,f),(10,g),(20,h)] := by intros; rfl
  refine R_nil (tr ..) ?_; clear tr
  refine then_n ?_
  refine at_ret rfl ?_
  refine then_r ?_
  refine fpure ?_
  refine ⟨?_, rfl⟩
  rw [mostS, if_pos (by assumption)]
 ·
  try simp only [decide_eq_true_eq, decide_eq_false_iff_not, Bool.not_eq_true', Bool.not_eq_false', beq_iff_eq, beq_eq_false_iff_ne, ne_eq] at h1
  refine at_skip rfl ?_
  refine then_n ?_
  refine at_seq rfl ?_
  refine at_seq rfl ?_
  refine rg rfl ?_
  have g := rok_of (by assumption : rchkS P L = 0)
  refine Rq ?_
  refine Rq ?_
  refine Rq ?_
  refine Rp_split (fun h2 => ?_) (fun h2 => ?_)
  ·
   try simp only [decide_eq_true_eq, decide_eq_false_iff_not, Bool.not_eq_true', Bool.not_eq_false', beq_iff_eq, beq_eq_false_iff_ne, ne_eq] at h2
   refine Rn ?_
   refine Rn ?_
   refine Rn ?_
   refine Rn ?_
   refine Rn ?_
   refine Rq ?_
   have tr : ∀ a b c d e f g h i j k m n o p q r : AV, let l := lc_rmst_ok a b c d e f g h; trim ((20,r)::(19,q)::(18,p)::(17,o)::(16,n)::(15,m)::(14,k)::(13,j)::(12,i)::l) l = [(0,a),(1,b),(2,c),(4,d),(5,e),(6,f),(10,g),(20,r)] := by intros; rfl
   refine R_nil (tr ..) ?_; clear tr
   refine then_n ?_
   refine cdt ?_
   refine at_seq rfl ?_
   refine rg rfl ?_
   refine Rq ?_
   refine Rq ?_
   have tr : ∀ a b c d e f g h i j : AV, let l := lc_rmst_ok a b c d e f g h; trim ((5,j)::(4,i)::l) l = [(0,a),(1,b),(2,c),(4,i),(5,j),(6,f),(10,g),(20,h)] := by intros; rfl
   refine R_nil (tr ..) ?_; clear tr
   refine then_n ?_
   refine at_ret rfl ?_
   refine then_r ?_
   refine fpure ?_
   refine ⟨?_, rfl⟩
   rw [mostS, if_neg (fun hh => hh (by assumption)), if_pos (by omega)]
  ·
   try simp only [decide_eq_true_eq, decide_eq_false_iff_not, Bool.not_eq_true', Bool.not_eq_false', beq_iff_eq, beq_eq_false_iff_ne, ne_eq] at h2
   refine Ry ?_
   refine Rq ?_
   refine Ry ?_
   refine Rq ?_
   refine Ry ?_
   refine Rq ?_
   refine Ry ?_
   refine Rq ?_
   refine Ry ?_
   refine Rq ?_
   refine Rq ?_
   have tr : ∀ a b c d e f g h i j k m n o p q r : AV, let l := lc_rmst_ok a b c d e f g h; trim ((20,r)::(19,q)::(18,p)::(17,o)::(16,n)::(15,m)::(14,k)::(13,j)::(12,i)::l) l = [(0,a),(1,b),(2,c),(4,d),(5,e),(6,f),(10,g),(20,r)] := by intros; rfl
   refine R_nil (tr ..) ?_; clear tr
   refine then_n ?_
   refine cdd (fun h3 => ?_) (fun h3 => ?_)
   ·
    try simp only [decide_eq_true_eq, decide_eq_false_iff_not, Bool.not_eq_true', Bool.not_eq_false', beq_iff_eq, beq_eq_false_iff_ne, ne_eq] at h3
    refine at_seq rfl ?_
    refine rg rfl ?_
    refine Rq ?_
    refine Rq ?_
    have tr : ∀ a b c d e f g h i j : AV, let l := lc_rmst_ok a b c d e f g h; trim ((5,j)::(4,i)::l) l = [(0,a),(1,b),(2,c),(4,i),(5,j),(6,f),(10,g),(20,h)] := by intros; rfl
    refine R_nil (tr ..) ?_; clear tr
    refine then_n ?_
    refine at_ret rfl ?_
    refine then_r ?_
    refine fpure ?_
    refine ⟨?_, rfl⟩
    rw [mostS, if_neg (fun hh => hh (by assumption)), if_pos (by omega)]
   ·
    try simp only [decide_eq_true_eq, decide_eq_false_iff_not, Bool.not_eq_true', Bool.not_eq_false', beq_iff_eq, beq_eq_false_iff_ne, ne_eq] at h3
    refine at_skip rfl ?_
    refine then_n ?_
    refine at_seq rfl ?_
    refine rg rfl ?_
    refine Rq ?_
    refine Rq ?_
    refine Rcall ?_
    refine ACall_eq (rmost_ok _ _ P L t g (by omega) (by omega)) ?_
    refine Rq ?_
    refine Rq ?_
    have tr : ∀ a b c d e f g h i j k m n : AV, let l := lc_rmst_ok a b c d e f g h; trim ((5,n)::(4,m)::(23,k)::(22,j)::(21,i)::l) l = [(0,a),(1,b),(2,c),(4,m),(5,n),(6,f),(10,g),(20,h)] := by intros; rfl
    refine R_nil (tr ..) ?_; clear tr
    refine then_n ?_
    refine at_ret rfl ?_
    refine fpure ?_
    refine ⟨?_, rfl⟩
    rw [mostS, if_neg (fun hh => hh (by assumption)), if_neg (by omega)]

end Go.Proofs.Ytdicnojnkbmdlaa
end
