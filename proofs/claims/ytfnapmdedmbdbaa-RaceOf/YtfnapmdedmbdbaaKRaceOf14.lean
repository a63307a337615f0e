/-
  Texts of RaceOf, part 15 of 16. Walks of chapter 51. The steps are written by program (walk.py).
-/
import Derived.Test.YtfnapmdedmbdbaaKRaceOf13
import Derived.Test.YtfnapmdedmbdbaaKRaceOf6
import Derived.Test.YtfnapmdedmbdbaaKRaceOf1
import Derived.Test.YtfnapmdedmbdbaaKRaceOf9
import Derived.Test.YtfnapmdedmbdbaaKRaceOf12
import Derived.Test.YtfnapmdedmbdbaaKRaceOf10
import Derived.Test.YtfnapmdedmbdbaaKRaceOf7
section
set_option linter.unusedSimpArgs false
set_option linter.unusedVariables false
set_option maxHeartbeats 1000000
set_option maxRecDepth 20000
namespace Go.Proofs.Ytfnapmdedmbdbaa
open Go Go.Am
abbrev lc_times_ok (a b c d e f g h i j k m n : AV) : Env := [(0,a),(1,b),(2,c),(3,d),(4,e),(5,f),(6,g),(7,h),(8,i),(9,j),(10,k),(12,m),(16,n)]
theorem times_ok (lim : Nat) (H : Heap) (M K : Int) (hM : 0 ≤ M ∧ M ≤ 340282366920938463463374607431768211455) (hK : 0 ≤ K ∧ K ≤ 340282366920938463463374607431768211455) : ACall sig lim 87 [lv M, lv K] H fun r H' => r = .tup [lv (M * K), .v (.bool (decide (M * K ≤ 340282366920938463463374607431768211455)))] ∧ H' = H := by
 refine ACall_pure (fa := fa87) rfl rfl rfl rfl ?_
 have tr : ∀ a0 a1 : AV, env0 fa87.keep [a0, a1] = [(0,a0),(1,a1),(2,.any),(3,.any),(4,.any),(5,.any),(6,.any),(7,.any),(8,.any),(9,.any),(10,.any),(12,.any),(16,.any)] := fun a0 a1 => rfl
 refine W_to (tr _ _) ?_; clear tr
 refine at_seq rfl ?_
 refine rg rfl ?_
 refine A_box rfl (by simp (disch := first | omega | (simp only [List.length_map, List.length_append, List.length_set, List.length_cons, List.length_nil]; omega)) only [go_sem, ↓reduceIte, Nat.reduceEqDiff, reduceCtorEq] <;> rfl) ?_
 intro H1 n1
 have en1 := n1.len
 have q2 := n1.new
 refine A_box rfl (by simp (disch := first | omega | (simp only [List.length_map, List.length_append, List.length_set, List.length_cons, List.length_nil]; omega)) only [go_sem, ↓reduceIte, Nat.reduceEqDiff, reduceCtorEq] <;> rfl) ?_
 intro H2 n2
 have en2 := n2.len
 have q2 := (n2.old _ (hget_lt q2)).trans q2
 have q3 := n2.new
 refine A_alloc rfl ?_
 intro H3 n3
 have en3 := n3.len
 have q2 := (n3.old _ (hget_lt q2)).trans q2
 have q3 := (n3.old _ (hget_lt q3)).trans q3
 have q4 := n3.new
 refine Rq ?_
 have tr : ∀ a b c d e f g h i j k m n o p q r : AV, let l := lc_times_ok a b c d e f g h i j k m n; trim ((5,r)::(4,q)::(3,p)::(2,o)::l) l = [(0,a),(1,b),(2,o),(3,p),(4,q),(5,r),(6,g),(7,h),(8,i),(9,j),(10,k),(12,m),(16,n)] := by intros; rfl
 refine R_nil (tr ..) ?_; clear tr
 refine then_n ?_
 refine at_seq rfl ?_
 refine rg rfl ?_
 refine A_alloc rfl ?_
 intro H4 n4
 have en4 := n4.len
 have q2 := (n4.old _ (hget_lt q2)).trans q2
 have q3 := (n4.old _ (hget_lt q3)).trans q3
 have q4 := (n4.old _ (hget_lt q4)).trans q4
 have q6 := n4.new
 have q6 : hget H4 H3.length = some ((List.replicate 8 (0 : Int)).map u6) := q6
 have la : (lm M).length = 4 := rfl
 have lb : (lm K).length = 4 := rfl
 have tr : ∀ a b c d e f g h i j k m n o : AV, let l := lc_times_ok a b c d e f g h i j k m n; trim ((6,o)::l) l = [(0,a),(1,b),(2,c),(3,d),(4,e),(5,f),(6,o),(7,h),(8,i),(9,j),(10,k),(12,m),(16,n)] := by intros; rfl
 refine R_nil (tr ..) ?_; clear tr
 refine then_n ?_
 refine at_seq rfl ?_
 refine at_seq rfl ?_
 refine rg rfl ?_
 refine Rq ?_
 have tr : ∀ a b c d e f g h i j k m n o : AV, let l := lc_times_ok a b c d e f g h i j k m n; trim ((7,o)::l) l = [(0,a),(1,b),(2,c),(3,d),(4,e),(5,f),(6,g),(7,o),(8,i),(9,j),(10,k),(12,m),(16,n)] := by intros; rfl
 refine R_nil (tr ..) ?_; clear tr
 refine then_n ?_
 refine at_block rfl ?_
 refine loop_n rfl (fun mm kv H' => ∃ i : Nat, ∃ l : List Int, ∃ x8 x9 x10 x12 x16 : AV, (kv = [(7, AV.i i), (8, x8), (9, x9), (10, x10), (12, x12), (16, x16)]) ∧ (mm = 4 - i) ∧ (i ≤ 4) ∧ (hget H' H.length = some ((lm M).map u6)) ∧ (hget H' H1.length = some ((lm K).map u6)) ∧ (hget H' H2.length = some ([0, 0, 0, 0].map u6)) ∧ (hget H' H3.length = some (l.map u6)) ∧ (l.length = 8) ∧ (∀ j, j < 8 → 0 ≤ gt l j ∧ gt l j ≤ 4294967295) ∧ (∀ j, i + 4 ≤ j → gt l j = 0) ∧ (val l = M % pw i * K)) ⟨0, List.replicate 8 0, _, _, _, _, _, rfl, rfl, by omega, by exact q2, by exact q3, by exact q4, by exact q6, by rfl, by (intro j hj; rw [gt_zero8]; omega), by (intro j hj; exact gt_zero8 j), by (simp [pw, val, List.replicate, Int.emod_one])⟩ (by rfl) ?_
 rintro mm kv HO ⟨i, l, x8, x9, x10, x12, x16, rfl, rfl, hi, q2, q3, q4, q6, hl, hr, hz, hv⟩
 have tr : ∀ a b c d e f g h i j k m n o p q r s t : AV, upd [(0,a),(1,b),(2,c),(3,d),(4,e),(5,f),(6,g),(7,h),(8,i),(9,j),(10,k),(12,m),(16,n)] [(7,o),(8,p),(9,q),(10,r),(12,s),(16,t)] = [(0,a),(1,b),(2,c),(3,d),(4,e),(5,f),(6,g),(7,o),(8,p),(9,q),(10,r),(12,s),(16,t)] := by intros; rfl
 refine W_to (tr ..) ?_; clear tr
 refine at_seq rfl ?_
 refine at_seq rfl ?_
 refine rg rfl ?_
 refine Rq ?_
 refine Rq ?_
 have tr : ∀ a b c d e f g h i j k m n o p : AV, let l := lc_times_ok a b c d e f g h i j k m n; trim ((12,p)::(11,o)::l) l = [(0,a),(1,b),(2,c),(3,d),(4,e),(5,f),(6,g),(7,h),(8,i),(9,j),(10,k),(12,p),(16,n)] := by intros; rfl
 refine R_nil (tr ..) ?_; clear tr
 refine then_n ?_
 refine cdd (fun h1 => ?_) (fun h1 => ?_)
 ·
  try simp only [decide_eq_true_eq, decide_eq_false_iff_not, decide_eq_decide, Bool.not_eq_true', Bool.not_eq_false', beq_iff_eq, beq_eq_false_iff_ne, ne_eq, Bool.and_eq_true, Bool.and_eq_false_iff, decide_not] at h1
  refine at_skip rfl ?_
  refine then_n ?_
  refine at_seq rfl ?_
  refine at_block rfl ?_
  refine at_seq rfl ?_
  refine rg rfl ?_
  refine Rq ?_
  have tr : ∀ a b c d e f g h i j k m n o : AV, let l := lc_times_ok a b c d e f g h i j k m n; trim ((8,o)::l) l = [(0,a),(1,b),(2,c),(3,d),(4,e),(5,f),(6,g),(7,h),(8,o),(9,j),(10,k),(12,m),(16,n)] := by intros; rfl
  refine R_nil (tr ..) ?_; clear tr
  refine then_n ?_
  refine at_seq rfl ?_
  refine at_seq rfl ?_
  refine rg rfl ?_
  refine Rq ?_
  have tr : ∀ a b c d e f g h i j k m n o : AV, let l := lc_times_ok a b c d e f g h i j k m n; trim ((9,o)::l) l = [(0,a),(1,b),(2,c),(3,d),(4,e),(5,f),(6,g),(7,h),(8,i),(9,o),(10,k),(12,m),(16,n)] := by intros; rfl
  refine R_nil (tr ..) ?_; clear tr
  refine then_n ?_
  refine at_block rfl ?_
  refine loop_n rfl (fun mm kv H' => ∃ k : Nat, ∃ l2 : List Int, ∃ c : Int, ∃ x10 x16 : AV, (kv = [(8, u6 c), (9, AV.i k), (10, x10), (16, x16)]) ∧ (mm = 4 - k) ∧ (k ≤ 4) ∧ (hget H' H.length = some ((lm M).map u6)) ∧ (hget H' H1.length = some ((lm K).map u6)) ∧ (hget H' H2.length = some ([0, 0, 0, 0].map u6)) ∧ (hget H' H3.length = some (l2.map u6)) ∧ (l2.length = 8) ∧ (∀ j, j < 8 → 0 ≤ gt l2 j ∧ gt l2 j ≤ 4294967295) ∧ (∀ j, i + 4 ≤ j → gt l2 j = 0) ∧ (0 ≤ c ∧ c ≤ 4294967295) ∧ (val l2 + c * pw (i + k) = M % pw i * K + gt (lm M) i * pw i * (K % pw k))) ⟨0, l, 0, _, _, rfl, rfl, by omega, by exact q2, by exact q3, by exact q4, by exact q6, by exact hl, by exact hr, by exact hz, by omega, by exact times_init hv⟩ (by rfl) ?_
  rintro mm kv HI ⟨k, l2, c, x10, x16, rfl, rfl, hk, q2, q3, q4, q6, hl2, hr2, hz2, hc, hv2⟩
  have tr : ∀ a b c d e f g h i j k m n o p q r : AV, upd [(0,a),(1,b),(2,c),(3,d),(4,e),(5,f),(6,g),(7,h),(8,i),(9,j),(10,k),(12,m),(16,n)] [(8,o),(9,p),(10,q),(16,r)] = [(0,a),(1,b),(2,c),(3,d),(4,e),(5,f),(6,g),(7,h),(8,o),(9,p),(10,q),(12,m),(16,r)] := by intros; rfl
  refine W_to (tr ..) ?_; clear tr
  refine at_seq rfl ?_
  refine at_seq rfl ?_
  refine rg rfl ?_
  refine Rq ?_
  refine Rq ?_
  have tr : ∀ a b c d e f g h i j k m n o p : AV, let l := lc_times_ok a b c d e f g h i j k m n; trim ((16,p)::(15,o)::l) l = [(0,a),(1,b),(2,c),(3,d),(4,e),(5,f),(6,g),(7,h),(8,i),(9,j),(10,k),(12,m),(16,p)] := by intros; rfl
  refine R_nil (tr ..) ?_; clear tr
  refine then_n ?_
  refine cdd (fun h2 => ?_) (fun h2 => ?_)
  ·
   try simp only [decide_eq_true_eq, decide_eq_false_iff_not, decide_eq_decide, Bool.not_eq_true', Bool.not_eq_false', beq_iff_eq, beq_eq_false_iff_ne, ne_eq, Bool.and_eq_true, Bool.and_eq_false_iff, decide_not] at h2
   refine at_skip rfl ?_
   refine then_n ?_
   refine at_seq rfl ?_
   refine at_block rfl ?_
   refine at_seq rfl ?_
   refine rd rfl rfl ?_
   have ha := lm_rng M i (by omega)
   have hb := lm_rng K k (by omega)
   have hx := hr2 (i + k) (by omega)
   have hab0 := mul_pos' ha.1 hb.1
   have hab1 := mul_le' ha.1 ha.2 hb.1 hb.2
   have lq6 := hget_lt q6
   refine Qq ?_
   refine Qq ?_
   refine Q_q rfl (by simp (disch := first | omega | (simp only [List.length_map, List.length_append, List.length_set, List.length_cons, List.length_nil]; omega)) only [go_sem, ↓reduceIte, Nat.reduceEqDiff, reduceCtorEq, q2] <;> rfl) ?_
   refine Qq ?_
   refine Qq ?_
   refine Q_q rfl (by simp (disch := first | omega | (simp only [List.length_map, List.length_append, List.length_set, List.length_cons, List.length_nil]; omega)) only [go_sem, ↓reduceIte, Nat.reduceEqDiff, reduceCtorEq, q3] <;> rfl) ?_
   refine Qq ?_
   refine Qq ?_
   refine Qq ?_
   refine Qq ?_
   refine Q_q rfl (by simp (disch := first | omega | (simp only [List.length_map, List.length_append, List.length_set, List.length_cons, List.length_nil]; omega)) only [go_sem, ↓reduceIte, Nat.reduceEqDiff, reduceCtorEq, toNat_add] <;> rfl) ?_
   refine Q_q rfl (by simp (disch := first | omega | (simp only [List.length_map, List.length_append, List.length_set, List.length_cons, List.length_nil]; omega)) only [go_sem, ↓reduceIte, Nat.reduceEqDiff, reduceCtorEq, q6, toNat_add] <;> rfl) ?_
   refine Qq ?_
   refine Qq ?_
   refine Qq ?_
   refine Qq ?_
   refine Q_nil ?_
   have tr : ∀ a b c d e f g h i j k m n o p q r s t u v w x y z A B C D : AV, let l := lc_times_ok a b c d e f g h i j k m n; trim ((10,D)::(33,C)::(32,B)::(31,A)::(30,z)::(29,y)::(28,x)::(27,w)::(26,v)::(25,u)::(24,t)::(23,s)::(22,r)::(21,q)::(20,p)::(19,o)::l) l = [(0,a),(1,b),(2,c),(3,d),(4,e),(5,f),(6,g),(7,h),(8,i),(9,j),(10,D),(12,m),(16,n)] := by intros; rfl
   refine R_nil (tr ..) ?_; clear tr
   obtain ⟨n, hn⟩ : ∃ n, n = gt (lm M) i * gt (lm K) k + gt l2 (i + k) + c := ⟨_, rfl⟩
   rw [← hn]
   have hn1 : 0 ≤ n ∧ n ≤ 18446744073709551615 := by omega
   refine then_n ?_
   refine rg rfl ?_
   refine Rq ?_
   refine Rq ?_
   refine Rq ?_
   refine Rq ?_
   refine R_q (r := u6 (n % 4294967296)) rfl (by simp only [go_sem, ↓reduceIte, Nat.reduceEqDiff]; exact and32 _ (by omega) (by omega) 111) ?_
   refine Rq ?_
   refine R_q (r := u6 (n / 4294967296)) rfl (by simp only [go_sem, ↓reduceIte, Nat.reduceEqDiff]; exact shr32 _ 111 _) ?_
   refine R_q rfl (by simp (disch := first | omega | (simp only [List.length_map, List.length_append, List.length_set, List.length_cons, List.length_nil]; omega)) only [go_sem, ↓reduceIte, Nat.reduceEqDiff, reduceCtorEq, toNat_add] <;> rfl) ?_
   have lq2 := hget_lt q2
   have lq3 := hget_lt q3
   have lq4 := hget_lt q4
   have lq6 := hget_lt q6
   refine A_store ty111 (by simp (disch := first | omega | (simp only [List.length_map, List.length_append, List.length_set, List.length_cons, List.length_nil]; omega)) only [go_sem, ↓reduceIte, Nat.reduceEqDiff, reduceCtorEq] <;> rfl) (by simp (disch := first | omega | (simp only [List.length_map, List.length_append, List.length_set, List.length_cons, List.length_nil]; omega)) only [go_sem, ↓reduceIte, Nat.reduceEqDiff, reduceCtorEq] <;> rfl) q6 ⟨by omega, rfl, by simp only [List.length_map]; omega⟩ (k' := (l2.set (i + k) (n % 4294967296)).map u6) (by show List.set _ _ _ = _; rw [List.map_set]) ?_
   intro H6 w6
   refine Rq ?_
   have tr : ∀ a b c d e f g h i j k m n o p q r s t u v w : AV, let l := lc_times_ok a b c d e f g h i j k m n; trim ((8,w)::(41,v)::(40,u)::(39,t)::(38,s)::(37,r)::(36,q)::(35,p)::(34,o)::l) l = [(0,a),(1,b),(2,c),(3,d),(4,e),(5,f),(6,g),(7,h),(8,w),(9,j),(10,k),(12,m),(16,n)] := by intros; rfl
   refine R_nil (tr ..) ?_; clear tr
   refine blk_n ?_
   refine then_n ?_
   refine rg rfl ?_
   refine Rq ?_
   refine Rq ?_
   refine Rq ?_
   have tr : ∀ a b c d e f g h i j k m n o p q : AV, let l := lc_times_ok a b c d e f g h i j k m n; trim ((9,q)::(18,p)::(17,o)::l) l = [(0,a),(1,b),(2,c),(3,d),(4,e),(5,f),(6,g),(7,h),(8,i),(9,q),(10,k),(12,m),(16,n)] := by intros; rfl
   refine R_nil (tr ..) ?_; clear tr
   refine then_n ?_
   exact ⟨_, _, ⟨k + 1, l2.set (i + k) (n % 4294967296), n / 4294967296, _, _, rfl, rfl, by omega, by exact w6.old _ (by omega) |>.trans q2, by exact w6.old _ (by omega) |>.trans q3, by exact w6.old _ (by omega) |>.trans q4, by exact w6.new, by (rw [List.length_set]; exact hl2), by (intro j hj; rw [gt_set _ _ _ _ (by omega)]; split; omega; exact hr2 j hj), by (intro j hj; rw [gt_set _ _ _ _ (by omega), if_neg (by omega)]; exact hz2 j hj), by omega, by exact times_step hl2 (by omega) (by omega) hx hc hv2 hn⟩, by rfl, by omega⟩
  ·
   try simp only [decide_eq_true_eq, decide_eq_false_iff_not, decide_eq_decide, Bool.not_eq_true', Bool.not_eq_false', beq_iff_eq, beq_eq_false_iff_ne, ne_eq, Bool.and_eq_true, Bool.and_eq_false_iff, decide_not] at h2
   refine at_exit rfl ?_
   refine then_x ?_
   refine then_x ?_
   refine blk_x ?_
   refine then_n ?_
   refine rg rfl ?_
   refine Rq ?_
   refine Rq ?_
   refine Rq ?_
   refine R_q rfl (by simp (disch := first | omega | (simp only [List.length_map, List.length_append, List.length_set, List.length_cons, List.length_nil]; omega)) only [go_sem, ↓reduceIte, Nat.reduceEqDiff, reduceCtorEq, toNat_add4] <;> rfl) ?_
   obtain rfl : k = 4 := by omega
   have lq2 := hget_lt q2
   have lq3 := hget_lt q3
   have lq4 := hget_lt q4
   have lq6 := hget_lt q6
   refine A_store ty111 (by simp (disch := first | omega | (simp only [List.length_map, List.length_append, List.length_set, List.length_cons, List.length_nil]; omega)) only [go_sem, ↓reduceIte, Nat.reduceEqDiff, reduceCtorEq] <;> rfl) (by simp (disch := first | omega | (simp only [List.length_map, List.length_append, List.length_set, List.length_cons, List.length_nil]; omega)) only [go_sem, ↓reduceIte, Nat.reduceEqDiff, reduceCtorEq] <;> rfl) q6 ⟨by omega, rfl, by simp only [List.length_map]; omega⟩ (k' := (l2.set (i + 4) c).map u6) (by show List.set _ _ _ = _; rw [List.map_set]) ?_
   intro H7 w7
   have tr : ∀ a b c d e f g h i j k m n o p q r : AV, let l := lc_times_ok a b c d e f g h i j k m n; trim ((45,r)::(44,q)::(43,p)::(42,o)::l) l = [(0,a),(1,b),(2,c),(3,d),(4,e),(5,f),(6,g),(7,h),(8,i),(9,j),(10,k),(12,m),(16,n)] := by intros; rfl
   refine R_nil (tr ..) ?_; clear tr
   refine blk_n ?_
   refine then_n ?_
   refine rg rfl ?_
   refine Rq ?_
   refine Rq ?_
   refine Rq ?_
   have tr : ∀ a b c d e f g h i j k m n o p q : AV, let l := lc_times_ok a b c d e f g h i j k m n; trim ((7,q)::(14,p)::(13,o)::l) l = [(0,a),(1,b),(2,c),(3,d),(4,e),(5,f),(6,g),(7,q),(8,i),(9,j),(10,k),(12,m),(16,n)] := by intros; rfl
   refine R_nil (tr ..) ?_; clear tr
   refine then_n ?_
   exact ⟨_, _, ⟨i + 1, l2.set (i + 4) c, _, _, _, _, _, rfl, rfl, by omega, by exact w7.old _ (by omega) |>.trans q2, by exact w7.old _ (by omega) |>.trans q3, by exact w7.old _ (by omega) |>.trans q4, by exact w7.new, by (rw [List.length_set]; exact hl2), by (intro j hj; rw [gt_set _ _ _ _ (by omega)]; split; exact hc; exact hr2 j hj), by (intro j hj; rw [gt_set _ _ _ _ (by omega), if_neg (by omega)]; exact hz2 j (by omega)), by exact times_row hK hl2 (by omega) (hz2 _ (Nat.le_refl _)) hv2⟩, by rfl, by omega⟩
 ·
  try simp only [decide_eq_true_eq, decide_eq_false_iff_not, decide_eq_decide, Bool.not_eq_true', Bool.not_eq_false', beq_iff_eq, beq_eq_false_iff_ne, ne_eq, Bool.and_eq_true, Bool.and_eq_false_iff, decide_not] at h1
  refine at_exit rfl ?_
  refine then_x ?_
  refine then_x ?_
  refine blk_x ?_
  refine then_n ?_
  refine at_seq rfl ?_
  refine rl rfl rfl ?_
  obtain rfl : i = 4 := by omega
  have hP := times_end hM hv
  obtain ⟨x0, x1, x2, x3, x4, x5, x6, x7, rfl⟩ := eight hl
  have b0 : 0 ≤ x0 ∧ x0 ≤ 4294967295 := hr 0 (by decide)
  have b1 : 0 ≤ x1 ∧ x1 ≤ 4294967295 := hr 1 (by decide)
  have b2 : 0 ≤ x2 ∧ x2 ≤ 4294967295 := hr 2 (by decide)
  have b3 : 0 ≤ x3 ∧ x3 ≤ 4294967295 := hr 3 (by decide)
  have b4 : 0 ≤ x4 ∧ x4 ≤ 4294967295 := hr 4 (by decide)
  have b5 : 0 ≤ x5 ∧ x5 ≤ 4294967295 := hr 5 (by decide)
  have b6 : 0 ≤ x6 ∧ x6 ≤ 4294967295 := hr 6 (by decide)
  have b7 : 0 ≤ x7 ∧ x7 ≤ 4294967295 := hr 7 (by decide)
  simp only [val] at hP
  obtain ⟨P, hPP⟩ : ∃ P, P = M * K := ⟨_, rfl⟩
  rw [← hPP] at hP ⊢
  have q6 : hget HO H3.length = some [u6 x0, u6 x1, u6 x2, u6 x3, u6 x4, u6 x5, u6 x6, u6 x7] := q6
  have q4 : hget HO H2.length = some [u6 0, u6 0, u6 0, u6 0] := q4
  refine Lq ?_
  refine L_q rfl (by simp (disch := first | omega | (simp only [List.length_map, List.length_append, List.length_set, List.length_cons, List.length_nil]; omega)) only [go_sem, ↓reduceIte, Nat.reduceEqDiff, reduceCtorEq, q6] <;> rfl) rfl ?_
  refine Lq ?_
  refine L_q rfl (by simp (disch := first | omega | (simp only [List.length_map, List.length_append, List.length_set, List.length_cons, List.length_nil]; omega)) only [go_sem, ↓reduceIte, Nat.reduceEqDiff, reduceCtorEq, q6] <;> rfl) rfl ?_
  refine Lq ?_
  refine L_q rfl (by simp (disch := first | omega | (simp only [List.length_map, List.length_append, List.length_set, List.length_cons, List.length_nil]; omega)) only [go_sem, ↓reduceIte, Nat.reduceEqDiff, reduceCtorEq, q6] <;> rfl) rfl ?_
  refine Lq ?_
  refine L_q rfl (by simp (disch := first | omega | (simp only [List.length_map, List.length_append, List.length_set, List.length_cons, List.length_nil]; omega)) only [go_sem, ↓reduceIte, Nat.reduceEqDiff, reduceCtorEq, q6] <;> rfl) rfl ?_
  refine Lq ?_
  refine Lq ?_
  refine L_q rfl (by simp (disch := first | omega | (simp only [List.length_map, List.length_append, List.length_set, List.length_cons, List.length_nil]; omega)) only [go_sem, ↓reduceIte, Nat.reduceEqDiff, reduceCtorEq, q6] <;> rfl) rfl ?_
  refine Lq ?_
  refine Lq ?_
  refine Lp_split (fun h3 => ?_) (fun h3 => ?_)
  ·
   try simp only [decide_eq_true_eq, decide_eq_false_iff_not, decide_eq_decide, Bool.not_eq_true', Bool.not_eq_false', beq_iff_eq, beq_eq_false_iff_ne, ne_eq, Bool.and_eq_true, Bool.and_eq_false_iff, decide_not] at h3
   refine Ly ?_
   refine Lq ?_
   refine Ly ?_
   refine L_q rfl (by simp (disch := first | omega | (simp only [List.length_map, List.length_append, List.length_set, List.length_cons, List.length_nil]; omega)) only [go_sem, ↓reduceIte, Nat.reduceEqDiff, reduceCtorEq, q6] <;> rfl) rfl ?_
   refine Ly ?_
   refine Lq ?_
   refine Lq ?_
   refine Lq ?_
   refine Lp_split (fun h4 => ?_) (fun h4 => ?_)
   ·
    try simp only [decide_eq_true_eq, decide_eq_false_iff_not, decide_eq_decide, Bool.not_eq_true', Bool.not_eq_false', beq_iff_eq, beq_eq_false_iff_ne, ne_eq, Bool.and_eq_true, Bool.and_eq_false_iff, decide_not] at h4
    refine Ly ?_
    refine Lq ?_
    refine Ly ?_
    refine L_q rfl (by simp (disch := first | omega | (simp only [List.length_map, List.length_append, List.length_set, List.length_cons, List.length_nil]; omega)) only [go_sem, ↓reduceIte, Nat.reduceEqDiff, reduceCtorEq, q6] <;> rfl) rfl ?_
    refine Ly ?_
    refine Lq ?_
    refine Lq ?_
    refine Lq ?_
    refine Lp_split (fun h5 => ?_) (fun h5 => ?_)
    ·
     try simp only [decide_eq_true_eq, decide_eq_false_iff_not, decide_eq_decide, Bool.not_eq_true', Bool.not_eq_false', beq_iff_eq, beq_eq_false_iff_ne, ne_eq, Bool.and_eq_true, Bool.and_eq_false_iff, decide_not] at h5
     refine Ly ?_
     refine Lq ?_
     refine Ly ?_
     refine L_q rfl (by simp (disch := first | omega | (simp only [List.length_map, List.length_append, List.length_set, List.length_cons, List.length_nil]; omega)) only [go_sem, ↓reduceIte, Nat.reduceEqDiff, reduceCtorEq, q6] <;> rfl) rfl ?_
     refine Ly ?_
     refine Lq ?_
     refine Lq ?_
     refine L_nil ?_
     refine Ms ?_ (wrC_store (by first | rfl | (simp (disch := first | omega | (simp only [List.length_map, List.length_append, List.length_set, List.length_cons, List.length_nil]; omega)) only [go_sem, ↓reduceIte, Nat.reduceEqDiff, reduceCtorEq] <;> rfl)) (by simp only [rdV, isLoad, go_sem, ↓reduceIte, Nat.reduceEqDiff, List.mem_cons, List.not_mem_nil, or_false, List.append_nil, List.nil_append, List.cons_append, not_or]; omega))
     refine A_store ty141 (by simp (disch := first | omega | (simp only [List.length_map, List.length_append, List.length_set, List.length_cons, List.length_nil]; omega)) only [go_sem, ↓reduceIte, Nat.reduceEqDiff, reduceCtorEq] <;> rfl) (by simp (disch := first | omega | (simp only [List.length_map, List.length_append, List.length_set, List.length_cons, List.length_nil]; omega)) only [go_sem, ↓reduceIte, Nat.reduceEqDiff, reduceCtorEq] <;> rfl) q4 ⟨by omega, rfl, by decide⟩ (k' := [u6 x0, u6 x1, u6 x2, u6 x3]) rfl ?_
     intro H8 w8
     have q8 := w8.new
     refine R_end ?_
     refine M_nil ?_
     refine Rq ?_
     have tr : ∀ a b c d e f g h i j k m n o p q r s t u v w x y z A B C D E F G H I J K L M N O P : AV, let l := lc_times_ok a b c d e f g h i j k m n; trim ((5,P)::(72,O)::(71,N)::(70,M)::(69,L)::(68,K)::(67,J)::(66,I)::(65,H)::(64,G)::(63,F)::(62,E)::(61,D)::(60,C)::(59,B)::(58,A)::(57,z)::(56,y)::(55,x)::(54,w)::(53,v)::(52,u)::(51,t)::(50,s)::(49,r)::(48,q)::(47,p)::(46,o)::l) l = [(0,a),(1,b),(2,c),(3,d),(4,e),(5,P),(6,g),(7,h),(8,i),(9,j),(10,k),(12,m),(16,n)] := by intros; rfl
     refine R_nil (tr ..) ?_; clear tr
     refine then_n ?_
     refine at_ret rfl ?_
     refine fin_pure (rs := [.cell 4 141, .tmp 5]) rfl (by first | (simp (disch := first | omega | (simp only [List.length_map, List.length_append, List.length_set, List.length_cons, List.length_nil]; omega)) only [go_sem, ↓reduceIte, Nat.reduceEqDiff, reduceCtorEq, q8] <;> rfl) | rfl) (by first | rfl | (simp (disch := first | omega | (simp only [List.length_map, List.length_append, List.length_set, List.length_cons, List.length_nil]; omega)) only [go_sem, ↓reduceIte, Nat.reduceEqDiff, reduceCtorEq] <;> rfl)) ?_
     refine ⟨?_, rfl⟩
     exact tupL (by omega) (by omega) (by omega) (by omega) (by first | (exact (decide_eq_true (by omega)).symm) | (exact (decide_eq_false (by omega)).symm) | (rw [Bool.eq_iff_iff]; simp only [beq_iff_eq, decide_eq_true_eq]; omega) | (simp; omega))
    ·
     try simp only [decide_eq_true_eq, decide_eq_false_iff_not, decide_eq_decide, Bool.not_eq_true', Bool.not_eq_false', beq_iff_eq, beq_eq_false_iff_ne, ne_eq, Bool.and_eq_true, Bool.and_eq_false_iff, decide_not] at h5
     refine Ln ?_
     refine Ln ?_
     refine Ln ?_
     refine Lq ?_
     refine L_nil ?_
     refine Ms ?_ (wrC_store (by first | rfl | (simp (disch := first | omega | (simp only [List.length_map, List.length_append, List.length_set, List.length_cons, List.length_nil]; omega)) only [go_sem, ↓reduceIte, Nat.reduceEqDiff, reduceCtorEq] <;> rfl)) (by simp only [rdV, isLoad, go_sem, ↓reduceIte, Nat.reduceEqDiff, List.mem_cons, List.not_mem_nil, or_false, List.append_nil, List.nil_append, List.cons_append, not_or]; omega))
     refine A_store ty141 (by simp (disch := first | omega | (simp only [List.length_map, List.length_append, List.length_set, List.length_cons, List.length_nil]; omega)) only [go_sem, ↓reduceIte, Nat.reduceEqDiff, reduceCtorEq] <;> rfl) (by simp (disch := first | omega | (simp only [List.length_map, List.length_append, List.length_set, List.length_cons, List.length_nil]; omega)) only [go_sem, ↓reduceIte, Nat.reduceEqDiff, reduceCtorEq] <;> rfl) q4 ⟨by omega, rfl, by decide⟩ (k' := [u6 x0, u6 x1, u6 x2, u6 x3]) rfl ?_
     intro H8 w8
     have q8 := w8.new
     refine R_end ?_
     refine M_nil ?_
     refine Rq ?_
     have tr : ∀ a b c d e f g h i j k m n o p q r s t u v w x y z A B C D E F G H I J K L M N O P : AV, let l := lc_times_ok a b c d e f g h i j k m n; trim ((5,P)::(72,O)::(71,N)::(70,M)::(69,L)::(68,K)::(67,J)::(66,I)::(65,H)::(64,G)::(63,F)::(62,E)::(61,D)::(60,C)::(59,B)::(58,A)::(57,z)::(56,y)::(55,x)::(54,w)::(53,v)::(52,u)::(51,t)::(50,s)::(49,r)::(48,q)::(47,p)::(46,o)::l) l = [(0,a),(1,b),(2,c),(3,d),(4,e),(5,P),(6,g),(7,h),(8,i),(9,j),(10,k),(12,m),(16,n)] := by intros; rfl
     refine R_nil (tr ..) ?_; clear tr
     refine then_n ?_
     refine at_ret rfl ?_
     refine fin_pure (rs := [.cell 4 141, .tmp 5]) rfl (by first | (simp (disch := first | omega | (simp only [List.length_map, List.length_append, List.length_set, List.length_cons, List.length_nil]; omega)) only [go_sem, ↓reduceIte, Nat.reduceEqDiff, reduceCtorEq, q8] <;> rfl) | rfl) (by first | rfl | (simp (disch := first | omega | (simp only [List.length_map, List.length_append, List.length_set, List.length_cons, List.length_nil]; omega)) only [go_sem, ↓reduceIte, Nat.reduceEqDiff, reduceCtorEq] <;> rfl)) ?_
     refine ⟨?_, rfl⟩
     exact tupL (by omega) (by omega) (by omega) (by omega) (by first | (exact (decide_eq_true (by omega)).symm) | (exact (decide_eq_false (by omega)).symm) | (rw [Bool.eq_iff_iff]; simp only [beq_iff_eq, decide_eq_true_eq]; omega) | (simp; omega))
   ·
    try simp only [decide_eq_true_eq, decide_eq_false_iff_not, decide_eq_decide, Bool.not_eq_true', Bool.not_eq_false', beq_iff_eq, beq_eq_false_iff_ne, ne_eq, Bool.and_eq_true, Bool.and_eq_false_iff, decide_not] at h4
    refine Ln ?_
    refine Ln ?_
    refine Ln ?_
    refine Lq ?_
    refine Lq ?_
    refine Ln ?_
    refine Ln ?_
    refine Ln ?_
    refine Lq ?_
    refine L_nil ?_
    refine Ms ?_ (wrC_store (by first | rfl | (simp (disch := first | omega | (simp only [List.length_map, List.length_append, List.length_set, List.length_cons, List.length_nil]; omega)) only [go_sem, ↓reduceIte, Nat.reduceEqDiff, reduceCtorEq] <;> rfl)) (by simp only [rdV, isLoad, go_sem, ↓reduceIte, Nat.reduceEqDiff, List.mem_cons, List.not_mem_nil, or_false, List.append_nil, List.nil_append, List.cons_append, not_or]; omega))
    refine A_store ty141 (by simp (disch := first | omega | (simp only [List.length_map, List.length_append, List.length_set, List.length_cons, List.length_nil]; omega)) only [go_sem, ↓reduceIte, Nat.reduceEqDiff, reduceCtorEq] <;> rfl) (by simp (disch := first | omega | (simp only [List.length_map, List.length_append, List.length_set, List.length_cons, List.length_nil]; omega)) only [go_sem, ↓reduceIte, Nat.reduceEqDiff, reduceCtorEq] <;> rfl) q4 ⟨by omega, rfl, by decide⟩ (k' := [u6 x0, u6 x1, u6 x2, u6 x3]) rfl ?_
    intro H8 w8
    have q8 := w8.new
    refine R_end ?_
    refine M_nil ?_
    refine Rq ?_
    have tr : ∀ a b c d e f g h i j k m n o p q r s t u v w x y z A B C D E F G H I J K L M N O P : AV, let l := lc_times_ok a b c d e f g h i j k m n; trim ((5,P)::(72,O)::(71,N)::(70,M)::(69,L)::(68,K)::(67,J)::(66,I)::(65,H)::(64,G)::(63,F)::(62,E)::(61,D)::(60,C)::(59,B)::(58,A)::(57,z)::(56,y)::(55,x)::(54,w)::(53,v)::(52,u)::(51,t)::(50,s)::(49,r)::(48,q)::(47,p)::(46,o)::l) l = [(0,a),(1,b),(2,c),(3,d),(4,e),(5,P),(6,g),(7,h),(8,i),(9,j),(10,k),(12,m),(16,n)] := by intros; rfl
    refine R_nil (tr ..) ?_; clear tr
    refine then_n ?_
    refine at_ret rfl ?_
    refine fin_pure (rs := [.cell 4 141, .tmp 5]) rfl (by first | (simp (disch := first | omega | (simp only [List.length_map, List.length_append, List.length_set, List.length_cons, List.length_nil]; omega)) only [go_sem, ↓reduceIte, Nat.reduceEqDiff, reduceCtorEq, q8] <;> rfl) | rfl) (by first | rfl | (simp (disch := first | omega | (simp only [List.length_map, List.length_append, List.length_set, List.length_cons, List.length_nil]; omega)) only [go_sem, ↓reduceIte, Nat.reduceEqDiff, reduceCtorEq] <;> rfl)) ?_
    refine ⟨?_, rfl⟩
    exact tupL (by omega) (by omega) (by omega) (by omega) (by first | (exact (decide_eq_true (by omega)).symm) | (exact (decide_eq_false (by omega)).symm) | (rw [Bool.eq_iff_iff]; simp only [beq_iff_eq, decide_eq_true_eq]; omega) | (simp; omega))
  ·
   try simp only [decide_eq_true_eq, decide_eq_false_iff_not, decide_eq_decide, Bool.not_eq_true', Bool.not_eq_false', beq_iff_eq, beq_eq_false_iff_ne, ne_eq, Bool.and_eq_true, Bool.and_eq_false_iff, decide_not] at h3
   refine Ln ?_
   refine Ln ?_
   refine Ln ?_
   refine Lq ?_
   refine Lq ?_
   refine Ln ?_
   refine Ln ?_
   refine Ln ?_
   refine Lq ?_
   refine Lq ?_
   refine Ln ?_
   refine Ln ?_
   refine Ln ?_
   refine Lq ?_
   refine L_nil ?_
   refine Ms ?_ (wrC_store (by first | rfl | (simp (disch := first | omega | (simp only [List.length_map, List.length_append, List.length_set, List.length_cons, List.length_nil]; omega)) only [go_sem, ↓reduceIte, Nat.reduceEqDiff, reduceCtorEq] <;> rfl)) (by simp only [rdV, isLoad, go_sem, ↓reduceIte, Nat.reduceEqDiff, List.mem_cons, List.not_mem_nil, or_false, List.append_nil, List.nil_append, List.cons_append, not_or]; omega))
   refine A_store ty141 (by simp (disch := first | omega | (simp only [List.length_map, List.length_append, List.length_set, List.length_cons, List.length_nil]; omega)) only [go_sem, ↓reduceIte, Nat.reduceEqDiff, reduceCtorEq] <;> rfl) (by simp (disch := first | omega | (simp only [List.length_map, List.length_append, List.length_set, List.length_cons, List.length_nil]; omega)) only [go_sem, ↓reduceIte, Nat.reduceEqDiff, reduceCtorEq] <;> rfl) q4 ⟨by omega, rfl, by decide⟩ (k' := [u6 x0, u6 x1, u6 x2, u6 x3]) rfl ?_
   intro H8 w8
   have q8 := w8.new
   refine R_end ?_
   refine M_nil ?_
   refine Rq ?_
   have tr : ∀ a b c d e f g h i j k m n o p q r s t u v w x y z A B C D E F G H I J K L M N O P : AV, let l := lc_times_ok a b c d e f g h i j k m n; trim ((5,P)::(72,O)::(71,N)::(70,M)::(69,L)::(68,K)::(67,J)::(66,I)::(65,H)::(64,G)::(63,F)::(62,E)::(61,D)::(60,C)::(59,B)::(58,A)::(57,z)::(56,y)::(55,x)::(54,w)::(53,v)::(52,u)::(51,t)::(50,s)::(49,r)::(48,q)::(47,p)::(46,o)::l) l = [(0,a),(1,b),(2,c),(3,d),(4,e),(5,P),(6,g),(7,h),(8,i),(9,j),(10,k),(12,m),(16,n)] := by intros; rfl
   refine R_nil (tr ..) ?_; clear tr
   refine then_n ?_
   refine at_ret rfl ?_
   refine fin_pure (rs := [.cell 4 141, .tmp 5]) rfl (by first | (simp (disch := first | omega | (simp only [List.length_map, List.length_append, List.length_set, List.length_cons, List.length_nil]; omega)) only [go_sem, ↓reduceIte, Nat.reduceEqDiff, reduceCtorEq, q8] <;> rfl) | rfl) (by first | rfl | (simp (disch := first | omega | (simp only [List.length_map, List.length_append, List.length_set, List.length_cons, List.length_nil]; omega)) only [go_sem, ↓reduceIte, Nat.reduceEqDiff, reduceCtorEq] <;> rfl)) ?_
   refine ⟨?_, rfl⟩
   exact tupL (by omega) (by omega) (by omega) (by omega) (by first | (exact (decide_eq_true (by omega)).symm) | (exact (decide_eq_false (by omega)).symm) | (rw [Bool.eq_iff_iff]; simp only [beq_iff_eq, decide_eq_true_eq]; omega) | (simp; omega))

end Go.Proofs.Ytfnapmdedmbdbaa
end
section
set_option linter.unusedSimpArgs false
set_option linter.unusedVariables false
set_option maxHeartbeats 1000000
set_option maxRecDepth 20000
namespace Go.Proofs.Ytfnapmdedmbdbaa
open Go Go.Am
abbrev lc_rscale_ok (a b c d e f g h : AV) : Env := [(0,a),(1,b),(2,c),(4,d),(5,e),(6,f),(7,g),(18,h)]
theorem rscale_ok (lim : Nat) (H : Heap) (x : Int) (hx : Fw x) (n : Int) (hn : -9223372036854775808 ≤ n ∧ n ≤ 9223372036854775807) : ACall sig lim 83 [wv x, AV.i n] H fun r H' => r = .tup [wv (fS (x * n)).1, .v (.bool (fS (x * n)).2)] ∧ H' = H := by
 have fx := hx
 unfold Fw at fx
 have hm := ab_rng x
 have hm1 := ab_W hx
 have hk := ab_rng n
 have hk1 := ab_le hn
 have hor := ab_or x n
 have hP0 := mul_pos' hm hk
 refine ACall_pure (fa := fa83) rfl rfl rfl rfl ?_
 have tr : ∀ a0 a1 : AV, env0 fa83.keep [a0, a1] = [(0,a0),(1,a1),(2,.any),(4,.any),(5,.any),(6,.any),(7,.any),(18,.any)] := fun a0 a1 => rfl
 refine W_to (tr _ _) ?_; clear tr
 refine at_seq rfl ?_
 refine rg rfl ?_
 refine R_box rfl (by simp (disch := first | omega | (simp only [List.length_map, List.length_append, List.length_set, List.length_cons, List.length_nil]; omega)) only [go_sem, ↓reduceIte, Nat.reduceEqDiff, reduceCtorEq] <;> rfl) rfl rfl ?_
 refine R_alloc (by simp (disch := first | omega | (simp only [List.length_map, List.length_append, List.length_set, List.length_cons, List.length_nil]; omega)) only [go_sem, ↓reduceIte, Nat.reduceEqDiff, reduceCtorEq] <;> rfl) rfl (by simp only [List.map_cons, List.map_nil]; rfl) ?_
 refine Rq ?_
 have tr : ∀ a b c d e f g h i j k : AV, let l := lc_rscale_ok a b c d e f g h; trim ((5,k)::(4,j)::(2,i)::l) l = [(0,a),(1,b),(2,i),(4,j),(5,k),(6,f),(7,g),(18,h)] := by intros; rfl
 refine R_nil (tr ..) ?_; clear tr
 refine then_n ?_
 refine at_seq rfl ?_
 refine rg rfl ?_
 refine Rq ?_
 refine Rcall ?_
 refine ACall_eq (rsize_ok _ _ x hx) ?_
 refine Rq ?_
 refine Rcall ?_
 refine ACall_eq (rof_ok _ _ _ hn) ?_
 refine Rcall ?_
 refine ACall_eq (rsize_ok _ _ n (by unfold Fw; omega)) ?_
 refine Rcall ?_
 refine ACall_eq (times_ok _ _ (ab x) (ab n) (by omega) (by omega)) ?_
 refine Rq ?_
 refine Rq ?_
 refine Rq ?_
 refine R_alloc (by simp (disch := first | omega | (simp only [List.length_map, List.length_append, List.length_set, List.length_cons, List.length_nil]; omega)) only [go_sem, ↓reduceIte, Nat.reduceEqDiff, reduceCtorEq] <;> rfl) rfl (by simp only [List.map_cons, List.map_nil]; rfl) ?_
 refine R_store ty141 (by simp (disch := first | omega | (simp only [List.length_map, List.length_append, List.length_set, List.length_cons, List.length_nil]; omega)) only [go_sem, ↓reduceIte, Nat.reduceEqDiff, reduceCtorEq] <;> rfl) (by simp (disch := first | omega | (simp only [List.length_map, List.length_append, List.length_set, List.length_cons, List.length_nil]; omega)) only [go_sem, ↓reduceIte, Nat.reduceEqDiff, reduceCtorEq] <;> rfl) (by simp (disch := first | omega | (simp only [List.length_map, List.length_append, List.length_set, List.length_cons, List.length_nil]; omega)) only [go_sem, ↓reduceIte, Nat.reduceEqDiff, reduceCtorEq] <;> rfl) (by simp) (by rfl) (by simp (disch := first | omega | (simp only [List.length_map, List.length_append, List.length_set, List.length_cons, List.length_nil]; omega)) only [go_sem, ↓reduceIte, Nat.reduceEqDiff, reduceCtorEq] <;> rfl) ?_
 refine Rq ?_
 have tr : ∀ a b c d e f g h i j k m n o p q r s t : AV, let l := lc_rscale_ok a b c d e f g h; trim ((7,t)::(6,s)::(16,r)::(15,q)::(8,p)::(14,o)::(13,n)::(12,m)::(11,k)::(10,j)::(9,i)::l) l = [(0,a),(1,b),(2,c),(4,d),(5,e),(6,s),(7,t),(18,h)] := by intros; rfl
 refine R_nil (tr ..) ?_; clear tr
 refine then_n ?_
 refine at_seq rfl ?_
 refine at_seq rfl ?_
 refine rg rfl ?_
 refine Rq ?_
 refine Rq ?_
 have tr : ∀ a b c d e f g h i j : AV, let l := lc_rscale_ok a b c d e f g h; trim ((18,j)::(17,i)::l) l = [(0,a),(1,b),(2,c),(4,d),(5,e),(6,f),(7,g),(18,j)] := by intros; rfl
 refine R_nil (tr ..) ?_; clear tr
 refine then_n ?_
 refine cdd (fun h1 => ?_) (fun h1 => ?_)
 ·
  try simp only [decide_eq_true_eq, decide_eq_false_iff_not, decide_eq_decide, Bool.not_eq_true', Bool.not_eq_false', beq_iff_eq, beq_eq_false_iff_ne, ne_eq, Bool.and_eq_true, Bool.and_eq_false_iff, decide_not] at h1
  refine at_seq rfl ?_
  refine rg rfl ?_
  refine Rq ?_
  refine R_store ty116 (by simp (disch := first | omega | (simp only [List.length_map, List.length_append, List.length_set, List.length_cons, List.length_nil]; omega)) only [go_sem, ↓reduceIte, Nat.reduceEqDiff, reduceCtorEq] <;> rfl) (by simp (disch := first | omega | (simp only [List.length_map, List.length_append, List.length_set, List.length_cons, List.length_nil]; omega)) only [go_sem, ↓reduceIte, Nat.reduceEqDiff, reduceCtorEq] <;> rfl) (by simp (disch := first | omega | (simp only [List.length_map, List.length_append, List.length_set, List.length_cons, List.length_nil]; omega)) only [go_sem, ↓reduceIte, Nat.reduceEqDiff, reduceCtorEq] <;> rfl) (by simp) (by rfl) (by simp (disch := first | omega | (simp only [List.length_map, List.length_append, List.length_set, List.length_cons, List.length_nil]; omega)) only [go_sem, ↓reduceIte, Nat.reduceEqDiff, reduceCtorEq] <;> rfl) ?_
  refine Rq ?_
  have tr : ∀ a b c d e f g h i j : AV, let l := lc_rscale_ok a b c d e f g h; trim ((5,j)::(19,i)::l) l = [(0,a),(1,b),(2,c),(4,d),(5,j),(6,f),(7,g),(18,h)] := by intros; rfl
  refine R_nil (tr ..) ?_; clear tr
  refine then_n ?_
  refine at_ret rfl ?_
  refine then_r ?_
  first | (refine fin_pure (rs := [.cell 4 116, .tmp 5]) rfl (by simp (disch := first | omega | (simp only [List.length_map, List.length_append, List.length_set, List.length_cons, List.length_nil]; omega)) only [go_sem, ↓reduceIte, Nat.reduceEqDiff, reduceCtorEq] <;> rfl) (by simp (disch := first | omega | (simp only [List.length_map, List.length_append, List.length_set, List.length_cons, List.length_nil]; omega)) only [go_sem, ↓reduceIte, Nat.reduceEqDiff, reduceCtorEq] <;> rfl) ?_; refine ⟨?_, rfl⟩; rw [fS_n (n := x * n) (by unfold Fw; omega)]; exact tupW (by omega) (by omega) rfl; done) | (refine fin_pure (rs := [.cell 4 116, .tmp 5]) rfl (by simp (disch := first | omega | (simp only [List.length_map, List.length_append, List.length_set, List.length_cons, List.length_nil]; omega)) only [go_sem, ↓reduceIte, Nat.reduceEqDiff, reduceCtorEq] <;> rfl) (by simp (disch := first | omega | (simp only [List.length_map, List.length_append, List.length_set, List.length_cons, List.length_nil]; omega)) only [go_sem, ↓reduceIte, Nat.reduceEqDiff, reduceCtorEq] <;> rfl) ?_; refine ⟨?_, rfl⟩; rfl)
 ·
  try simp only [decide_eq_true_eq, decide_eq_false_iff_not, decide_eq_decide, Bool.not_eq_true', Bool.not_eq_false', beq_iff_eq, beq_eq_false_iff_ne, ne_eq, Bool.and_eq_true, Bool.and_eq_false_iff, decide_not] at h1
  refine at_skip rfl ?_
  refine then_n ?_
  refine at_seq rfl ?_
  refine rg rfl ?_
  refine Rq ?_
  refine Rq ?_
  refine Rq ?_
  refine Rq ?_
  refine Rq ?_
  refine Rq ?_
  refine Rq ?_
  refine Rcall ?_
  refine ACall_eq (rof2_ok _ _ (ab x * ab n) (by omega) _) ?_
  rw [show sg (!(decide (x / 18446744073709551616 < 0) == decide (n < 0))) (ab x * ab n) = x * n by rw [show decide (x / 18446744073709551616 < 0) = decide (x < 0) by rw [decide_eq_decide]; omega]; exact sg_mul x n]
  refine Rq ?_
  refine Rq ?_
  refine R_store ty116 (by simp (disch := first | omega | (simp only [List.length_map, List.length_append, List.length_set, List.length_cons, List.length_nil]; omega)) only [go_sem, ↓reduceIte, Nat.reduceEqDiff, reduceCtorEq] <;> rfl) (by simp (disch := first | omega | (simp only [List.length_map, List.length_append, List.length_set, List.length_cons, List.length_nil]; omega)) only [go_sem, ↓reduceIte, Nat.reduceEqDiff, reduceCtorEq] <;> rfl) (by simp (disch := first | omega | (simp only [List.length_map, List.length_append, List.length_set, List.length_cons, List.length_nil]; omega)) only [go_sem, ↓reduceIte, Nat.reduceEqDiff, reduceCtorEq] <;> rfl) (by simp) (by rfl) (by simp (disch := first | omega | (simp only [List.length_map, List.length_append, List.length_set, List.length_cons, List.length_nil]; omega)) only [go_sem, ↓reduceIte, Nat.reduceEqDiff, reduceCtorEq] <;> rfl) ?_
  refine Rq ?_
  have tr : ∀ a b c d e f g h i j k m n o p q r s t : AV, let l := lc_rscale_ok a b c d e f g h; trim ((5,t)::(29,s)::(28,r)::(27,q)::(26,p)::(25,o)::(24,n)::(23,m)::(22,k)::(21,j)::(20,i)::l) l = [(0,a),(1,b),(2,c),(4,d),(5,t),(6,f),(7,g),(18,h)] := by intros; rfl
  refine R_nil (tr ..) ?_; clear tr
  refine then_n ?_
  refine at_ret rfl ?_
  first | (refine fin_pure (rs := [.cell 4 116, .tmp 5]) rfl (by simp (disch := first | omega | (simp only [List.length_map, List.length_append, List.length_set, List.length_cons, List.length_nil]; omega)) only [go_sem, ↓reduceIte, Nat.reduceEqDiff, reduceCtorEq] <;> rfl) (by simp (disch := first | omega | (simp only [List.length_map, List.length_append, List.length_set, List.length_cons, List.length_nil]; omega)) only [go_sem, ↓reduceIte, Nat.reduceEqDiff, reduceCtorEq] <;> rfl) ?_; refine ⟨?_, rfl⟩; rw [fS_n (n := x * n) (by unfold Fw; omega)]; exact tupW (by omega) (by omega) rfl; done) | (refine fin_pure (rs := [.cell 4 116, .tmp 5]) rfl (by simp (disch := first | omega | (simp only [List.length_map, List.length_append, List.length_set, List.length_cons, List.length_nil]; omega)) only [go_sem, ↓reduceIte, Nat.reduceEqDiff, reduceCtorEq] <;> rfl) (by simp (disch := first | omega | (simp only [List.length_map, List.length_append, List.length_set, List.length_cons, List.length_nil]; omega)) only [go_sem, ↓reduceIte, Nat.reduceEqDiff, reduceCtorEq] <;> rfl) ?_; refine ⟨?_, rfl⟩; rfl)

abbrev lc_rmul_ok (a b c d : AV) : Env := [(0,a),(1,b),(4,c),(5,d)]
theorem rmul_ok (lim : Nat) (H : Heap) (a : Int) (ha : -9223372036854775808 ≤ a ∧ a ≤ 9223372036854775807) (b : Int) (hb : -9223372036854775808 ≤ b ∧ b ≤ 9223372036854775807) : ACall sig lim 72 [AV.i a, AV.i b] H fun r H' => r = wv (a * b) ∧ H' = H := by
 refine ACall_pure (fa := fa72) rfl rfl rfl rfl ?_
 have tr : ∀ a0 a1 : AV, env0 fa72.keep [a0, a1] = [(0,a0),(1,a1),(4,.any),(5,.any)] := fun a0 a1 => rfl
 refine W_to (tr _ _) ?_; clear tr
 refine at_seq rfl ?_
 refine rg rfl ?_
 refine R_alloc (by simp (disch := first | omega | (simp only [List.length_map, List.length_append, List.length_set, List.length_cons, List.length_nil]; omega)) only [go_sem, ↓reduceIte, Nat.reduceEqDiff, reduceCtorEq] <;> rfl) rfl (by simp only [List.map_cons, List.map_nil]; rfl) ?_
 have tr : ∀ a b c d e : AV, let l := lc_rmul_ok a b c d; trim ((4,e)::l) l = [(0,a),(1,b),(4,e),(5,d)] := by intros; rfl
 refine R_nil (tr ..) ?_; clear tr
 refine then_n ?_
 refine at_seq rfl ?_
 refine rg rfl ?_
 refine Rq ?_
 refine Rcall ?_
 refine ACall_eq (rof_ok _ _ _ ha) ?_
 refine Rq ?_
 refine Rcall ?_
 refine ACall_eq (rscale_ok _ _ a (by unfold Fw; omega) b hb) ?_
 rw [fS_y (ab_fit ha hb)]
 refine Rq ?_
 refine Rq ?_
 refine Rq ?_
 refine R_alloc (by simp (disch := first | omega | (simp only [List.length_map, List.length_append, List.length_set, List.length_cons, List.length_nil]; omega)) only [go_sem, ↓reduceIte, Nat.reduceEqDiff, reduceCtorEq] <;> rfl) rfl (by simp only [List.map_cons, List.map_nil]; rfl) ?_
 refine R_store ty116 (by simp (disch := first | omega | (simp only [List.length_map, List.length_append, List.length_set, List.length_cons, List.length_nil]; omega)) only [go_sem, ↓reduceIte, Nat.reduceEqDiff, reduceCtorEq] <;> rfl) (by simp (disch := first | omega | (simp only [List.length_map, List.length_append, List.length_set, List.length_cons, List.length_nil]; omega)) only [go_sem, ↓reduceIte, Nat.reduceEqDiff, reduceCtorEq] <;> rfl) (by simp (disch := first | omega | (simp only [List.length_map, List.length_append, List.length_set, List.length_cons, List.length_nil]; omega)) only [go_sem, ↓reduceIte, Nat.reduceEqDiff, reduceCtorEq] <;> rfl) (by simp) (by rfl) (by simp (disch := first | omega | (simp only [List.length_map, List.length_append, List.length_set, List.length_cons, List.length_nil]; omega)) only [go_sem, ↓reduceIte, Nat.reduceEqDiff, reduceCtorEq] <;> rfl) ?_
 refine Rq ?_
 have tr : ∀ a b c d e f g h i j k m n : AV, let l := lc_rmul_ok a b c d; trim ((6,n)::(5,m)::(13,k)::(12,j)::(7,i)::(11,h)::(10,g)::(9,f)::(8,e)::l) l = [(0,a),(1,b),(4,c),(5,m)] := by intros; rfl
 refine R_nil (tr ..) ?_; clear tr
 refine then_n ?_
 refine at_seq rfl ?_
 refine rg rfl ?_
 refine Rq ?_
 refine R_store ty116 (by simp (disch := first | omega | (simp only [List.length_map, List.length_append, List.length_set, List.length_cons, List.length_nil]; omega)) only [go_sem, ↓reduceIte, Nat.reduceEqDiff, reduceCtorEq] <;> rfl) (by simp (disch := first | omega | (simp only [List.length_map, List.length_append, List.length_set, List.length_cons, List.length_nil]; omega)) only [go_sem, ↓reduceIte, Nat.reduceEqDiff, reduceCtorEq] <;> rfl) (by simp (disch := first | omega | (simp only [List.length_map, List.length_append, List.length_set, List.length_cons, List.length_nil]; omega)) only [go_sem, ↓reduceIte, Nat.reduceEqDiff, reduceCtorEq] <;> rfl) (by simp) (by rfl) (by simp (disch := first | omega | (simp only [List.length_map, List.length_append, List.length_set, List.length_cons, List.length_nil]; omega)) only [go_sem, ↓reduceIte, Nat.reduceEqDiff, reduceCtorEq] <;> rfl) ?_
 have tr : ∀ a b c d e : AV, let l := lc_rmul_ok a b c d; trim ((14,e)::l) l = [(0,a),(1,b),(4,c),(5,d)] := by intros; rfl
 refine R_nil (tr ..) ?_; clear tr
 refine then_n ?_
 refine at_ret rfl ?_
 refine fin_pure (rs := [.cell 4 116]) rfl (by simp (disch := first | omega | (simp only [List.length_map, List.length_append, List.length_set, List.length_cons, List.length_nil]; omega)) only [go_sem, ↓reduceIte, Nat.reduceEqDiff, reduceCtorEq] <;> rfl) (by simp (disch := first | omega | (simp only [List.length_map, List.length_append, List.length_set, List.length_cons, List.length_nil]; omega)) only [go_sem, ↓reduceIte, Nat.reduceEqDiff, reduceCtorEq] <;> rfl) ?_
 refine ⟨?_, rfl⟩
 rfl

end Go.Proofs.Ytfnapmdedmbdbaa
end
section
set_option linter.unusedSimpArgs false
set_option linter.unusedVariables false
set_option maxHeartbeats 1000000
set_option maxRecDepth 20000
namespace Go.Proofs.Ytfnapmdedmbdbaa
open Go Go.Am
abbrev lc_rcrate_ok (a b c d e f g h i j : AV) : Env := [(0,a),(1,b),(2,c),(3,d),(4,e),(5,f),(6,g),(7,h),(8,i),(16,j)]
theorem rcrate_ok (lim : Nat) (H : Heap) (y z : St) : ACall sig lim 48 [stA y, stA z] H fun r H' => r = AV.i (crS y z) ∧ H' = H := by
 refine ACall_pure (fa := fa48) rfl rfl rfl rfl ?_
 have tr : ∀ a0 a1 : AV, env0 fa48.keep [a0, a1] = [(0,a0),(1,a1),(2,.any),(3,.any),(4,.any),(5,.any),(6,.any),(7,.any),(8,.any),(16,.any)] := fun a0 a1 => rfl
 refine W_to (tr _ _) ?_; clear tr
 refine at_seq rfl ?_
 refine rg rfl ?_
 refine R_box rfl (by simp (disch := first | omega | (simp only [List.length_map, List.length_append, List.length_set, List.length_cons, List.length_nil]; omega)) only [go_sem, ↓reduceIte, Nat.reduceEqDiff, reduceCtorEq] <;> rfl) rfl rfl ?_
 refine R_box rfl (by simp (disch := first | omega | (simp only [List.length_map, List.length_append, List.length_set, List.length_cons, List.length_nil]; omega)) only [go_sem, ↓reduceIte, Nat.reduceEqDiff, reduceCtorEq] <;> rfl) rfl rfl ?_
 refine Rq ?_
 have tr : ∀ a b c d e f g h i j k m n : AV, let l := lc_rcrate_ok a b c d e f g h i j; trim ((4,n)::(3,m)::(2,k)::l) l = [(0,a),(1,b),(2,k),(3,m),(4,n),(5,f),(6,g),(7,h),(8,i),(16,j)] := by intros; rfl
 refine R_nil (tr ..) ?_; clear tr
 refine then_n ?_
 refine at_seq rfl ?_
 refine at_seq rfl ?_
 refine rg rfl ?_
 refine Rq ?_
 refine Rcall ?_
 refine ACall_eq (valid_ok _ _ _) ?_
 refine Rq ?_
 refine Rq ?_
 refine Rp_split (fun h1 => ?_) (fun h1 => ?_)
 ·
  try simp only [decide_eq_true_eq, decide_eq_false_iff_not, decide_eq_decide, Bool.not_eq_true', Bool.not_eq_false', beq_iff_eq, beq_eq_false_iff_ne, ne_eq, Bool.and_eq_true, Bool.and_eq_false_iff, decide_not] at h1
  refine Rn ?_
  refine Rn ?_
  refine Rn ?_
  refine Rq ?_
  have tr : ∀ a b c d e f g h i j k m n o p q r s : AV, let l := lc_rcrate_ok a b c d e f g h i j; trim ((16,s)::(15,r)::(14,q)::(13,p)::(12,o)::(11,n)::(10,m)::(9,k)::l) l = [(0,a),(1,b),(2,c),(3,d),(4,e),(5,f),(6,g),(7,h),(8,i),(16,s)] := by intros; rfl
  refine R_nil (tr ..) ?_; clear tr
  refine then_n ?_
  refine cdt ?_
  refine at_seq rfl ?_
  refine rg rfl ?_
  refine Rq ?_
  have tr : ∀ a b c d e f g h i j k : AV, let l := lc_rcrate_ok a b c d e f g h i j; trim ((4,k)::l) l = [(0,a),(1,b),(2,c),(3,d),(4,k),(5,f),(6,g),(7,h),(8,i),(16,j)] := by intros; rfl
  refine R_nil (tr ..) ?_; clear tr
  refine then_n ?_
  refine at_ret rfl ?_
  refine then_r ?_
  first | (refine fpure ?_; refine ⟨?_, rfl⟩; rw [crS, if_neg (fun h => absurd h.1 (by assumption))] <;> rfl; done) | (refine fpure ?_; refine ⟨?_, rfl⟩; rw [crS, if_neg (fun h => absurd h.2 (by assumption))] <;> rfl; done) | (refine fpure ?_; refine ⟨?_, rfl⟩; rw [crS, if_pos ⟨by assumption, by assumption⟩] <;> rfl; done)
 ·
  try simp only [decide_eq_true_eq, decide_eq_false_iff_not, decide_eq_decide, Bool.not_eq_true', Bool.not_eq_false', beq_iff_eq, beq_eq_false_iff_ne, ne_eq, Bool.and_eq_true, Bool.and_eq_false_iff, decide_not] at h1
  refine Ry ?_
  refine Rq ?_
  refine Ry ?_
  refine Rcall ?_
  refine ACall_eq (valid_ok _ _ _) ?_
  refine Ry ?_
  refine Rq ?_
  refine Rq ?_
  have tr : ∀ a b c d e f g h i j k m n o p q r s : AV, let l := lc_rcrate_ok a b c d e f g h i j; trim ((16,s)::(15,r)::(14,q)::(13,p)::(12,o)::(11,n)::(10,m)::(9,k)::l) l = [(0,a),(1,b),(2,c),(3,d),(4,e),(5,f),(6,g),(7,h),(8,i),(16,s)] := by intros; rfl
  refine R_nil (tr ..) ?_; clear tr
  refine then_n ?_
  refine cdd (fun h2 => ?_) (fun h2 => ?_)
  ·
   try simp only [decide_eq_true_eq, decide_eq_false_iff_not, decide_eq_decide, Bool.not_eq_true', Bool.not_eq_false', beq_iff_eq, beq_eq_false_iff_ne, ne_eq, Bool.and_eq_true, Bool.and_eq_false_iff, decide_not] at h2
   refine at_seq rfl ?_
   refine rg rfl ?_
   refine Rq ?_
   have tr : ∀ a b c d e f g h i j k : AV, let l := lc_rcrate_ok a b c d e f g h i j; trim ((4,k)::l) l = [(0,a),(1,b),(2,c),(3,d),(4,k),(5,f),(6,g),(7,h),(8,i),(16,j)] := by intros; rfl
   refine R_nil (tr ..) ?_; clear tr
   refine then_n ?_
   refine at_ret rfl ?_
   refine then_r ?_
   first | (refine fpure ?_; refine ⟨?_, rfl⟩; rw [crS, if_neg (fun h => absurd h.1 (by assumption))] <;> rfl; done) | (refine fpure ?_; refine ⟨?_, rfl⟩; rw [crS, if_neg (fun h => absurd h.2 (by assumption))] <;> rfl; done) | (refine fpure ?_; refine ⟨?_, rfl⟩; rw [crS, if_pos ⟨by assumption, by assumption⟩] <;> rfl; done)
  ·
   try simp only [decide_eq_true_eq, decide_eq_false_iff_not, decide_eq_decide, Bool.not_eq_true', Bool.not_eq_false', beq_iff_eq, beq_eq_false_iff_ne, ne_eq, Bool.and_eq_true, Bool.and_eq_false_iff, decide_not] at h2
   refine at_skip rfl ?_
   refine then_n ?_
   refine at_seq rfl ?_
   refine rg rfl ?_
   have ry := rxn_rng (s := y) (by assumption)
   have rz := rxn_rng (s := z) (by assumption)
   have ry1 := rxd_rng (s := y) (by assumption)
   have rz1 := rxd_rng (s := z) (by assumption)
   refine Rq ?_
   refine Rcall ?_
   refine ACall_eq (rrate_ok _ _ _ (by assumption)) ?_
   refine Rq ?_
   refine Rq ?_
   refine Rq ?_
   refine Rq ?_
   refine Rq ?_
   have tr : ∀ a b c d e f g h i j k m n o p q r : AV, let l := lc_rcrate_ok a b c d e f g h i j; trim ((6,r)::(5,q)::(21,p)::(20,o)::(17,n)::(19,m)::(18,k)::l) l = [(0,a),(1,b),(2,c),(3,d),(4,e),(5,q),(6,r),(7,h),(8,i),(16,j)] := by intros; rfl
   refine R_nil (tr ..) ?_; clear tr
   refine then_n ?_
   refine at_seq rfl ?_
   refine rg rfl ?_
   refine Rq ?_
   refine Rcall ?_
   refine ACall_eq (rrate_ok _ _ _ (by assumption)) ?_
   refine Rq ?_
   refine Rq ?_
   refine Rq ?_
   refine Rq ?_
   refine Rq ?_
   have tr : ∀ a b c d e f g h i j k m n o p q r : AV, let l := lc_rcrate_ok a b c d e f g h i j; trim ((8,r)::(7,q)::(26,p)::(25,o)::(22,n)::(24,m)::(23,k)::l) l = [(0,a),(1,b),(2,c),(3,d),(4,e),(5,f),(6,g),(7,q),(8,r),(16,j)] := by intros; rfl
   refine R_nil (tr ..) ?_; clear tr
   refine then_n ?_
   refine at_seq rfl ?_
   refine rg rfl ?_
   refine Rq ?_
   refine Rq ?_
   refine Rcall ?_
   refine ACall_eq (rmul_ok _ _ _ (by omega) _ (by omega)) ?_
   refine Rq ?_
   refine Rq ?_
   refine Rcall ?_
   refine ACall_eq (rmul_ok _ _ _ (by omega) _ (by omega)) ?_
   refine Rcall ?_
   refine ACall_eq (rcmp_ok _ _ (rxn y * rxd z) (ab_fit (by omega) (by omega)) (rxn z * rxd y) (ab_fit (by omega) (by omega))) ?_
   refine Rq ?_
   have tr : ∀ a b c d e f g h i j k m n o p q r s : AV, let l := lc_rcrate_ok a b c d e f g h i j; trim ((4,s)::(33,r)::(32,q)::(31,p)::(30,o)::(29,n)::(28,m)::(27,k)::l) l = [(0,a),(1,b),(2,c),(3,d),(4,s),(5,f),(6,g),(7,h),(8,i),(16,j)] := by intros; rfl
   refine R_nil (tr ..) ?_; clear tr
   refine then_n ?_
   refine at_ret rfl ?_
   first | (refine fpure ?_; refine ⟨?_, rfl⟩; rw [crS, if_neg (fun h => absurd h.1 (by assumption))] <;> rfl; done) | (refine fpure ?_; refine ⟨?_, rfl⟩; rw [crS, if_neg (fun h => absurd h.2 (by assumption))] <;> rfl; done) | (refine fpure ?_; refine ⟨?_, rfl⟩; rw [crS, if_pos ⟨by assumption, by assumption⟩] <;> rfl; done)

abbrev lc_rcomp_ok (a b c d e f g h i j : AV) : Env := [(0,a),(1,b),(2,c),(3,d),(4,e),(5,f),(9,g),(21,h),(33,i),(39,j)]
theorem rcomp_ok (lim : Nat) (H : Heap) (y z : St) : ACall sig lim 31 [stA y, stA z] H fun r H' => r = AV.i (cmS y z) ∧ H' = H := by
 have hc := crS_rng y z
 refine ACall_pure (fa := fa31) rfl rfl rfl rfl ?_
 have tr : ∀ a0 a1 : AV, env0 fa31.keep [a0, a1] = [(0,a0),(1,a1),(2,.any),(3,.any),(4,.any),(5,.any),(9,.any),(21,.any),(33,.any),(39,.any)] := fun a0 a1 => rfl
 refine W_to (tr _ _) ?_; clear tr
 refine at_seq rfl ?_
 refine rg rfl ?_
 refine R_box rfl (by simp (disch := first | omega | (simp only [List.length_map, List.length_append, List.length_set, List.length_cons, List.length_nil]; omega)) only [go_sem, ↓reduceIte, Nat.reduceEqDiff, reduceCtorEq] <;> rfl) rfl rfl ?_
 refine R_box rfl (by simp (disch := first | omega | (simp only [List.length_map, List.length_append, List.length_set, List.length_cons, List.length_nil]; omega)) only [go_sem, ↓reduceIte, Nat.reduceEqDiff, reduceCtorEq] <;> rfl) rfl rfl ?_
 refine Rq ?_
 have tr : ∀ a b c d e f g h i j k m n : AV, let l := lc_rcomp_ok a b c d e f g h i j; trim ((4,n)::(3,m)::(2,k)::l) l = [(0,a),(1,b),(2,k),(3,m),(4,n),(5,f),(9,g),(21,h),(33,i),(39,j)] := by intros; rfl
 refine R_nil (tr ..) ?_; clear tr
 refine then_n ?_
 refine at_seq rfl ?_
 refine rg rfl ?_
 refine Rq ?_
 refine Rq ?_
 refine Rcall ?_
 refine ACall_eq (rcrate_ok _ _ y z) ?_
 refine Rq ?_
 have tr : ∀ a b c d e f g h i j k m n o : AV, let l := lc_rcomp_ok a b c d e f g h i j; trim ((5,o)::(8,n)::(7,m)::(6,k)::l) l = [(0,a),(1,b),(2,c),(3,d),(4,e),(5,o),(9,g),(21,h),(33,i),(39,j)] := by intros; rfl
 refine R_nil (tr ..) ?_; clear tr
 refine then_n ?_
 refine at_seq rfl ?_
 refine at_block rfl ?_
 refine at_seq rfl ?_
 refine rg rfl ?_
 refine Rq ?_
 refine Rq ?_
 refine Rq ?_
 refine Rq ?_
 refine Rq ?_
 refine Rq ?_
 have tr : ∀ a b c d e f g h i j k m n o p q : AV, let l := lc_rcomp_ok a b c d e f g h i j; trim ((9,q)::(14,p)::(13,o)::(12,n)::(11,m)::(10,k)::l) l = [(0,a),(1,b),(2,c),(3,d),(4,e),(5,f),(9,q),(21,h),(33,i),(39,j)] := by intros; rfl
 refine R_nil (tr ..) ?_; clear tr
 refine then_n ?_
 refine cdd (fun h1 => ?_) (fun h1 => ?_)
 ·
  try simp only [decide_eq_true_eq, decide_eq_false_iff_not, decide_eq_decide, Bool.not_eq_true', Bool.not_eq_false', beq_iff_eq, beq_eq_false_iff_ne, ne_eq, Bool.and_eq_true, Bool.and_eq_false_iff, decide_not] at h1
  refine at_seq rfl ?_
  refine rg rfl ?_
  refine Rq ?_
  refine Rq ?_
  refine Rq ?_
  refine Rq ?_
  refine Rq ?_
  refine Rcall ?_
  refine ACall_eq (sign_ok _ _ _) ?_
  refine Rq ?_
  have tr : ∀ a b c d e f g h i j k m n o p q r : AV, let l := lc_rcomp_ok a b c d e f g h i j; trim ((4,r)::(20,q)::(19,p)::(18,o)::(17,n)::(16,m)::(15,k)::l) l = [(0,a),(1,b),(2,c),(3,d),(4,r),(5,f),(9,g),(21,h),(33,i),(39,j)] := by intros; rfl
  refine R_nil (tr ..) ?_; clear tr
  refine then_n ?_
  refine at_ret rfl ?_
  refine blk_r ?_
  refine then_r ?_
  first | (refine fpure ?_; refine ⟨?_, rfl⟩; rw [cm_pt (by assumption)] <;> rfl; done) | (refine fpure ?_; refine ⟨?_, rfl⟩; rw [cm_wn (by assumption) (by assumption)] <;> rfl; done) | (refine fpure ?_; refine ⟨?_, rfl⟩; rw [cm_cr (by assumption) (by assumption) (by assumption)] <;> rfl; done) | (refine fpure ?_; refine ⟨?_, rfl⟩; rw [cm_cr0 (by assumption) (by assumption) (by assumption)] <;> rfl; done) | (refine fpure ?_; refine ⟨?_, rfl⟩; rw [cm_cr' (by assumption) (by assumption) (by assumption)] <;> rfl; done) | (refine fpure ?_; refine ⟨?_, rfl⟩; rw [cm_tm (by assumption) (by assumption) (by assumption) (by assumption)] <;> rfl; done) | (refine fpure ?_; refine ⟨?_, rfl⟩; rw [cm_0 (by assumption) (by assumption) (by assumption) (by assumption)] <;> rfl; done)
 ·
  try simp only [decide_eq_true_eq, decide_eq_false_iff_not, decide_eq_decide, Bool.not_eq_true', Bool.not_eq_false', beq_iff_eq, beq_eq_false_iff_ne, ne_eq, Bool.and_eq_true, Bool.and_eq_false_iff, decide_not] at h1
  refine at_seq rfl ?_
  refine rg rfl ?_
  refine Rq ?_
  refine Rq ?_
  refine Rq ?_
  refine Rq ?_
  refine Rq ?_
  refine Rq ?_
  have tr : ∀ a b c d e f g h i j k m n o p q : AV, let l := lc_rcomp_ok a b c d e f g h i j; trim ((21,q)::(26,p)::(25,o)::(24,n)::(23,m)::(22,k)::l) l = [(0,a),(1,b),(2,c),(3,d),(4,e),(5,f),(9,g),(21,q),(33,i),(39,j)] := by intros; rfl
  refine R_nil (tr ..) ?_; clear tr
  refine then_n ?_
  refine cdd (fun h2 => ?_) (fun h2 => ?_)
  ·
   try simp only [decide_eq_true_eq, decide_eq_false_iff_not, decide_eq_decide, Bool.not_eq_true', Bool.not_eq_false', beq_iff_eq, beq_eq_false_iff_ne, ne_eq, Bool.and_eq_true, Bool.and_eq_false_iff, decide_not] at h2
   refine at_seq rfl ?_
   refine rg rfl ?_
   refine Rq ?_
   refine Rq ?_
   refine Rq ?_
   refine Rq ?_
   refine Rq ?_
   refine Rcall ?_
   refine ACall_eq (sign_ok _ _ _) ?_
   refine Rq ?_
   have tr : ∀ a b c d e f g h i j k m n o p q r : AV, let l := lc_rcomp_ok a b c d e f g h i j; trim ((4,r)::(32,q)::(31,p)::(30,o)::(29,n)::(28,m)::(27,k)::l) l = [(0,a),(1,b),(2,c),(3,d),(4,r),(5,f),(9,g),(21,h),(33,i),(39,j)] := by intros; rfl
   refine R_nil (tr ..) ?_; clear tr
   refine then_n ?_
   refine at_ret rfl ?_
   refine blk_r ?_
   refine then_r ?_
   first | (refine fpure ?_; refine ⟨?_, rfl⟩; rw [cm_pt (by assumption)] <;> rfl; done) | (refine fpure ?_; refine ⟨?_, rfl⟩; rw [cm_wn (by assumption) (by assumption)] <;> rfl; done) | (refine fpure ?_; refine ⟨?_, rfl⟩; rw [cm_cr (by assumption) (by assumption) (by assumption)] <;> rfl; done) | (refine fpure ?_; refine ⟨?_, rfl⟩; rw [cm_cr0 (by assumption) (by assumption) (by assumption)] <;> rfl; done) | (refine fpure ?_; refine ⟨?_, rfl⟩; rw [cm_cr' (by assumption) (by assumption) (by assumption)] <;> rfl; done) | (refine fpure ?_; refine ⟨?_, rfl⟩; rw [cm_tm (by assumption) (by assumption) (by assumption) (by assumption)] <;> rfl; done) | (refine fpure ?_; refine ⟨?_, rfl⟩; rw [cm_0 (by assumption) (by assumption) (by assumption) (by assumption)] <;> rfl; done)
  ·
   try simp only [decide_eq_true_eq, decide_eq_false_iff_not, decide_eq_decide, Bool.not_eq_true', Bool.not_eq_false', beq_iff_eq, beq_eq_false_iff_ne, ne_eq, Bool.and_eq_true, Bool.and_eq_false_iff, decide_not] at h2
   refine at_seq rfl ?_
   refine rg rfl ?_
   refine Rq ?_
   refine Rq ?_
   refine Rq ?_
   have tr : ∀ a b c d e f g h i j k m n : AV, let l := lc_rcomp_ok a b c d e f g h i j; trim ((33,n)::(35,m)::(34,k)::l) l = [(0,a),(1,b),(2,c),(3,d),(4,e),(5,f),(9,g),(21,h),(33,n),(39,j)] := by intros; rfl
   refine R_nil (tr ..) ?_; clear tr
   refine then_n ?_
   refine cdd (fun h3 => ?_) (fun h3 => ?_)
   ·
    try simp only [decide_eq_true_eq, decide_eq_false_iff_not, decide_eq_decide, Bool.not_eq_true', Bool.not_eq_false', beq_iff_eq, beq_eq_false_iff_ne, ne_eq, Bool.and_eq_true, Bool.and_eq_false_iff, decide_not] at h3
    refine at_seq rfl ?_
    refine rg rfl ?_
    refine Rq ?_
    refine Rq ?_
    refine Rcall ?_
    refine ACall_eq (sign_ok _ _ _) ?_
    refine Rq ?_
    have tr : ∀ a b c d e f g h i j k m n o : AV, let l := lc_rcomp_ok a b c d e f g h i j; trim ((4,o)::(38,n)::(37,m)::(36,k)::l) l = [(0,a),(1,b),(2,c),(3,d),(4,o),(5,f),(9,g),(21,h),(33,i),(39,j)] := by intros; rfl
    refine R_nil (tr ..) ?_; clear tr
    refine then_n ?_
    refine at_ret rfl ?_
    refine blk_r ?_
    refine then_r ?_
    first | (refine fpure ?_; refine ⟨?_, rfl⟩; rw [cm_pt (by assumption)] <;> rfl; done) | (refine fpure ?_; refine ⟨?_, rfl⟩; rw [cm_wn (by assumption) (by assumption)] <;> rfl; done) | (refine fpure ?_; refine ⟨?_, rfl⟩; rw [cm_cr (by assumption) (by assumption) (by assumption)] <;> rfl; done) | (refine fpure ?_; refine ⟨?_, rfl⟩; rw [cm_cr0 (by assumption) (by assumption) (by assumption)] <;> rfl; done) | (refine fpure ?_; refine ⟨?_, rfl⟩; rw [cm_cr' (by assumption) (by assumption) (by assumption)] <;> rfl; done) | (refine fpure ?_; refine ⟨?_, rfl⟩; rw [cm_tm (by assumption) (by assumption) (by assumption) (by assumption)] <;> rfl; done) | (refine fpure ?_; refine ⟨?_, rfl⟩; rw [cm_0 (by assumption) (by assumption) (by assumption) (by assumption)] <;> rfl; done)
   ·
    try simp only [decide_eq_true_eq, decide_eq_false_iff_not, decide_eq_decide, Bool.not_eq_true', Bool.not_eq_false', beq_iff_eq, beq_eq_false_iff_ne, ne_eq, Bool.and_eq_true, Bool.and_eq_false_iff, decide_not] at h3
    refine at_seq rfl ?_
    refine rg rfl ?_
    refine Rq ?_
    refine Rq ?_
    refine Rq ?_
    refine Rq ?_
    refine Rq ?_
    refine Rq ?_
    have tr : ∀ a b c d e f g h i j k m n o p q : AV, let l := lc_rcomp_ok a b c d e f g h i j; trim ((39,q)::(44,p)::(43,o)::(42,n)::(41,m)::(40,k)::l) l = [(0,a),(1,b),(2,c),(3,d),(4,e),(5,f),(9,g),(21,h),(33,i),(39,q)] := by intros; rfl
    refine R_nil (tr ..) ?_; clear tr
    refine then_n ?_
    refine cdd (fun h4 => ?_) (fun h4 => ?_)
    ·
     try simp only [decide_eq_true_eq, decide_eq_false_iff_not, decide_eq_decide, Bool.not_eq_true', Bool.not_eq_false', beq_iff_eq, beq_eq_false_iff_ne, ne_eq, Bool.and_eq_true, Bool.and_eq_false_iff, decide_not] at h4
     refine at_seq rfl ?_
     refine rg rfl ?_
     refine Rq ?_
     refine Rq ?_
     refine Rq ?_
     refine Rq ?_
     refine Rq ?_
     refine Rcall ?_
     refine ACall_eq (sign_ok _ _ _) ?_
     refine Rq ?_
     have tr : ∀ a b c d e f g h i j k m n o p q r : AV, let l := lc_rcomp_ok a b c d e f g h i j; trim ((4,r)::(50,q)::(49,p)::(48,o)::(47,n)::(46,m)::(45,k)::l) l = [(0,a),(1,b),(2,c),(3,d),(4,r),(5,f),(9,g),(21,h),(33,i),(39,j)] := by intros; rfl
     refine R_nil (tr ..) ?_; clear tr
     refine then_n ?_
     refine at_ret rfl ?_
     refine blk_r ?_
     refine then_r ?_
     first | (refine fpure ?_; refine ⟨?_, rfl⟩; rw [cm_pt (by assumption)] <;> rfl; done) | (refine fpure ?_; refine ⟨?_, rfl⟩; rw [cm_wn (by assumption) (by assumption)] <;> rfl; done) | (refine fpure ?_; refine ⟨?_, rfl⟩; rw [cm_cr (by assumption) (by assumption) (by assumption)] <;> rfl; done) | (refine fpure ?_; refine ⟨?_, rfl⟩; rw [cm_cr0 (by assumption) (by assumption) (by assumption)] <;> rfl; done) | (refine fpure ?_; refine ⟨?_, rfl⟩; rw [cm_cr' (by assumption) (by assumption) (by assumption)] <;> rfl; done) | (refine fpure ?_; refine ⟨?_, rfl⟩; rw [cm_tm (by assumption) (by assumption) (by assumption) (by assumption)] <;> rfl; done) | (refine fpure ?_; refine ⟨?_, rfl⟩; rw [cm_0 (by assumption) (by assumption) (by assumption) (by assumption)] <;> rfl; done)
    ·
     try simp only [decide_eq_true_eq, decide_eq_false_iff_not, decide_eq_decide, Bool.not_eq_true', Bool.not_eq_false', beq_iff_eq, beq_eq_false_iff_ne, ne_eq, Bool.and_eq_true, Bool.and_eq_false_iff, decide_not] at h4
     refine at_skip rfl ?_
     refine blk_n ?_
     refine then_n ?_
     refine at_seq rfl ?_
     refine rg rfl ?_
     refine Rq ?_
     have tr : ∀ a b c d e f g h i j k : AV, let l := lc_rcomp_ok a b c d e f g h i j; trim ((4,k)::l) l = [(0,a),(1,b),(2,c),(3,d),(4,k),(5,f),(9,g),(21,h),(33,i),(39,j)] := by intros; rfl
     refine R_nil (tr ..) ?_; clear tr
     refine then_n ?_
     refine at_ret rfl ?_
     first | (refine fpure ?_; refine ⟨?_, rfl⟩; rw [cm_pt (by assumption)] <;> rfl; done) | (refine fpure ?_; refine ⟨?_, rfl⟩; rw [cm_wn (by assumption) (by assumption)] <;> rfl; done) | (refine fpure ?_; refine ⟨?_, rfl⟩; rw [cm_cr (by assumption) (by assumption) (by assumption)] <;> rfl; done) | (refine fpure ?_; refine ⟨?_, rfl⟩; rw [cm_cr0 (by assumption) (by assumption) (by assumption)] <;> rfl; done) | (refine fpure ?_; refine ⟨?_, rfl⟩; rw [cm_cr' (by assumption) (by assumption) (by assumption)] <;> rfl; done) | (refine fpure ?_; refine ⟨?_, rfl⟩; rw [cm_tm (by assumption) (by assumption) (by assumption) (by assumption)] <;> rfl; done) | (refine fpure ?_; refine ⟨?_, rfl⟩; rw [cm_0 (by assumption) (by assumption) (by assumption) (by assumption)] <;> rfl; done)

end Go.Proofs.Ytfnapmdedmbdbaa
end
section
set_option linter.unusedSimpArgs false
set_option linter.unusedVariables false
set_option maxHeartbeats 4000000
set_option maxRecDepth 20000
namespace Go.Proofs.Ytfnapmdedmbdbaa
open Go Go.Am
abbrev lc_rtable_ok (a b c d e f g h i j k m n o p : AV) : Env := [(0,a),(1,b),(4,c),(5,d),(6,e),(7,f),(8,g),(9,h),(10,i),(11,j),(16,k),(18,m),(19,n),(20,o),(38,p)]
theorem rtable_ok (lim : Nat) (H : Heap) (n : Int) (hn : -9223372036854775808 ≤ n ∧ n ≤ 9223372036854775807) (l : List Pl) : ACall sig lim 15 [AV.i n, plsAV l] H fun r H' => r = .tup [tbAV (tabS n l), AV.i (chS n l)] ∧ H' = H := by
 have q9 : True := trivial
 refine ACall_pure (fa := fa15) rfl rfl rfl rfl ?_
 have tr : ∀ a0 a1 : AV, env0 fa15.keep [a0, a1] = [(0,a0),(1,a1),(4,.any),(5,.any),(6,.any),(7,.any),(8,.any),(9,.any),(10,.any),(11,.any),(16,.any),(18,.any),(19,.any),(20,.any),(38,.any)] := fun a0 a1 => rfl
 refine W_to (tr _ _) ?_; clear tr
 refine at_seq rfl ?_
 refine rg rfl ?_
 refine Rq ?_
 refine Rq ?_
 have tr : ∀ a b c d e f g h i j k m n o p q r : AV, let l := lc_rtable_ok a b c d e f g h i j k m n o p; trim ((5,r)::(4,q)::l) l = [(0,a),(1,b),(4,q),(5,r),(6,e),(7,f),(8,g),(9,h),(10,i),(11,j),(16,k),(18,m),(19,n),(20,o),(38,p)] := by intros; rfl
 refine R_nil (tr ..) ?_; clear tr
 refine then_n ?_
 refine at_seq rfl ?_
 refine at_seq rfl ?_
 refine rg rfl ?_
 refine Rq ?_
 refine Rq ?_
 refine Rcall ?_
 refine ACall_eq (rcheck_ok _ _ n hn l) ?_
 refine Rq ?_
 have tr : ∀ a b c d e f g h i j k m n o p q r s t : AV, let l := lc_rtable_ok a b c d e f g h i j k m n o p; trim ((6,t)::(14,s)::(13,r)::(12,q)::l) l = [(0,a),(1,b),(4,c),(5,d),(6,t),(7,f),(8,g),(9,h),(10,i),(11,j),(16,k),(18,m),(19,n),(20,o),(38,p)] := by intros; rfl
 refine R_nil (tr ..) ?_; clear tr
 refine then_n ?_
 refine at_seq rfl ?_
 refine rg rfl ?_
 refine Rq ?_
 refine Rq ?_
 have tr : ∀ a b c d e f g h i j k m n o p q r : AV, let l := lc_rtable_ok a b c d e f g h i j k m n o p; trim ((16,r)::(15,q)::l) l = [(0,a),(1,b),(4,c),(5,d),(6,e),(7,f),(8,g),(9,h),(10,i),(11,j),(16,r),(18,m),(19,n),(20,o),(38,p)] := by intros; rfl
 refine R_nil (tr ..) ?_; clear tr
 refine then_n ?_
 refine cdd (fun h1 => ?_) (fun h1 => ?_)
 ·
  try simp only [decide_eq_true_eq, decide_eq_false_iff_not, decide_eq_decide, Bool.not_eq_true', Bool.not_eq_false', beq_iff_eq, beq_eq_false_iff_ne, ne_eq, Bool.and_eq_true, Bool.and_eq_false_iff, decide_not] at h1
  refine at_seq rfl ?_
  refine rg rfl ?_
  refine Rq ?_
  refine Rq ?_
  refine Rq ?_
  have tr : ∀ a b c d e f g h i j k m n o p q r s : AV, let l := lc_rtable_ok a b c d e f g h i j k m n o p; trim ((5,s)::(4,r)::(17,q)::l) l = [(0,a),(1,b),(4,r),(5,s),(6,e),(7,f),(8,g),(9,h),(10,i),(11,j),(16,k),(18,m),(19,n),(20,o),(38,p)] := by intros; rfl
  refine R_nil (tr ..) ?_; clear tr
  refine then_n ?_
  refine at_ret rfl ?_
  refine then_r ?_
  first | (refine fpure ?_; refine ⟨?_, rfl⟩; rw [tabS_n (by assumption), tbAV_nil] <;> rfl; done) | (refine fin_pure (rs := [.tmp 4, .tmp 5]) rfl (by simp (disch := first | omega | (simp only [List.length_map, List.length_append, List.length_set, List.length_cons, List.length_nil]; omega)) only [go_sem, ↓reduceIte, Nat.reduceEqDiff, reduceCtorEq] <;> rfl) (v := .tup [stsAV (tbS (stds n.toNat l)), AV.i 0]) (by show AV.tup [frz _ _ 7 (.own 10 b 0 _), AV.i 0] = _; rw [frz_ownZ (by omega) hb2 rfl]) ?_; refine ⟨?_, rfl⟩; rw [tabS_y hc, hc, tbAV_ne (tab_ne hc)])
 ·
  try simp only [decide_eq_true_eq, decide_eq_false_iff_not, decide_eq_decide, Bool.not_eq_true', Bool.not_eq_false', beq_iff_eq, beq_eq_false_iff_ne, ne_eq, Bool.and_eq_true, Bool.and_eq_false_iff, decide_not] at h1
  refine at_skip rfl ?_
  refine then_n ?_
  refine at_seq rfl ?_
  refine rg rfl ?_
  have hc : chS n l = 0 := by first | assumption | omega
  obtain ⟨hn2, hl4, hpl⟩ := chS_z hc
  refine Rq ?_
  have tr : ∀ a b c d e f g h i j k m n o p q : AV, let l := lc_rtable_ok a b c d e f g h i j k m n o p; trim ((7,q)::l) l = [(0,a),(1,b),(4,c),(5,d),(6,e),(7,q),(8,g),(9,h),(10,i),(11,j),(16,k),(18,m),(19,n),(20,o),(38,p)] := by intros; rfl
  refine R_nil (tr ..) ?_; clear tr
  refine then_n ?_
  refine at_seq rfl ?_
  refine at_seq rfl ?_
  refine rg rfl ?_
  refine Rq ?_
  refine Rq ?_
  have tr : ∀ a b c d e f g h i j k m n o p q r : AV, let l := lc_rtable_ok a b c d e f g h i j k m n o p; trim ((19,r)::(18,q)::l) l = [(0,a),(1,b),(4,c),(5,d),(6,e),(7,f),(8,g),(9,h),(10,i),(11,j),(16,k),(18,q),(19,r),(20,o),(38,p)] := by intros; rfl
  refine R_nil (tr ..) ?_; clear tr
  refine then_n ?_
  refine at_block rfl ?_
  refine loop_n rfl (fun mm kv H' => ∃ i : Nat, ∃ o : AV, ∃ x8 x9 x10 x11 x20 x38 : AV, (kv = [(7, o), (8, x8), (9, x9), (10, x10), (11, x11), (19, AV.i (i : Int)), (20, x20), (38, x38)]) ∧ (mm = n.toNat - i) ∧ (i ≤ n.toNat) ∧ (OutZ H.length H' o (tbS (stds i l))) ∧ (H.length ≤ H'.length)) ⟨0, _, _, _, _, _, _, _, rfl, rfl, by omega, by exact OutZ.nil _ _, by omega⟩ (by rfl) ?_
  rintro mm kv HB ⟨i, o, x8, x9, x10, x11, x20, x38, rfl, rfl, hi, hO, hHB⟩
  have tr : ∀ a b c d e f g h i j k m n o p q r s t u v w x : AV, upd [(0,a),(1,b),(4,c),(5,d),(6,e),(7,f),(8,g),(9,h),(10,i),(11,j),(16,k),(18,m),(19,n),(20,o),(38,p)] [(7,q),(8,r),(9,s),(10,t),(11,u),(19,v),(20,w),(38,x)] = [(0,a),(1,b),(4,c),(5,d),(6,e),(7,q),(8,r),(9,s),(10,t),(11,u),(16,k),(18,m),(19,v),(20,w),(38,x)] := by intros; rfl
  refine W_to (tr ..) ?_; clear tr
  refine at_seq rfl ?_
  refine rg rfl ?_
  refine Rq ?_
  have tr : ∀ a b c d e f g h i j k m n o p q : AV, let l := lc_rtable_ok a b c d e f g h i j k m n o p; trim ((20,q)::l) l = [(0,a),(1,b),(4,c),(5,d),(6,e),(7,f),(8,g),(9,h),(10,i),(11,j),(16,k),(18,m),(19,n),(20,q),(38,p)] := by intros; rfl
  refine R_nil (tr ..) ?_; clear tr
  refine then_n ?_
  refine at_seq rfl ?_
  refine cdd (fun h2 => ?_) (fun h2 => ?_)
  ·
   try simp only [decide_eq_true_eq, decide_eq_false_iff_not, decide_eq_decide, Bool.not_eq_true', Bool.not_eq_false', beq_iff_eq, beq_eq_false_iff_ne, ne_eq, Bool.and_eq_true, Bool.and_eq_false_iff, decide_not] at h2
   refine at_skip rfl ?_
   refine then_n ?_
   refine at_seq rfl ?_
   refine at_block rfl ?_
   refine at_seq rfl ?_
   refine rg rfl ?_
   obtain ⟨zs, hzs⟩ : ∃ zs, zs = tbS (stds i l) := ⟨_, rfl⟩
   rw [← hzs] at hO
   have hzl : zs.length = i := by
     have hok := stds_ok hpl hl4 i l.length (Nat.le_refl _)
     rw [List.take_length] at hok
     rw [hzs, tbS_len hok, stds_len]
   have hO0 := hO
   refine Rq ?_
   refine Rq ?_
   have tr : ∀ a b c d e f g h i j k m n o p q r : AV, let l := lc_rtable_ok a b c d e f g h i j k m n o p; trim ((8,r)::(21,q)::l) l = [(0,a),(1,b),(4,c),(5,d),(6,e),(7,f),(8,r),(9,h),(10,i),(11,j),(16,k),(18,m),(19,n),(20,o),(38,p)] := by intros; rfl
   refine R_nil (tr ..) ?_; clear tr
   refine then_n ?_
   refine at_seq rfl ?_
   refine rg rfl ?_
   refine Rq ?_
   refine Rq ?_
   refine Rcall ?_
   refine ACall_eq (standing_ok _ _ (i : Int) n l hpl hl4) ?_
   refine A_alloc rfl ?_
   intro HA nA
   have enA := nA.len
   have hO := hO.new nA
   have q9 := nA.new
   refine A_store ty47 (by simp (disch := first | omega | (simp only [List.length_map, List.length_append, List.length_set, List.length_cons, List.length_nil]; omega)) only [go_sem, ↓reduceIte, Nat.reduceEqDiff, reduceCtorEq] <;> rfl) (by simp (disch := first | omega | (simp only [List.length_map, List.length_append, List.length_set, List.length_cons, List.length_nil]; omega)) only [go_sem, ↓reduceIte, Nat.reduceEqDiff, reduceCtorEq] <;> rfl) q9 ⟨by omega, rfl, Nat.le_refl 10⟩ (k' := stL (stdS l (i : Int))) rfl ?_
   intro HS wS
   have eS := wS.len
   have hO := hO.wrote (fun b hb => by have := hO0.lt hb; omega) wS
   have q9 := wS.new
   have tr : ∀ a b c d e f g h i j k m n o p q r s t : AV, let l := lc_rtable_ok a b c d e f g h i j k m n o p; trim ((9,t)::(24,s)::(23,r)::(22,q)::l) l = [(0,a),(1,b),(4,c),(5,d),(6,e),(7,f),(8,g),(9,t),(10,i),(11,j),(16,k),(18,m),(19,n),(20,o),(38,p)] := by intros; rfl
   refine R_nil (tr ..) ?_; clear tr
   refine then_n ?_
   refine at_seq rfl ?_
   refine rg rfl ?_
   refine Rq ?_
   refine R_q rfl (by simp only [go_sem, ↓reduceIte, Nat.reduceEqDiff]; exact hO.len) ?_
   refine Rq ?_
   have tr : ∀ a b c d e f g h i j k m n o p q r s : AV, let l := lc_rtable_ok a b c d e f g h i j k m n o p; trim ((10,s)::(26,r)::(25,q)::l) l = [(0,a),(1,b),(4,c),(5,d),(6,e),(7,f),(8,g),(9,h),(10,s),(11,j),(16,k),(18,m),(19,n),(20,o),(38,p)] := by intros; rfl
   refine R_nil (tr ..) ?_; clear tr
   refine then_n ?_
   refine at_seq rfl ?_
   refine at_block rfl ?_
   refine loop_n rfl (fun mm kv H' => ∃ k : Nat, ∃ x38 : AV, (kv = [(10, AV.i (k : Int)), (38, x38)]) ∧ (mm = 1 * k) ∧ (HS = H') ∧ (k ≤ zs.length) ∧ (∀ j, k ≤ j → j < zs.length → cmS (stdS l (i : Int)) (gz zs j) < 0)) ⟨zs.length, _, rfl, rfl, by rfl, by omega, by (intro j hj1 hj2; omega)⟩ (by rfl) ?_
   rintro mm kv HI ⟨k, x38, rfl, rfl, hHI, hk, h1k⟩
   have tr : ∀ a b c d e f g h i j k m n o p q r : AV, upd [(0,a),(1,b),(4,c),(5,d),(6,e),(7,f),(8,g),(9,h),(10,i),(11,j),(16,k),(18,m),(19,n),(20,o),(38,p)] [(10,q),(38,r)] = [(0,a),(1,b),(4,c),(5,d),(6,e),(7,f),(8,g),(9,h),(10,q),(11,j),(16,k),(18,m),(19,n),(20,o),(38,r)] := by intros; rfl
   refine W_to (tr ..) ?_; clear tr
   subst hHI
   refine at_seq rfl ?_
   refine at_seq rfl ?_
   refine rd rfl rfl ?_
   refine Qq ?_
   refine Qq ?_
   refine Qq ?_
   refine Qp_split (fun h3 => ?_) (fun h3 => ?_)
   ·
    try simp only [decide_eq_true_eq, decide_eq_false_iff_not, decide_eq_decide, Bool.not_eq_true', Bool.not_eq_false', beq_iff_eq, beq_eq_false_iff_ne, ne_eq, Bool.and_eq_true, Bool.and_eq_false_iff, decide_not] at h3
    refine Qy ?_
    refine Q_q rfl (by simp (disch := first | omega | (simp only [List.length_map, List.length_append, List.length_set, List.length_cons, List.length_nil]; omega)) only [go_sem, ↓reduceIte, Nat.reduceEqDiff, reduceCtorEq, q9] <;> rfl) ?_
    refine Qy ?_
    refine Qq ?_
    refine Qy ?_
    refine Qq ?_
    refine Qy ?_
    refine Qq ?_
    refine Qy ?_
    obtain ⟨b, rfl, hb1, hb2⟩ := hO.own (fun e => by rw [e] at hk; simp at hk; omega)
    refine Q_q (r := .ptr b ((k - 1) * 10)) rfl (by simp (disch := first | omega | (simp only [List.length_map, List.length_append, List.length_set, List.length_cons, List.length_nil]; omega)) only [go_sem, ↓reduceIte, Nat.reduceEqDiff, reduceCtorEq] <;> rfl) ?_
    refine Qy ?_
    refine Q_q (r := stA (gz zs (k - 1))) rfl (by simp (disch := first | omega | (simp only [List.length_map, List.length_append, List.length_set, List.length_cons, List.length_nil]; omega)) only [go_sem, ↓reduceIte, Nat.reduceEqDiff, reduceCtorEq, hb2] <;> exact ld_st zs (k - 1) (by omega)) ?_
    refine Qy ?_
    refine Qcall ?_
    refine ACall_eq (rcomp_ok _ _ _ _) ?_
    refine ⟨rfl, ?_⟩
    refine Qy ?_
    refine Qq ?_
    refine Qq ?_
    refine Q_nil ?_
    have tr : ∀ a b c d e f g h i j k m n o p q r s t u v w x y z A B : AV, let l := lc_rtable_ok a b c d e f g h i j k m n o p; trim ((38,B)::(37,A)::(36,z)::(35,y)::(34,x)::(33,w)::(32,v)::(31,u)::(30,t)::(29,s)::(28,r)::(27,q)::l) l = [(0,a),(1,b),(4,c),(5,d),(6,e),(7,f),(8,g),(9,h),(10,i),(11,j),(16,k),(18,m),(19,n),(20,o),(38,B)] := by intros; rfl
    refine R_nil (tr ..) ?_; clear tr
    refine then_n ?_
    refine cdd (fun h4 => ?_) (fun h4 => ?_)
    ·
     try simp only [decide_eq_true_eq, decide_eq_false_iff_not, decide_eq_decide, Bool.not_eq_true', Bool.not_eq_false', beq_iff_eq, beq_eq_false_iff_ne, ne_eq, Bool.and_eq_true, Bool.and_eq_false_iff, decide_not] at h4
     refine at_skip rfl ?_
     refine then_n ?_
     refine at_block rfl ?_
     refine rg rfl ?_
     refine Rq ?_
     refine R_q (r := AV.i ((k - 1 : Nat) : Int)) rfl (by simp (disch := first | omega | (simp only [List.length_map, List.length_append, List.length_set, List.length_cons, List.length_nil]; omega)) only [go_sem, ↓reduceIte, Nat.reduceEqDiff, reduceCtorEq] <;> exact congrArg (fun z => some (AV.i z)) (by omega)) ?_
     refine Rq ?_
     have tr : ∀ a b c d e f g h i j k m n o p q r s : AV, let l := lc_rtable_ok a b c d e f g h i j k m n o p; trim ((10,s)::(40,r)::(39,q)::l) l = [(0,a),(1,b),(4,c),(5,d),(6,e),(7,f),(8,g),(9,h),(10,s),(11,j),(16,k),(18,m),(19,n),(20,o),(38,p)] := by intros; rfl
     refine R_nil (tr ..) ?_; clear tr
     refine blk_n ?_
     refine then_n ?_
     exact ⟨_, _, ⟨k - 1, _, rfl, rfl, by rfl, by omega, by (intro j hj1 hj2; by_cases hjk : j = k - 1; subst hjk; assumption; exact h1k j (by omega) hj2)⟩, by rfl, by omega⟩
    ·
     try simp only [decide_eq_true_eq, decide_eq_false_iff_not, decide_eq_decide, Bool.not_eq_true', Bool.not_eq_false', beq_iff_eq, beq_eq_false_iff_ne, ne_eq, Bool.and_eq_true, Bool.and_eq_false_iff, decide_not] at h4
     refine at_exit rfl ?_
     refine then_x ?_
     refine then_x ?_
     refine blk_x ?_
     refine then_n ?_
     refine at_seq rfl ?_
     refine rg rfl ?_
     have hst : k = 0 ∨ ¬ cmS (stdS l (i : Int)) (gz zs (k - 1)) < 0 := by omega
     refine Rq ?_
     have tr : ∀ a b c d e f g h i j k m n o p q : AV, let l := lc_rtable_ok a b c d e f g h i j k m n o p; trim ((11,q)::l) l = [(0,a),(1,b),(4,c),(5,d),(6,e),(7,f),(8,g),(9,h),(10,i),(11,q),(16,k),(18,m),(19,n),(20,o),(38,p)] := by intros; rfl
     refine R_nil (tr ..) ?_; clear tr
     refine then_n ?_
     refine rls2 rfl rfl ?_
     refine Lq ?_
     refine Lq ?_
     refine Lq ?_
     obtain ⟨o1, s1, a1⟩ := hO.take hk
     obtain ⟨o2, s2, a2⟩ := hO.drop hk
     refine L_q (r := o1) rfl (by simp only [go_sem, ↓reduceIte, Nat.reduceEqDiff]; exact s1) rfl ?_
     refine L_q rfl (by simp (disch := first | omega | (simp only [List.length_map, List.length_append, List.length_set, List.length_cons, List.length_nil]; omega)) only [go_sem, ↓reduceIte, Nat.reduceEqDiff, reduceCtorEq, q9] <;> rfl) rfl ?_
     refine Lq ?_
     refine Lq ?_
     refine L_q (r := o2) rfl (by simp only [go_sem, ↓reduceIte, Nat.reduceEqDiff]; exact s2) rfl ?_
     refine L_nil ?_
     refine R_append (by simp (disch := first | omega | (simp only [List.length_map, List.length_append, List.length_set, List.length_cons, List.length_nil]; omega)) only [go_sem, ↓reduceIte, Nat.reduceEqDiff, reduceCtorEq]; exact apNilE (a1 _ _ hO) (by omega) rfl rfl) ?_
     refine R_buildSlice (bs27e (x := (stdS l (i : Int))) (by simp (disch := first | omega | (simp only [List.length_map, List.length_append, List.length_set, List.length_cons, List.length_nil]; omega)) only [go_sem, ↓reduceIte, Nat.reduceEqDiff, reduceCtorEq] <;> rfl) (n := HS.length + 1) (by simp) rfl) ?_
     refine R_append (by simp (disch := first | omega | (simp only [List.length_map, List.length_append, List.length_set, List.length_cons, List.length_nil]; omega)) only [go_sem, ↓reduceIte, Nat.reduceEqDiff, reduceCtorEq]; exact apOwnE (h21 _ _ _) (Nat.le_refl _) (by rw [List.length_take]; omega) (srcOne (h22 _ _ _)) (by omega) (s := k + 1) rfl (c := HS.length + 2) (by simp) lay0) ?_
     refine R_end ⟨?_, ?_⟩
     ·
      refine ⟨?_, ?_⟩
      ·
       refine R_buildSlice (bs27e (x := (stdS l (i : Int))) (by simp (disch := first | omega | (simp only [List.length_map, List.length_append, List.length_set, List.length_cons, List.length_nil]; omega)) only [go_sem, ↓reduceIte, Nat.reduceEqDiff, reduceCtorEq] <;> rfl) (n := HS.length) rfl rfl) ?_
       refine R_append (by simp (disch := first | omega | (simp only [List.length_map, List.length_append, List.length_set, List.length_cons, List.length_nil]; omega)) only [go_sem, ↓reduceIte, Nat.reduceEqDiff, reduceCtorEq]; exact apNilE (a1 _ _ (hO.app _)) (by omega) (n := HS.length + 1) (by simp) rfl) ?_
       refine R_append (by simp (disch := first | omega | (simp only [List.length_map, List.length_append, List.length_set, List.length_cons, List.length_nil]; omega)) only [go_sem, ↓reduceIte, Nat.reduceEqDiff, reduceCtorEq]; exact apOwnE (h22 _ _ _) (by omega) (by rw [List.length_take]; omega) (srcOne (h21 _ _ _)) (by omega) (s := k + 1) rfl (c := HS.length + 2) (by simp) lay1) ?_
       refine R_end ?_
       refine three_sw (H := HS) (S := stL (stdS l (i : Int))) (B := flatZ (zs.take k ++ [(stdS l (i : Int))])) (stL_ren _) (flatZ_ren _) ?_
       intro t2 ht
       simp only [List.mem_cons, List.not_mem_nil, or_false] at ht
       rcases ht with rfl | rfl
       · simp only [get_cons, put_some, ↓reduceIte, Nat.reduceEqDiff]
         exact congrArg (fun b => AV.own 10 b 0 (k + 1)) (rn_two _)
       · simp only [get_cons, put_some, ↓reduceIte, Nat.reduceEqDiff]
         exact hO.drop_ren s2 _
      exact trivial
     rewrite [keep_three]
     refine Rp_env (e' := [(48, _), (51, _), (41, .any), (42, .any), (43, .any), (44, .any), (45, .any), (46, .any), (47, .any), (48, .any), (49, .any), (50, .any), (51, .any), (52, .any), (7, .any), (0, _), (1, _), (4, _), (5, _), (6, _), (7, _), (8, _), (9, _), (10, _), (11, _), (16, _), (18, _), (19, _), (20, _), (38, _)]) rfl ?_
     simp only [put_some, get_cons, ↓reduceIte, Nat.reduceEqDiff]
     have hO := hO.three none (some (stL (stdS l (i : Int)))) (some (flatZ (zs.take k ++ [(stdS l (i : Int))])))
     have qM := three_2 HS none (some (stL (stdS l (i : Int)))) (some (flatZ (zs.take k ++ [(stdS l (i : Int))])))
     have eM : (HS ++ [none] ++ [some (stL (stdS l (i : Int)))] ++ [some (flatZ (zs.take k ++ [(stdS l (i : Int))]))]).length = HS.length + 3 := by simp
     generalize HS ++ [none] ++ [some (stL (stdS l (i : Int)))] ++ [some (flatZ (zs.take k ++ [(stdS l (i : Int))]))] = HM at hO qM eM ⊢
     refine A_append (by simp (disch := first | omega | (simp only [List.length_map, List.length_append, List.length_set, List.length_cons, List.length_nil]; omega)) only [go_sem, ↓reduceIte, Nat.reduceEqDiff, reduceCtorEq]; exact apOwn (s := zs.length + 1) qM (by omega) (by simp; omega) (a2 _ _ hO) (by omega) (by omega)) ?_
     intro HN gN
     have eN := gN.len
     have qN := gN.new
     refine Rq ?_
     have tr : ∀ a b c d e f g h i j k m n o p q r s t u v w x y z A B C D E F G : AV, let l := lc_rtable_ok a b c d e f g h i j k m n o p; trim ((7,G)::(52,F)::(48,E)::(51,D)::(41,C)::(42,B)::(43,A)::(44,z)::(45,y)::(46,x)::(47,w)::(48,v)::(49,u)::(50,t)::(51,s)::(52,r)::(7,q)::l) l = [(0,a),(1,b),(4,c),(5,d),(6,e),(7,G),(8,g),(9,h),(10,i),(11,j),(16,k),(18,m),(19,n),(20,o),(38,p)] := by intros; rfl
     refine R_nil (tr ..) ?_; clear tr
     refine blk_n ?_
     refine then_n ?_
     refine rg rfl ?_
     refine Rq ?_
     refine Rq ?_
     have tr : ∀ a b c d e f g h i j k m n o p q r : AV, let l := lc_rtable_ok a b c d e f g h i j k m n o p; trim ((19,r)::(53,q)::l) l = [(0,a),(1,b),(4,c),(5,d),(6,e),(7,f),(8,g),(9,h),(10,i),(11,j),(16,k),(18,m),(19,r),(20,o),(38,p)] := by intros; rfl
     refine R_nil (tr ..) ?_; clear tr
     refine then_n ?_
     exact ⟨_, _, ⟨i + 1, .own 10 HM.length 0 (zs.length + 1), _, _, _, _, _, _, rfl, rfl, by omega, by (rw [tb_step hpl hl4 i hzs hk h1k hst]; exact .inr ⟨HM.length, by rw [show (zs.take k ++ stdS l i :: zs.drop k).length = zs.length + 1 by simp; omega], by omega, by simpa using qN, by simp⟩), by (show H.length ≤ HN.length; omega)⟩, by rfl, by omega⟩
   ·
    try simp only [decide_eq_true_eq, decide_eq_false_iff_not, decide_eq_decide, Bool.not_eq_true', Bool.not_eq_false', beq_iff_eq, beq_eq_false_iff_ne, ne_eq, Bool.and_eq_true, Bool.and_eq_false_iff, decide_not] at h3
    refine Qn ?_
    refine Qn ?_
    refine Qn ?_
    refine Qn ?_
    refine Qn ?_
    refine Qn ?_
    refine Qn ?_
    refine Qn ?_
    refine Qq ?_
    refine Q_nil ?_
    have tr : ∀ a b c d e f g h i j k m n o p q r s t u v w x y z A B : AV, let l := lc_rtable_ok a b c d e f g h i j k m n o p; trim ((38,B)::(37,A)::(36,z)::(35,y)::(34,x)::(33,w)::(32,v)::(31,u)::(30,t)::(29,s)::(28,r)::(27,q)::l) l = [(0,a),(1,b),(4,c),(5,d),(6,e),(7,f),(8,g),(9,h),(10,i),(11,j),(16,k),(18,m),(19,n),(20,o),(38,B)] := by intros; rfl
    refine R_nil (tr ..) ?_; clear tr
    refine then_n ?_
    refine cdf ?_
    refine at_exit rfl ?_
    refine then_x ?_
    refine then_x ?_
    refine blk_x ?_
    refine then_n ?_
    refine at_seq rfl ?_
    refine rg rfl ?_
    have hst : k = 0 ∨ ¬ cmS (stdS l (i : Int)) (gz zs (k - 1)) < 0 := by omega
    refine Rq ?_
    have tr : ∀ a b c d e f g h i j k m n o p q : AV, let l := lc_rtable_ok a b c d e f g h i j k m n o p; trim ((11,q)::l) l = [(0,a),(1,b),(4,c),(5,d),(6,e),(7,f),(8,g),(9,h),(10,i),(11,q),(16,k),(18,m),(19,n),(20,o),(38,p)] := by intros; rfl
    refine R_nil (tr ..) ?_; clear tr
    refine then_n ?_
    refine rls2 rfl rfl ?_
    refine Lq ?_
    refine Lq ?_
    refine Lq ?_
    obtain ⟨o1, s1, a1⟩ := hO.take hk
    obtain ⟨o2, s2, a2⟩ := hO.drop hk
    refine L_q (r := o1) rfl (by simp only [go_sem, ↓reduceIte, Nat.reduceEqDiff]; exact s1) rfl ?_
    refine L_q rfl (by simp (disch := first | omega | (simp only [List.length_map, List.length_append, List.length_set, List.length_cons, List.length_nil]; omega)) only [go_sem, ↓reduceIte, Nat.reduceEqDiff, reduceCtorEq, q9] <;> rfl) rfl ?_
    refine Lq ?_
    refine Lq ?_
    refine L_q (r := o2) rfl (by simp only [go_sem, ↓reduceIte, Nat.reduceEqDiff]; exact s2) rfl ?_
    refine L_nil ?_
    refine R_append (by simp (disch := first | omega | (simp only [List.length_map, List.length_append, List.length_set, List.length_cons, List.length_nil]; omega)) only [go_sem, ↓reduceIte, Nat.reduceEqDiff, reduceCtorEq]; exact apNilE (a1 _ _ hO) (by omega) rfl rfl) ?_
    refine R_buildSlice (bs27e (x := (stdS l (i : Int))) (by simp (disch := first | omega | (simp only [List.length_map, List.length_append, List.length_set, List.length_cons, List.length_nil]; omega)) only [go_sem, ↓reduceIte, Nat.reduceEqDiff, reduceCtorEq] <;> rfl) (n := HS.length + 1) (by simp) rfl) ?_
    refine R_append (by simp (disch := first | omega | (simp only [List.length_map, List.length_append, List.length_set, List.length_cons, List.length_nil]; omega)) only [go_sem, ↓reduceIte, Nat.reduceEqDiff, reduceCtorEq]; exact apOwnE (h21 _ _ _) (Nat.le_refl _) (by rw [List.length_take]; omega) (srcOne (h22 _ _ _)) (by omega) (s := k + 1) rfl (c := HS.length + 2) (by simp) lay0) ?_
    refine R_end ⟨?_, ?_⟩
    ·
     refine ⟨?_, ?_⟩
     ·
      refine R_buildSlice (bs27e (x := (stdS l (i : Int))) (by simp (disch := first | omega | (simp only [List.length_map, List.length_append, List.length_set, List.length_cons, List.length_nil]; omega)) only [go_sem, ↓reduceIte, Nat.reduceEqDiff, reduceCtorEq] <;> rfl) (n := HS.length) rfl rfl) ?_
      refine R_append (by simp (disch := first | omega | (simp only [List.length_map, List.length_append, List.length_set, List.length_cons, List.length_nil]; omega)) only [go_sem, ↓reduceIte, Nat.reduceEqDiff, reduceCtorEq]; exact apNilE (a1 _ _ (hO.app _)) (by omega) (n := HS.length + 1) (by simp) rfl) ?_
      refine R_append (by simp (disch := first | omega | (simp only [List.length_map, List.length_append, List.length_set, List.length_cons, List.length_nil]; omega)) only [go_sem, ↓reduceIte, Nat.reduceEqDiff, reduceCtorEq]; exact apOwnE (h22 _ _ _) (by omega) (by rw [List.length_take]; omega) (srcOne (h21 _ _ _)) (by omega) (s := k + 1) rfl (c := HS.length + 2) (by simp) lay1) ?_
      refine R_end ?_
      refine three_sw (H := HS) (S := stL (stdS l (i : Int))) (B := flatZ (zs.take k ++ [(stdS l (i : Int))])) (stL_ren _) (flatZ_ren _) ?_
      intro t2 ht
      simp only [List.mem_cons, List.not_mem_nil, or_false] at ht
      rcases ht with rfl | rfl
      · simp only [get_cons, put_some, ↓reduceIte, Nat.reduceEqDiff]
        exact congrArg (fun b => AV.own 10 b 0 (k + 1)) (rn_two _)
      · simp only [get_cons, put_some, ↓reduceIte, Nat.reduceEqDiff]
        exact hO.drop_ren s2 _
     exact trivial
    rewrite [keep_three]
    refine Rp_env (e' := [(48, _), (51, _), (41, .any), (42, .any), (43, .any), (44, .any), (45, .any), (46, .any), (47, .any), (48, .any), (49, .any), (50, .any), (51, .any), (52, .any), (7, .any), (0, _), (1, _), (4, _), (5, _), (6, _), (7, _), (8, _), (9, _), (10, _), (11, _), (16, _), (18, _), (19, _), (20, _), (38, _)]) rfl ?_
    simp only [put_some, get_cons, ↓reduceIte, Nat.reduceEqDiff]
    have hO := hO.three none (some (stL (stdS l (i : Int)))) (some (flatZ (zs.take k ++ [(stdS l (i : Int))])))
    have qM := three_2 HS none (some (stL (stdS l (i : Int)))) (some (flatZ (zs.take k ++ [(stdS l (i : Int))])))
    have eM : (HS ++ [none] ++ [some (stL (stdS l (i : Int)))] ++ [some (flatZ (zs.take k ++ [(stdS l (i : Int))]))]).length = HS.length + 3 := by simp
    generalize HS ++ [none] ++ [some (stL (stdS l (i : Int)))] ++ [some (flatZ (zs.take k ++ [(stdS l (i : Int))]))] = HM at hO qM eM ⊢
    refine A_append (by simp (disch := first | omega | (simp only [List.length_map, List.length_append, List.length_set, List.length_cons, List.length_nil]; omega)) only [go_sem, ↓reduceIte, Nat.reduceEqDiff, reduceCtorEq]; exact apOwn (s := zs.length + 1) qM (by omega) (by simp; omega) (a2 _ _ hO) (by omega) (by omega)) ?_
    intro HN gN
    have eN := gN.len
    have qN := gN.new
    refine Rq ?_
    have tr : ∀ a b c d e f g h i j k m n o p q r s t u v w x y z A B C D E F G : AV, let l := lc_rtable_ok a b c d e f g h i j k m n o p; trim ((7,G)::(52,F)::(48,E)::(51,D)::(41,C)::(42,B)::(43,A)::(44,z)::(45,y)::(46,x)::(47,w)::(48,v)::(49,u)::(50,t)::(51,s)::(52,r)::(7,q)::l) l = [(0,a),(1,b),(4,c),(5,d),(6,e),(7,G),(8,g),(9,h),(10,i),(11,j),(16,k),(18,m),(19,n),(20,o),(38,p)] := by intros; rfl
    refine R_nil (tr ..) ?_; clear tr
    refine blk_n ?_
    refine then_n ?_
    refine rg rfl ?_
    refine Rq ?_
    refine Rq ?_
    have tr : ∀ a b c d e f g h i j k m n o p q r : AV, let l := lc_rtable_ok a b c d e f g h i j k m n o p; trim ((19,r)::(53,q)::l) l = [(0,a),(1,b),(4,c),(5,d),(6,e),(7,f),(8,g),(9,h),(10,i),(11,j),(16,k),(18,m),(19,r),(20,o),(38,p)] := by intros; rfl
    refine R_nil (tr ..) ?_; clear tr
    refine then_n ?_
    exact ⟨_, _, ⟨i + 1, .own 10 HM.length 0 (zs.length + 1), _, _, _, _, _, _, rfl, rfl, by omega, by (rw [tb_step hpl hl4 i hzs hk h1k hst]; exact .inr ⟨HM.length, by rw [show (zs.take k ++ stdS l i :: zs.drop k).length = zs.length + 1 by simp; omega], by omega, by simpa using qN, by simp⟩), by (show H.length ≤ HN.length; omega)⟩, by rfl, by omega⟩
  ·
   try simp only [decide_eq_true_eq, decide_eq_false_iff_not, decide_eq_decide, Bool.not_eq_true', Bool.not_eq_false', beq_iff_eq, beq_eq_false_iff_ne, ne_eq, Bool.and_eq_true, Bool.and_eq_false_iff, decide_not] at h2
   refine at_exit rfl ?_
   refine then_x ?_
   refine then_x ?_
   refine blk_x ?_
   refine then_n ?_
   refine at_seq rfl ?_
   refine rg rfl ?_
   obtain rfl : i = n.toNat := by omega
   obtain ⟨b, rfl, hb1, hb2⟩ := hO.own (tab_ne hc)
   refine Rq ?_
   refine Rq ?_
   refine Rq ?_
   have tr : ∀ a b c d e f g h i j k m n o p q r s : AV, let l := lc_rtable_ok a b c d e f g h i j k m n o p; trim ((5,s)::(4,r)::(54,q)::l) l = [(0,a),(1,b),(4,r),(5,s),(6,e),(7,f),(8,g),(9,h),(10,i),(11,j),(16,k),(18,m),(19,n),(20,o),(38,p)] := by intros; rfl
   refine R_nil (tr ..) ?_; clear tr
   refine then_n ?_
   refine at_ret rfl ?_
   first | (refine fpure ?_; refine ⟨?_, rfl⟩; rw [tabS_n (by assumption), tbAV_nil] <;> rfl; done) | (refine fin_pure (rs := [.tmp 4, .tmp 5]) rfl (by simp (disch := first | omega | (simp only [List.length_map, List.length_append, List.length_set, List.length_cons, List.length_nil]; omega)) only [go_sem, ↓reduceIte, Nat.reduceEqDiff, reduceCtorEq] <;> rfl) (v := .tup [stsAV (tbS (stds n.toNat l)), AV.i 0]) (by show AV.tup [frz _ _ 7 (.own 10 b 0 _), AV.i 0] = _; rw [frz_ownZ (by omega) hb2 rfl]) ?_; refine ⟨?_, rfl⟩; rw [tabS_y hc, hc, tbAV_ne (tab_ne hc)])

end Go.Proofs.Ytfnapmdedmbdbaa
end
