/-
  Texts of PointsSums, part 13 of 15. Walks of chapter 51. The steps are written by program (walk.py).
-/
import Derived.Test.YtfnapmdedmbdbaaDoorKPointsSums10
import Derived.Test.YtfnapmdedmbdbaaDoorKPointsSums6
import Derived.Test.YtfnapmdedmbdbaaDoorKPointsSums5
import Derived.Test.YtfnapmdedmbdbaaDoorKPointsSums11
import Derived.Test.YtfnapmdedmbdbaaDoorKPointsSums8
import Derived.Test.YtfnapmdedmbdbaaDoorKPointsSums7
section
set_option linter.unusedSimpArgs false
set_option linter.unusedVariables false
set_option maxHeartbeats 1000000
set_option maxRecDepth 20000
namespace Go.Proofs.YtfnapmdedmbdbaaDoor
open Go Go.Am
abbrev lc_times_ok (a b c d e f g h i j k m n : AV) : Env := [(0,a),(1,b),(2,c),(3,d),(4,e),(5,f),(6,g),(7,h),(8,i),(9,j),(10,k),(12,m),(16,n)]
theorem times_ok (lim : Nat) (H : Heap) (M K : Int) (hM : 0 ≤ M ∧ M ≤ 340282366920938463463374607431768211455) (hK : 0 ≤ K ∧ K ≤ 340282366920938463463374607431768211455) : ACall sig lim 62 [lv M, lv K] H fun r H' => r = .tup [lv (M * K), .v (.bool (decide (M * K ≤ 340282366920938463463374607431768211455)))] ∧ H' = H := by
 refine ACall_pure (fa := fa62) rfl rfl rfl rfl ?_
 have tr : ∀ a0 a1 : AV, env0 fa62.keep [a0, a1] = [(0,a0),(1,a1),(2,.any),(3,.any),(4,.any),(5,.any),(6,.any),(7,.any),(8,.any),(9,.any),(10,.any),(12,.any),(16,.any)] := fun a0 a1 => rfl
 refine W_to (tr _ _) ?_; clear tr
 refine at_seq rfl ?_
 refine rg rfl ?_
 refine A_box rfl (by simp (disch := first | omega | (simp only [List.length_map, List.length_append, List.length_set, List.length_cons, List.length_nil]; omega)) only [go_sem, ↓reduceIte, Nat.reduceEqDiff, reduceCtorEq] <;> rfl) ?_
 intro H1 n1
 have en1 := n1.len
 have q2 := n1.new
 refine A_box rfl (by simp (disch := first | omega | (simp only [List.length_map, List.length_append, List.length_set, List.length_cons, List.length_nil]; omega)) only [go_sem, ↓reduceIte, Nat.reduceEqDiff, reduceCtorEq] <;> rfl) ?_
 intro H2 n2
 have en2 := n2.len
 have q2 := (n2.old _ (hget_lt q2)).trans q2
 have q3 := n2.new
 refine A_alloc rfl ?_
 intro H3 n3
 have en3 := n3.len
 have q2 := (n3.old _ (hget_lt q2)).trans q2
 have q3 := (n3.old _ (hget_lt q3)).trans q3
 have q4 := n3.new
 refine Rq ?_
 have tr : ∀ a b c d e f g h i j k m n o p q r : AV, let l := lc_times_ok a b c d e f g h i j k m n; trim ((5,r)::(4,q)::(3,p)::(2,o)::l) l = [(0,a),(1,b),(2,o),(3,p),(4,q),(5,r),(6,g),(7,h),(8,i),(9,j),(10,k),(12,m),(16,n)] := by intros; rfl
 refine R_nil (tr ..) ?_; clear tr
 refine then_n ?_
 refine at_seq rfl ?_
 refine rg rfl ?_
 refine A_alloc rfl ?_
 intro H4 n4
 have en4 := n4.len
 have q2 := (n4.old _ (hget_lt q2)).trans q2
 have q3 := (n4.old _ (hget_lt q3)).trans q3
 have q4 := (n4.old _ (hget_lt q4)).trans q4
 have q6 := n4.new
 have q6 : hget H4 H3.length = some ((List.replicate 8 (0 : Int)).map u6) := q6
 have la : (lm M).length = 4 := rfl
 have lb : (lm K).length = 4 := rfl
 have tr : ∀ a b c d e f g h i j k m n o : AV, let l := lc_times_ok a b c d e f g h i j k m n; trim ((6,o)::l) l = [(0,a),(1,b),(2,c),(3,d),(4,e),(5,f),(6,o),(7,h),(8,i),(9,j),(10,k),(12,m),(16,n)] := by intros; rfl
 refine R_nil (tr ..) ?_; clear tr
 refine then_n ?_
 refine at_seq rfl ?_
 refine at_seq rfl ?_
 refine rg rfl ?_
 refine Rq ?_
 have tr : ∀ a b c d e f g h i j k m n o : AV, let l := lc_times_ok a b c d e f g h i j k m n; trim ((7,o)::l) l = [(0,a),(1,b),(2,c),(3,d),(4,e),(5,f),(6,g),(7,o),(8,i),(9,j),(10,k),(12,m),(16,n)] := by intros; rfl
 refine R_nil (tr ..) ?_; clear tr
 refine then_n ?_
 refine at_block rfl ?_
 refine loop_n rfl (fun mm kv H' => ∃ i : Nat, ∃ l : List Int, ∃ x8 x9 x10 x12 x16 : AV, (kv = [(7, AV.i i), (8, x8), (9, x9), (10, x10), (12, x12), (16, x16)]) ∧ (mm = 4 - i) ∧ (i ≤ 4) ∧ (hget H' H.length = some ((lm M).map u6)) ∧ (hget H' H1.length = some ((lm K).map u6)) ∧ (hget H' H2.length = some ([0, 0, 0, 0].map u6)) ∧ (hget H' H3.length = some (l.map u6)) ∧ (l.length = 8) ∧ (∀ j, j < 8 → 0 ≤ gt l j ∧ gt l j ≤ 4294967295) ∧ (∀ j, i + 4 ≤ j → gt l j = 0) ∧ (val l = M % pw i * K)) ⟨0, List.replicate 8 0, _, _, _, _, _, rfl, rfl, by omega, by exact q2, by exact q3, by exact q4, by exact q6, by rfl, by (intro j hj; rw [gt_zero8]; omega), by (intro j hj; exact gt_zero8 j), by (simp [pw, val, List.replicate, Int.emod_one])⟩ (by rfl) ?_
 rintro mm kv HO ⟨i, l, x8, x9, x10, x12, x16, rfl, rfl, hi, q2, q3, q4, q6, hl, hr, hz, hv⟩
 have tr : ∀ a b c d e f g h i j k m n o p q r s t : AV, upd [(0,a),(1,b),(2,c),(3,d),(4,e),(5,f),(6,g),(7,h),(8,i),(9,j),(10,k),(12,m),(16,n)] [(7,o),(8,p),(9,q),(10,r),(12,s),(16,t)] = [(0,a),(1,b),(2,c),(3,d),(4,e),(5,f),(6,g),(7,o),(8,p),(9,q),(10,r),(12,s),(16,t)] := by intros; rfl
 refine W_to (tr ..) ?_; clear tr
 refine at_seq rfl ?_
 refine at_seq rfl ?_
 refine rg rfl ?_
 refine Rq ?_
 refine Rq ?_
 have tr : ∀ a b c d e f g h i j k m n o p : AV, let l := lc_times_ok a b c d e f g h i j k m n; trim ((12,p)::(11,o)::l) l = [(0,a),(1,b),(2,c),(3,d),(4,e),(5,f),(6,g),(7,h),(8,i),(9,j),(10,k),(12,p),(16,n)] := by intros; rfl
 refine R_nil (tr ..) ?_; clear tr
 refine then_n ?_
 refine cdd (fun h1 => ?_) (fun h1 => ?_)
 ·
  try simp only [decide_eq_true_eq, decide_eq_false_iff_not, decide_eq_decide, Bool.not_eq_true', Bool.not_eq_false', beq_iff_eq, beq_eq_false_iff_ne, ne_eq, Bool.and_eq_true, Bool.and_eq_false_iff, decide_not] at h1
  refine at_skip rfl ?_
  refine then_n ?_
  refine at_seq rfl ?_
  refine at_block rfl ?_
  refine at_seq rfl ?_
  refine rg rfl ?_
  refine Rq ?_
  have tr : ∀ a b c d e f g h i j k m n o : AV, let l := lc_times_ok a b c d e f g h i j k m n; trim ((8,o)::l) l = [(0,a),(1,b),(2,c),(3,d),(4,e),(5,f),(6,g),(7,h),(8,o),(9,j),(10,k),(12,m),(16,n)] := by intros; rfl
  refine R_nil (tr ..) ?_; clear tr
  refine then_n ?_
  refine at_seq rfl ?_
  refine at_seq rfl ?_
  refine rg rfl ?_
  refine Rq ?_
  have tr : ∀ a b c d e f g h i j k m n o : AV, let l := lc_times_ok a b c d e f g h i j k m n; trim ((9,o)::l) l = [(0,a),(1,b),(2,c),(3,d),(4,e),(5,f),(6,g),(7,h),(8,i),(9,o),(10,k),(12,m),(16,n)] := by intros; rfl
  refine R_nil (tr ..) ?_; clear tr
  refine then_n ?_
  refine at_block rfl ?_
  refine loop_n rfl (fun mm kv H' => ∃ k : Nat, ∃ l2 : List Int, ∃ c : Int, ∃ x10 x16 : AV, (kv = [(8, u6 c), (9, AV.i k), (10, x10), (16, x16)]) ∧ (mm = 4 - k) ∧ (k ≤ 4) ∧ (hget H' H.length = some ((lm M).map u6)) ∧ (hget H' H1.length = some ((lm K).map u6)) ∧ (hget H' H2.length = some ([0, 0, 0, 0].map u6)) ∧ (hget H' H3.length = some (l2.map u6)) ∧ (l2.length = 8) ∧ (∀ j, j < 8 → 0 ≤ gt l2 j ∧ gt l2 j ≤ 4294967295) ∧ (∀ j, i + 4 ≤ j → gt l2 j = 0) ∧ (0 ≤ c ∧ c ≤ 4294967295) ∧ (val l2 + c * pw (i + k) = M % pw i * K + gt (lm M) i * pw i * (K % pw k))) ⟨0, l, 0, _, _, rfl, rfl, by omega, by exact q2, by exact q3, by exact q4, by exact q6, by exact hl, by exact hr, by exact hz, by omega, by exact times_init hv⟩ (by rfl) ?_
  rintro mm kv HI ⟨k, l2, c, x10, x16, rfl, rfl, hk, q2, q3, q4, q6, hl2, hr2, hz2, hc, hv2⟩
  have tr : ∀ a b c d e f g h i j k m n o p q r : AV, upd [(0,a),(1,b),(2,c),(3,d),(4,e),(5,f),(6,g),(7,h),(8,i),(9,j),(10,k),(12,m),(16,n)] [(8,o),(9,p),(10,q),(16,r)] = [(0,a),(1,b),(2,c),(3,d),(4,e),(5,f),(6,g),(7,h),(8,o),(9,p),(10,q),(12,m),(16,r)] := by intros; rfl
  refine W_to (tr ..) ?_; clear tr
  refine at_seq rfl ?_
  refine at_seq rfl ?_
  refine rg rfl ?_
  refine Rq ?_
  refine Rq ?_
  have tr : ∀ a b c d e f g h i j k m n o p : AV, let l := lc_times_ok a b c d e f g h i j k m n; trim ((16,p)::(15,o)::l) l = [(0,a),(1,b),(2,c),(3,d),(4,e),(5,f),(6,g),(7,h),(8,i),(9,j),(10,k),(12,m),(16,p)] := by intros; rfl
  refine R_nil (tr ..) ?_; clear tr
  refine then_n ?_
  refine cdd (fun h2 => ?_) (fun h2 => ?_)
  ·
   try simp only [decide_eq_true_eq, decide_eq_false_iff_not, decide_eq_decide, Bool.not_eq_true', Bool.not_eq_false', beq_iff_eq, beq_eq_false_iff_ne, ne_eq, Bool.and_eq_true, Bool.and_eq_false_iff, decide_not] at h2
   refine at_skip rfl ?_
   refine then_n ?_
   refine at_seq rfl ?_
   refine at_block rfl ?_
   refine at_seq rfl ?_
   refine rd rfl rfl ?_
   have ha := lm_rng M i (by omega)
   have hb := lm_rng K k (by omega)
   have hx := hr2 (i + k) (by omega)
   have hab0 := mul_pos' ha.1 hb.1
   have hab1 := mul_le' ha.1 ha.2 hb.1 hb.2
   have lq6 := hget_lt q6
   refine Qq ?_
   refine Qq ?_
   refine Q_q rfl (by simp (disch := first | omega | (simp only [List.length_map, List.length_append, List.length_set, List.length_cons, List.length_nil]; omega)) only [go_sem, ↓reduceIte, Nat.reduceEqDiff, reduceCtorEq, q2] <;> rfl) ?_
   refine Qq ?_
   refine Qq ?_
   refine Q_q rfl (by simp (disch := first | omega | (simp only [List.length_map, List.length_append, List.length_set, List.length_cons, List.length_nil]; omega)) only [go_sem, ↓reduceIte, Nat.reduceEqDiff, reduceCtorEq, q3] <;> rfl) ?_
   refine Qq ?_
   refine Qq ?_
   refine Qq ?_
   refine Qq ?_
   refine Q_q rfl (by simp (disch := first | omega | (simp only [List.length_map, List.length_append, List.length_set, List.length_cons, List.length_nil]; omega)) only [go_sem, ↓reduceIte, Nat.reduceEqDiff, reduceCtorEq, toNat_add] <;> rfl) ?_
   refine Q_q rfl (by simp (disch := first | omega | (simp only [List.length_map, List.length_append, List.length_set, List.length_cons, List.length_nil]; omega)) only [go_sem, ↓reduceIte, Nat.reduceEqDiff, reduceCtorEq, q6, toNat_add] <;> rfl) ?_
   refine Qq ?_
   refine Qq ?_
   refine Qq ?_
   refine Qq ?_
   refine Q_nil ?_
   have tr : ∀ a b c d e f g h i j k m n o p q r s t u v w x y z A B C D : AV, let l := lc_times_ok a b c d e f g h i j k m n; trim ((10,D)::(33,C)::(32,B)::(31,A)::(30,z)::(29,y)::(28,x)::(27,w)::(26,v)::(25,u)::(24,t)::(23,s)::(22,r)::(21,q)::(20,p)::(19,o)::l) l = [(0,a),(1,b),(2,c),(3,d),(4,e),(5,f),(6,g),(7,h),(8,i),(9,j),(10,D),(12,m),(16,n)] := by intros; rfl
   refine R_nil (tr ..) ?_; clear tr
   obtain ⟨n, hn⟩ : ∃ n, n = gt (lm M) i * gt (lm K) k + gt l2 (i + k) + c := ⟨_, rfl⟩
   rw [← hn]
   have hn1 : 0 ≤ n ∧ n ≤ 18446744073709551615 := by omega
   refine then_n ?_
   refine rg rfl ?_
   refine Rq ?_
   refine Rq ?_
   refine Rq ?_
   refine Rq ?_
   refine R_q (r := u6 (n % 4294967296)) rfl (by simp only [go_sem, ↓reduceIte, Nat.reduceEqDiff]; exact and32 _ (by omega) (by omega) 49) ?_
   refine Rq ?_
   refine R_q (r := u6 (n / 4294967296)) rfl (by simp only [go_sem, ↓reduceIte, Nat.reduceEqDiff]; exact shr32 _ 49 _) ?_
   refine R_q rfl (by simp (disch := first | omega | (simp only [List.length_map, List.length_append, List.length_set, List.length_cons, List.length_nil]; omega)) only [go_sem, ↓reduceIte, Nat.reduceEqDiff, reduceCtorEq, toNat_add] <;> rfl) ?_
   have lq2 := hget_lt q2
   have lq3 := hget_lt q3
   have lq4 := hget_lt q4
   have lq6 := hget_lt q6
   refine A_store ty49 (by simp (disch := first | omega | (simp only [List.length_map, List.length_append, List.length_set, List.length_cons, List.length_nil]; omega)) only [go_sem, ↓reduceIte, Nat.reduceEqDiff, reduceCtorEq] <;> rfl) (by simp (disch := first | omega | (simp only [List.length_map, List.length_append, List.length_set, List.length_cons, List.length_nil]; omega)) only [go_sem, ↓reduceIte, Nat.reduceEqDiff, reduceCtorEq] <;> rfl) q6 ⟨by omega, rfl, by simp only [List.length_map]; omega⟩ (k' := (l2.set (i + k) (n % 4294967296)).map u6) (by show List.set _ _ _ = _; rw [List.map_set]) ?_
   intro H6 w6
   refine Rq ?_
   have tr : ∀ a b c d e f g h i j k m n o p q r s t u v w : AV, let l := lc_times_ok a b c d e f g h i j k m n; trim ((8,w)::(41,v)::(40,u)::(39,t)::(38,s)::(37,r)::(36,q)::(35,p)::(34,o)::l) l = [(0,a),(1,b),(2,c),(3,d),(4,e),(5,f),(6,g),(7,h),(8,w),(9,j),(10,k),(12,m),(16,n)] := by intros; rfl
   refine R_nil (tr ..) ?_; clear tr
   refine blk_n ?_
   refine then_n ?_
   refine rg rfl ?_
   refine Rq ?_
   refine Rq ?_
   refine Rq ?_
   have tr : ∀ a b c d e f g h i j k m n o p q : AV, let l := lc_times_ok a b c d e f g h i j k m n; trim ((9,q)::(18,p)::(17,o)::l) l = [(0,a),(1,b),(2,c),(3,d),(4,e),(5,f),(6,g),(7,h),(8,i),(9,q),(10,k),(12,m),(16,n)] := by intros; rfl
   refine R_nil (tr ..) ?_; clear tr
   refine then_n ?_
   exact ⟨_, _, ⟨k + 1, l2.set (i + k) (n % 4294967296), n / 4294967296, _, _, rfl, rfl, by omega, by exact w6.old _ (by omega) |>.trans q2, by exact w6.old _ (by omega) |>.trans q3, by exact w6.old _ (by omega) |>.trans q4, by exact w6.new, by (rw [List.length_set]; exact hl2), by (intro j hj; rw [gt_set _ _ _ _ (by omega)]; split; omega; exact hr2 j hj), by (intro j hj; rw [gt_set _ _ _ _ (by omega), if_neg (by omega)]; exact hz2 j hj), by omega, by exact times_step hl2 (by omega) (by omega) hx hc hv2 hn⟩, by rfl, by omega⟩
  ·
   try simp only [decide_eq_true_eq, decide_eq_false_iff_not, decide_eq_decide, Bool.not_eq_true', Bool.not_eq_false', beq_iff_eq, beq_eq_false_iff_ne, ne_eq, Bool.and_eq_true, Bool.and_eq_false_iff, decide_not] at h2
   refine at_exit rfl ?_
   refine then_x ?_
   refine then_x ?_
   refine blk_x ?_
   refine then_n ?_
   refine rg rfl ?_
   refine Rq ?_
   refine Rq ?_
   refine Rq ?_
   refine R_q rfl (by simp (disch := first | omega | (simp only [List.length_map, List.length_append, List.length_set, List.length_cons, List.length_nil]; omega)) only [go_sem, ↓reduceIte, Nat.reduceEqDiff, reduceCtorEq, toNat_add4] <;> rfl) ?_
   obtain rfl : k = 4 := by omega
   have lq2 := hget_lt q2
   have lq3 := hget_lt q3
   have lq4 := hget_lt q4
   have lq6 := hget_lt q6
   refine A_store ty49 (by simp (disch := first | omega | (simp only [List.length_map, List.length_append, List.length_set, List.length_cons, List.length_nil]; omega)) only [go_sem, ↓reduceIte, Nat.reduceEqDiff, reduceCtorEq] <;> rfl) (by simp (disch := first | omega | (simp only [List.length_map, List.length_append, List.length_set, List.length_cons, List.length_nil]; omega)) only [go_sem, ↓reduceIte, Nat.reduceEqDiff, reduceCtorEq] <;> rfl) q6 ⟨by omega, rfl, by simp only [List.length_map]; omega⟩ (k' := (l2.set (i + 4) c).map u6) (by show List.set _ _ _ = _; rw [List.map_set]) ?_
   intro H7 w7
   have tr : ∀ a b c d e f g h i j k m n o p q r : AV, let l := lc_times_ok a b c d e f g h i j k m n; trim ((45,r)::(44,q)::(43,p)::(42,o)::l) l = [(0,a),(1,b),(2,c),(3,d),(4,e),(5,f),(6,g),(7,h),(8,i),(9,j),(10,k),(12,m),(16,n)] := by intros; rfl
   refine R_nil (tr ..) ?_; clear tr
   refine blk_n ?_
   refine then_n ?_
   refine rg rfl ?_
   refine Rq ?_
   refine Rq ?_
   refine Rq ?_
   have tr : ∀ a b c d e f g h i j k m n o p q : AV, let l := lc_times_ok a b c d e f g h i j k m n; trim ((7,q)::(14,p)::(13,o)::l) l = [(0,a),(1,b),(2,c),(3,d),(4,e),(5,f),(6,g),(7,q),(8,i),(9,j),(10,k),(12,m),(16,n)] := by intros; rfl
   refine R_nil (tr ..) ?_; clear tr
   refine then_n ?_
   exact ⟨_, _, ⟨i + 1, l2.set (i + 4) c, _, _, _, _, _, rfl, rfl, by omega, by exact w7.old _ (by omega) |>.trans q2, by exact w7.old _ (by omega) |>.trans q3, by exact w7.old _ (by omega) |>.trans q4, by exact w7.new, by (rw [List.length_set]; exact hl2), by (intro j hj; rw [gt_set _ _ _ _ (by omega)]; split; exact hc; exact hr2 j hj), by (intro j hj; rw [gt_set _ _ _ _ (by omega), if_neg (by omega)]; exact hz2 j (by omega)), by exact times_row hK hl2 (by omega) (hz2 _ (Nat.le_refl _)) hv2⟩, by rfl, by omega⟩
 ·
  try simp only [decide_eq_true_eq, decide_eq_false_iff_not, decide_eq_decide, Bool.not_eq_true', Bool.not_eq_false', beq_iff_eq, beq_eq_false_iff_ne, ne_eq, Bool.and_eq_true, Bool.and_eq_false_iff, decide_not] at h1
  refine at_exit rfl ?_
  refine then_x ?_
  refine then_x ?_
  refine blk_x ?_
  refine then_n ?_
  refine at_seq rfl ?_
  refine rl rfl rfl ?_
  obtain rfl : i = 4 := by omega
  have hP := times_end hM hv
  obtain ⟨x0, x1, x2, x3, x4, x5, x6, x7, rfl⟩ := eight hl
  have b0 : 0 ≤ x0 ∧ x0 ≤ 4294967295 := hr 0 (by decide)
  have b1 : 0 ≤ x1 ∧ x1 ≤ 4294967295 := hr 1 (by decide)
  have b2 : 0 ≤ x2 ∧ x2 ≤ 4294967295 := hr 2 (by decide)
  have b3 : 0 ≤ x3 ∧ x3 ≤ 4294967295 := hr 3 (by decide)
  have b4 : 0 ≤ x4 ∧ x4 ≤ 4294967295 := hr 4 (by decide)
  have b5 : 0 ≤ x5 ∧ x5 ≤ 4294967295 := hr 5 (by decide)
  have b6 : 0 ≤ x6 ∧ x6 ≤ 4294967295 := hr 6 (by decide)
  have b7 : 0 ≤ x7 ∧ x7 ≤ 4294967295 := hr 7 (by decide)
  simp only [val] at hP
  obtain ⟨P, hPP⟩ : ∃ P, P = M * K := ⟨_, rfl⟩
  rw [← hPP] at hP ⊢
  have q6 : hget HO H3.length = some [u6 x0, u6 x1, u6 x2, u6 x3, u6 x4, u6 x5, u6 x6, u6 x7] := q6
  have q4 : hget HO H2.length = some [u6 0, u6 0, u6 0, u6 0] := q4
  refine Lq ?_
  refine L_q rfl (by simp (disch := first | omega | (simp only [List.length_map, List.length_append, List.length_set, List.length_cons, List.length_nil]; omega)) only [go_sem, ↓reduceIte, Nat.reduceEqDiff, reduceCtorEq, q6] <;> rfl) rfl ?_
  refine Lq ?_
  refine L_q rfl (by simp (disch := first | omega | (simp only [List.length_map, List.length_append, List.length_set, List.length_cons, List.length_nil]; omega)) only [go_sem, ↓reduceIte, Nat.reduceEqDiff, reduceCtorEq, q6] <;> rfl) rfl ?_
  refine Lq ?_
  refine L_q rfl (by simp (disch := first | omega | (simp only [List.length_map, List.length_append, List.length_set, List.length_cons, List.length_nil]; omega)) only [go_sem, ↓reduceIte, Nat.reduceEqDiff, reduceCtorEq, q6] <;> rfl) rfl ?_
  refine Lq ?_
  refine L_q rfl (by simp (disch := first | omega | (simp only [List.length_map, List.length_append, List.length_set, List.length_cons, List.length_nil]; omega)) only [go_sem, ↓reduceIte, Nat.reduceEqDiff, reduceCtorEq, q6] <;> rfl) rfl ?_
  refine Lq ?_
  refine Lq ?_
  refine L_q rfl (by simp (disch := first | omega | (simp only [List.length_map, List.length_append, List.length_set, List.length_cons, List.length_nil]; omega)) only [go_sem, ↓reduceIte, Nat.reduceEqDiff, reduceCtorEq, q6] <;> rfl) rfl ?_
  refine Lq ?_
  refine Lq ?_
  refine Lp_split (fun h3 => ?_) (fun h3 => ?_)
  ·
   try simp only [decide_eq_true_eq, decide_eq_false_iff_not, decide_eq_decide, Bool.not_eq_true', Bool.not_eq_false', beq_iff_eq, beq_eq_false_iff_ne, ne_eq, Bool.and_eq_true, Bool.and_eq_false_iff, decide_not] at h3
   refine Ly ?_
   refine Lq ?_
   refine Ly ?_
   refine L_q rfl (by simp (disch := first | omega | (simp only [List.length_map, List.length_append, List.length_set, List.length_cons, List.length_nil]; omega)) only [go_sem, ↓reduceIte, Nat.reduceEqDiff, reduceCtorEq, q6] <;> rfl) rfl ?_
   refine Ly ?_
   refine Lq ?_
   refine Lq ?_
   refine Lq ?_
   refine Lp_split (fun h4 => ?_) (fun h4 => ?_)
   ·
    try simp only [decide_eq_true_eq, decide_eq_false_iff_not, decide_eq_decide, Bool.not_eq_true', Bool.not_eq_false', beq_iff_eq, beq_eq_false_iff_ne, ne_eq, Bool.and_eq_true, Bool.and_eq_false_iff, decide_not] at h4
    refine Ly ?_
    refine Lq ?_
    refine Ly ?_
    refine L_q rfl (by simp (disch := first | omega | (simp only [List.length_map, List.length_append, List.length_set, List.length_cons, List.length_nil]; omega)) only [go_sem, ↓reduceIte, Nat.reduceEqDiff, reduceCtorEq, q6] <;> rfl) rfl ?_
    refine Ly ?_
    refine Lq ?_
    refine Lq ?_
    refine Lq ?_
    refine Lp_split (fun h5 => ?_) (fun h5 => ?_)
    ·
     try simp only [decide_eq_true_eq, decide_eq_false_iff_not, decide_eq_decide, Bool.not_eq_true', Bool.not_eq_false', beq_iff_eq, beq_eq_false_iff_ne, ne_eq, Bool.and_eq_true, Bool.and_eq_false_iff, decide_not] at h5
     refine Ly ?_
     refine Lq ?_
     refine Ly ?_
     refine L_q rfl (by simp (disch := first | omega | (simp only [List.length_map, List.length_append, List.length_set, List.length_cons, List.length_nil]; omega)) only [go_sem, ↓reduceIte, Nat.reduceEqDiff, reduceCtorEq, q6] <;> rfl) rfl ?_
     refine Ly ?_
     refine Lq ?_
     refine Lq ?_
     refine L_nil ?_
     refine Ms ?_ (wrC_store (by first | rfl | (simp (disch := first | omega | (simp only [List.length_map, List.length_append, List.length_set, List.length_cons, List.length_nil]; omega)) only [go_sem, ↓reduceIte, Nat.reduceEqDiff, reduceCtorEq] <;> rfl)) (by simp only [rdV, isLoad, go_sem, ↓reduceIte, Nat.reduceEqDiff, List.mem_cons, List.not_mem_nil, or_false, List.append_nil, List.nil_append, List.cons_append, not_or]; omega))
     refine A_store ty95 (by simp (disch := first | omega | (simp only [List.length_map, List.length_append, List.length_set, List.length_cons, List.length_nil]; omega)) only [go_sem, ↓reduceIte, Nat.reduceEqDiff, reduceCtorEq] <;> rfl) (by simp (disch := first | omega | (simp only [List.length_map, List.length_append, List.length_set, List.length_cons, List.length_nil]; omega)) only [go_sem, ↓reduceIte, Nat.reduceEqDiff, reduceCtorEq] <;> rfl) q4 ⟨by omega, rfl, by decide⟩ (k' := [u6 x0, u6 x1, u6 x2, u6 x3]) rfl ?_
     intro H8 w8
     have q8 := w8.new
     refine R_end ?_
     refine M_nil ?_
     refine Rq ?_
     have tr : ∀ a b c d e f g h i j k m n o p q r s t u v w x y z A B C D E F G H I J K L M N O P : AV, let l := lc_times_ok a b c d e f g h i j k m n; trim ((5,P)::(72,O)::(71,N)::(70,M)::(69,L)::(68,K)::(67,J)::(66,I)::(65,H)::(64,G)::(63,F)::(62,E)::(61,D)::(60,C)::(59,B)::(58,A)::(57,z)::(56,y)::(55,x)::(54,w)::(53,v)::(52,u)::(51,t)::(50,s)::(49,r)::(48,q)::(47,p)::(46,o)::l) l = [(0,a),(1,b),(2,c),(3,d),(4,e),(5,P),(6,g),(7,h),(8,i),(9,j),(10,k),(12,m),(16,n)] := by intros; rfl
     refine R_nil (tr ..) ?_; clear tr
     refine then_n ?_
     refine at_ret rfl ?_
     refine fin_pure (rs := [.cell 4 95, .tmp 5]) rfl (by first | (simp (disch := first | omega | (simp only [List.length_map, List.length_append, List.length_set, List.length_cons, List.length_nil]; omega)) only [go_sem, ↓reduceIte, Nat.reduceEqDiff, reduceCtorEq, q8] <;> rfl) | rfl) (by first | rfl | (simp (disch := first | omega | (simp only [List.length_map, List.length_append, List.length_set, List.length_cons, List.length_nil]; omega)) only [go_sem, ↓reduceIte, Nat.reduceEqDiff, reduceCtorEq] <;> rfl)) ?_
     refine ⟨?_, rfl⟩
     exact tupL (by omega) (by omega) (by omega) (by omega) (by first | (exact (decide_eq_true (by omega)).symm) | (exact (decide_eq_false (by omega)).symm) | (rw [Bool.eq_iff_iff]; simp only [beq_iff_eq, decide_eq_true_eq]; omega) | (simp; omega))
    ·
     try simp only [decide_eq_true_eq, decide_eq_false_iff_not, decide_eq_decide, Bool.not_eq_true', Bool.not_eq_false', beq_iff_eq, beq_eq_false_iff_ne, ne_eq, Bool.and_eq_true, Bool.and_eq_false_iff, decide_not] at h5
     refine Ln ?_
     refine Ln ?_
     refine Ln ?_
     refine Lq ?_
     refine L_nil ?_
     refine Ms ?_ (wrC_store (by first | rfl | (simp (disch := first | omega | (simp only [List.length_map, List.length_append, List.length_set, List.length_cons, List.length_nil]; omega)) only [go_sem, ↓reduceIte, Nat.reduceEqDiff, reduceCtorEq] <;> rfl)) (by simp only [rdV, isLoad, go_sem, ↓reduceIte, Nat.reduceEqDiff, List.mem_cons, List.not_mem_nil, or_false, List.append_nil, List.nil_append, List.cons_append, not_or]; omega))
     refine A_store ty95 (by simp (disch := first | omega | (simp only [List.length_map, List.length_append, List.length_set, List.length_cons, List.length_nil]; omega)) only [go_sem, ↓reduceIte, Nat.reduceEqDiff, reduceCtorEq] <;> rfl) (by simp (disch := first | omega | (simp only [List.length_map, List.length_append, List.length_set, List.length_cons, List.length_nil]; omega)) only [go_sem, ↓reduceIte, Nat.reduceEqDiff, reduceCtorEq] <;> rfl) q4 ⟨by omega, rfl, by decide⟩ (k' := [u6 x0, u6 x1, u6 x2, u6 x3]) rfl ?_
     intro H8 w8
     have q8 := w8.new
     refine R_end ?_
     refine M_nil ?_
     refine Rq ?_
     have tr : ∀ a b c d e f g h i j k m n o p q r s t u v w x y z A B C D E F G H I J K L M N O P : AV, let l := lc_times_ok a b c d e f g h i j k m n; trim ((5,P)::(72,O)::(71,N)::(70,M)::(69,L)::(68,K)::(67,J)::(66,I)::(65,H)::(64,G)::(63,F)::(62,E)::(61,D)::(60,C)::(59,B)::(58,A)::(57,z)::(56,y)::(55,x)::(54,w)::(53,v)::(52,u)::(51,t)::(50,s)::(49,r)::(48,q)::(47,p)::(46,o)::l) l = [(0,a),(1,b),(2,c),(3,d),(4,e),(5,P),(6,g),(7,h),(8,i),(9,j),(10,k),(12,m),(16,n)] := by intros; rfl
     refine R_nil (tr ..) ?_; clear tr
     refine then_n ?_
     refine at_ret rfl ?_
     refine fin_pure (rs := [.cell 4 95, .tmp 5]) rfl (by first | (simp (disch := first | omega | (simp only [List.length_map, List.length_append, List.length_set, List.length_cons, List.length_nil]; omega)) only [go_sem, ↓reduceIte, Nat.reduceEqDiff, reduceCtorEq, q8] <;> rfl) | rfl) (by first | rfl | (simp (disch := first | omega | (simp only [List.length_map, List.length_append, List.length_set, List.length_cons, List.length_nil]; omega)) only [go_sem, ↓reduceIte, Nat.reduceEqDiff, reduceCtorEq] <;> rfl)) ?_
     refine ⟨?_, rfl⟩
     exact tupL (by omega) (by omega) (by omega) (by omega) (by first | (exact (decide_eq_true (by omega)).symm) | (exact (decide_eq_false (by omega)).symm) | (rw [Bool.eq_iff_iff]; simp only [beq_iff_eq, decide_eq_true_eq]; omega) | (simp; omega))
   ·
    try simp only [decide_eq_true_eq, decide_eq_false_iff_not, decide_eq_decide, Bool.not_eq_true', Bool.not_eq_false', beq_iff_eq, beq_eq_false_iff_ne, ne_eq, Bool.and_eq_true, Bool.and_eq_false_iff, decide_not] at h4
    refine Ln ?_
    refine Ln ?_
    refine Ln ?_
    refine Lq ?_
    refine Lq ?_
    refine Ln ?_
    refine Ln ?_
    refine Ln ?_
    refine Lq ?_
    refine L_nil ?_
    refine Ms ?_ (wrC_store (by first | rfl | (simp (disch := first | omega | (simp only [List.length_map, List.length_append, List.length_set, List.length_cons, List.length_nil]; omega)) only [go_sem, ↓reduceIte, Nat.reduceEqDiff, reduceCtorEq] <;> rfl)) (by simp only [rdV, isLoad, go_sem, ↓reduceIte, Nat.reduceEqDiff, List.mem_cons, List.not_mem_nil, or_false, List.append_nil, List.nil_append, List.cons_append, not_or]; omega))
    refine A_store ty95 (by simp (disch := first | omega | (simp only [List.length_map, List.length_append, List.length_set, List.length_cons, List.length_nil]; omega)) only [go_sem, ↓reduceIte, Nat.reduceEqDiff, reduceCtorEq] <;> rfl) (by simp (disch := first | omega | (simp only [List.length_map, List.length_append, List.length_set, List.length_cons, List.length_nil]; omega)) only [go_sem, ↓reduceIte, Nat.reduceEqDiff, reduceCtorEq] <;> rfl) q4 ⟨by omega, rfl, by decide⟩ (k' := [u6 x0, u6 x1, u6 x2, u6 x3]) rfl ?_
    intro H8 w8
    have q8 := w8.new
    refine R_end ?_
    refine M_nil ?_
    refine Rq ?_
    have tr : ∀ a b c d e f g h i j k m n o p q r s t u v w x y z A B C D E F G H I J K L M N O P : AV, let l := lc_times_ok a b c d e f g h i j k m n; trim ((5,P)::(72,O)::(71,N)::(70,M)::(69,L)::(68,K)::(67,J)::(66,I)::(65,H)::(64,G)::(63,F)::(62,E)::(61,D)::(60,C)::(59,B)::(58,A)::(57,z)::(56,y)::(55,x)::(54,w)::(53,v)::(52,u)::(51,t)::(50,s)::(49,r)::(48,q)::(47,p)::(46,o)::l) l = [(0,a),(1,b),(2,c),(3,d),(4,e),(5,P),(6,g),(7,h),(8,i),(9,j),(10,k),(12,m),(16,n)] := by intros; rfl
    refine R_nil (tr ..) ?_; clear tr
    refine then_n ?_
    refine at_ret rfl ?_
    refine fin_pure (rs := [.cell 4 95, .tmp 5]) rfl (by first | (simp (disch := first | omega | (simp only [List.length_map, List.length_append, List.length_set, List.length_cons, List.length_nil]; omega)) only [go_sem, ↓reduceIte, Nat.reduceEqDiff, reduceCtorEq, q8] <;> rfl) | rfl) (by first | rfl | (simp (disch := first | omega | (simp only [List.length_map, List.length_append, List.length_set, List.length_cons, List.length_nil]; omega)) only [go_sem, ↓reduceIte, Nat.reduceEqDiff, reduceCtorEq] <;> rfl)) ?_
    refine ⟨?_, rfl⟩
    exact tupL (by omega) (by omega) (by omega) (by omega) (by first | (exact (decide_eq_true (by omega)).symm) | (exact (decide_eq_false (by omega)).symm) | (rw [Bool.eq_iff_iff]; simp only [beq_iff_eq, decide_eq_true_eq]; omega) | (simp; omega))
  ·
   try simp only [decide_eq_true_eq, decide_eq_false_iff_not, decide_eq_decide, Bool.not_eq_true', Bool.not_eq_false', beq_iff_eq, beq_eq_false_iff_ne, ne_eq, Bool.and_eq_true, Bool.and_eq_false_iff, decide_not] at h3
   refine Ln ?_
   refine Ln ?_
   refine Ln ?_
   refine Lq ?_
   refine Lq ?_
   refine Ln ?_
   refine Ln ?_
   refine Ln ?_
   refine Lq ?_
   refine Lq ?_
   refine Ln ?_
   refine Ln ?_
   refine Ln ?_
   refine Lq ?_
   refine L_nil ?_
   refine Ms ?_ (wrC_store (by first | rfl | (simp (disch := first | omega | (simp only [List.length_map, List.length_append, List.length_set, List.length_cons, List.length_nil]; omega)) only [go_sem, ↓reduceIte, Nat.reduceEqDiff, reduceCtorEq] <;> rfl)) (by simp only [rdV, isLoad, go_sem, ↓reduceIte, Nat.reduceEqDiff, List.mem_cons, List.not_mem_nil, or_false, List.append_nil, List.nil_append, List.cons_append, not_or]; omega))
   refine A_store ty95 (by simp (disch := first | omega | (simp only [List.length_map, List.length_append, List.length_set, List.length_cons, List.length_nil]; omega)) only [go_sem, ↓reduceIte, Nat.reduceEqDiff, reduceCtorEq] <;> rfl) (by simp (disch := first | omega | (simp only [List.length_map, List.length_append, List.length_set, List.length_cons, List.length_nil]; omega)) only [go_sem, ↓reduceIte, Nat.reduceEqDiff, reduceCtorEq] <;> rfl) q4 ⟨by omega, rfl, by decide⟩ (k' := [u6 x0, u6 x1, u6 x2, u6 x3]) rfl ?_
   intro H8 w8
   have q8 := w8.new
   refine R_end ?_
   refine M_nil ?_
   refine Rq ?_
   have tr : ∀ a b c d e f g h i j k m n o p q r s t u v w x y z A B C D E F G H I J K L M N O P : AV, let l := lc_times_ok a b c d e f g h i j k m n; trim ((5,P)::(72,O)::(71,N)::(70,M)::(69,L)::(68,K)::(67,J)::(66,I)::(65,H)::(64,G)::(63,F)::(62,E)::(61,D)::(60,C)::(59,B)::(58,A)::(57,z)::(56,y)::(55,x)::(54,w)::(53,v)::(52,u)::(51,t)::(50,s)::(49,r)::(48,q)::(47,p)::(46,o)::l) l = [(0,a),(1,b),(2,c),(3,d),(4,e),(5,P),(6,g),(7,h),(8,i),(9,j),(10,k),(12,m),(16,n)] := by intros; rfl
   refine R_nil (tr ..) ?_; clear tr
   refine then_n ?_
   refine at_ret rfl ?_
   refine fin_pure (rs := [.cell 4 95, .tmp 5]) rfl (by first | (simp (disch := first | omega | (simp only [List.length_map, List.length_append, List.length_set, List.length_cons, List.length_nil]; omega)) only [go_sem, ↓reduceIte, Nat.reduceEqDiff, reduceCtorEq, q8] <;> rfl) | rfl) (by first | rfl | (simp (disch := first | omega | (simp only [List.length_map, List.length_append, List.length_set, List.length_cons, List.length_nil]; omega)) only [go_sem, ↓reduceIte, Nat.reduceEqDiff, reduceCtorEq] <;> rfl)) ?_
   refine ⟨?_, rfl⟩
   exact tupL (by omega) (by omega) (by omega) (by omega) (by first | (exact (decide_eq_true (by omega)).symm) | (exact (decide_eq_false (by omega)).symm) | (rw [Bool.eq_iff_iff]; simp only [beq_iff_eq, decide_eq_true_eq]; omega) | (simp; omega))

end Go.Proofs.YtfnapmdedmbdbaaDoor
end
section
set_option linter.unusedSimpArgs false
set_option linter.unusedVariables false
set_option maxHeartbeats 1000000
set_option maxRecDepth 20000
namespace Go.Proofs.YtfnapmdedmbdbaaDoor
open Go Go.Am
abbrev lc_rscale_ok (a b c d e f g h : AV) : Env := [(0,a),(1,b),(2,c),(4,d),(5,e),(6,f),(7,g),(18,h)]
theorem rscale_ok (lim : Nat) (H : Heap) (x : Int) (hx : Fw x) (n : Int) (hn : -9223372036854775808 ≤ n ∧ n ≤ 9223372036854775807) : ACall sig lim 53 [wv x, AV.i n] H fun r H' => r = .tup [wv (fS (x * n)).1, .v (.bool (fS (x * n)).2)] ∧ H' = H := by
 have fx := hx
 unfold Fw at fx
 have hm := ab_rng x
 have hm1 := ab_W hx
 have hk := ab_rng n
 have hk1 := ab_le hn
 have hor := ab_or x n
 have hP0 := mul_pos' hm hk
 refine ACall_pure (fa := fa53) rfl rfl rfl rfl ?_
 have tr : ∀ a0 a1 : AV, env0 fa53.keep [a0, a1] = [(0,a0),(1,a1),(2,.any),(4,.any),(5,.any),(6,.any),(7,.any),(18,.any)] := fun a0 a1 => rfl
 refine W_to (tr _ _) ?_; clear tr
 refine at_seq rfl ?_
 refine rg rfl ?_
 refine R_box rfl (by simp (disch := first | omega | (simp only [List.length_map, List.length_append, List.length_set, List.length_cons, List.length_nil]; omega)) only [go_sem, ↓reduceIte, Nat.reduceEqDiff, reduceCtorEq] <;> rfl) rfl rfl ?_
 refine R_alloc (by simp (disch := first | omega | (simp only [List.length_map, List.length_append, List.length_set, List.length_cons, List.length_nil]; omega)) only [go_sem, ↓reduceIte, Nat.reduceEqDiff, reduceCtorEq] <;> rfl) rfl (by simp only [List.map_cons, List.map_nil]; rfl) ?_
 refine Rq ?_
 have tr : ∀ a b c d e f g h i j k : AV, let l := lc_rscale_ok a b c d e f g h; trim ((5,k)::(4,j)::(2,i)::l) l = [(0,a),(1,b),(2,i),(4,j),(5,k),(6,f),(7,g),(18,h)] := by intros; rfl
 refine R_nil (tr ..) ?_; clear tr
 refine then_n ?_
 refine at_seq rfl ?_
 refine rg rfl ?_
 refine Rq ?_
 refine Rcall ?_
 refine ACall_eq (rsize_ok _ _ x hx) ?_
 refine Rq ?_
 refine Rcall ?_
 refine ACall_eq (rof_ok _ _ _ hn) ?_
 refine Rcall ?_
 refine ACall_eq (rsize_ok _ _ n (by unfold Fw; omega)) ?_
 refine Rcall ?_
 refine ACall_eq (times_ok _ _ (ab x) (ab n) (by omega) (by omega)) ?_
 refine Rq ?_
 refine Rq ?_
 refine Rq ?_
 refine R_alloc (by simp (disch := first | omega | (simp only [List.length_map, List.length_append, List.length_set, List.length_cons, List.length_nil]; omega)) only [go_sem, ↓reduceIte, Nat.reduceEqDiff, reduceCtorEq] <;> rfl) rfl (by simp only [List.map_cons, List.map_nil]; rfl) ?_
 refine R_store ty95 (by simp (disch := first | omega | (simp only [List.length_map, List.length_append, List.length_set, List.length_cons, List.length_nil]; omega)) only [go_sem, ↓reduceIte, Nat.reduceEqDiff, reduceCtorEq] <;> rfl) (by simp (disch := first | omega | (simp only [List.length_map, List.length_append, List.length_set, List.length_cons, List.length_nil]; omega)) only [go_sem, ↓reduceIte, Nat.reduceEqDiff, reduceCtorEq] <;> rfl) (by simp (disch := first | omega | (simp only [List.length_map, List.length_append, List.length_set, List.length_cons, List.length_nil]; omega)) only [go_sem, ↓reduceIte, Nat.reduceEqDiff, reduceCtorEq] <;> rfl) (by simp) (by rfl) (by simp (disch := first | omega | (simp only [List.length_map, List.length_append, List.length_set, List.length_cons, List.length_nil]; omega)) only [go_sem, ↓reduceIte, Nat.reduceEqDiff, reduceCtorEq] <;> rfl) ?_
 refine Rq ?_
 have tr : ∀ a b c d e f g h i j k m n o p q r s t : AV, let l := lc_rscale_ok a b c d e f g h; trim ((7,t)::(6,s)::(16,r)::(15,q)::(8,p)::(14,o)::(13,n)::(12,m)::(11,k)::(10,j)::(9,i)::l) l = [(0,a),(1,b),(2,c),(4,d),(5,e),(6,s),(7,t),(18,h)] := by intros; rfl
 refine R_nil (tr ..) ?_; clear tr
 refine then_n ?_
 refine at_seq rfl ?_
 refine at_seq rfl ?_
 refine rg rfl ?_
 refine Rq ?_
 refine Rq ?_
 have tr : ∀ a b c d e f g h i j : AV, let l := lc_rscale_ok a b c d e f g h; trim ((18,j)::(17,i)::l) l = [(0,a),(1,b),(2,c),(4,d),(5,e),(6,f),(7,g),(18,j)] := by intros; rfl
 refine R_nil (tr ..) ?_; clear tr
 refine then_n ?_
 refine cdd (fun h1 => ?_) (fun h1 => ?_)
 ·
  try simp only [decide_eq_true_eq, decide_eq_false_iff_not, decide_eq_decide, Bool.not_eq_true', Bool.not_eq_false', beq_iff_eq, beq_eq_false_iff_ne, ne_eq, Bool.and_eq_true, Bool.and_eq_false_iff, decide_not] at h1
  refine at_seq rfl ?_
  refine rg rfl ?_
  refine Rq ?_
  refine R_store ty51 (by simp (disch := first | omega | (simp only [List.length_map, List.length_append, List.length_set, List.length_cons, List.length_nil]; omega)) only [go_sem, ↓reduceIte, Nat.reduceEqDiff, reduceCtorEq] <;> rfl) (by simp (disch := first | omega | (simp only [List.length_map, List.length_append, List.length_set, List.length_cons, List.length_nil]; omega)) only [go_sem, ↓reduceIte, Nat.reduceEqDiff, reduceCtorEq] <;> rfl) (by simp (disch := first | omega | (simp only [List.length_map, List.length_append, List.length_set, List.length_cons, List.length_nil]; omega)) only [go_sem, ↓reduceIte, Nat.reduceEqDiff, reduceCtorEq] <;> rfl) (by simp) (by rfl) (by simp (disch := first | omega | (simp only [List.length_map, List.length_append, List.length_set, List.length_cons, List.length_nil]; omega)) only [go_sem, ↓reduceIte, Nat.reduceEqDiff, reduceCtorEq] <;> rfl) ?_
  refine Rq ?_
  have tr : ∀ a b c d e f g h i j : AV, let l := lc_rscale_ok a b c d e f g h; trim ((5,j)::(19,i)::l) l = [(0,a),(1,b),(2,c),(4,d),(5,j),(6,f),(7,g),(18,h)] := by intros; rfl
  refine R_nil (tr ..) ?_; clear tr
  refine then_n ?_
  refine at_ret rfl ?_
  refine then_r ?_
  first | (refine fin_pure (rs := [.cell 4 51, .tmp 5]) rfl (by simp (disch := first | omega | (simp only [List.length_map, List.length_append, List.length_set, List.length_cons, List.length_nil]; omega)) only [go_sem, ↓reduceIte, Nat.reduceEqDiff, reduceCtorEq] <;> rfl) (by simp (disch := first | omega | (simp only [List.length_map, List.length_append, List.length_set, List.length_cons, List.length_nil]; omega)) only [go_sem, ↓reduceIte, Nat.reduceEqDiff, reduceCtorEq] <;> rfl) ?_; refine ⟨?_, rfl⟩; rw [fS_n (n := x * n) (by unfold Fw; omega)]; exact tupW (by omega) (by omega) rfl; done) | (refine fin_pure (rs := [.cell 4 51, .tmp 5]) rfl (by simp (disch := first | omega | (simp only [List.length_map, List.length_append, List.length_set, List.length_cons, List.length_nil]; omega)) only [go_sem, ↓reduceIte, Nat.reduceEqDiff, reduceCtorEq] <;> rfl) (by simp (disch := first | omega | (simp only [List.length_map, List.length_append, List.length_set, List.length_cons, List.length_nil]; omega)) only [go_sem, ↓reduceIte, Nat.reduceEqDiff, reduceCtorEq] <;> rfl) ?_; refine ⟨?_, rfl⟩; rfl)
 ·
  try simp only [decide_eq_true_eq, decide_eq_false_iff_not, decide_eq_decide, Bool.not_eq_true', Bool.not_eq_false', beq_iff_eq, beq_eq_false_iff_ne, ne_eq, Bool.and_eq_true, Bool.and_eq_false_iff, decide_not] at h1
  refine at_skip rfl ?_
  refine then_n ?_
  refine at_seq rfl ?_
  refine rg rfl ?_
  refine Rq ?_
  refine Rq ?_
  refine Rq ?_
  refine Rq ?_
  refine Rq ?_
  refine Rq ?_
  refine Rq ?_
  refine Rcall ?_
  refine ACall_eq (rof2_ok _ _ (ab x * ab n) (by omega) _) ?_
  rw [show sg (!(decide (x / 18446744073709551616 < 0) == decide (n < 0))) (ab x * ab n) = x * n by rw [show decide (x / 18446744073709551616 < 0) = decide (x < 0) by rw [decide_eq_decide]; omega]; exact sg_mul x n]
  refine Rq ?_
  refine Rq ?_
  refine R_store ty51 (by simp (disch := first | omega | (simp only [List.length_map, List.length_append, List.length_set, List.length_cons, List.length_nil]; omega)) only [go_sem, ↓reduceIte, Nat.reduceEqDiff, reduceCtorEq] <;> rfl) (by simp (disch := first | omega | (simp only [List.length_map, List.length_append, List.length_set, List.length_cons, List.length_nil]; omega)) only [go_sem, ↓reduceIte, Nat.reduceEqDiff, reduceCtorEq] <;> rfl) (by simp (disch := first | omega | (simp only [List.length_map, List.length_append, List.length_set, List.length_cons, List.length_nil]; omega)) only [go_sem, ↓reduceIte, Nat.reduceEqDiff, reduceCtorEq] <;> rfl) (by simp) (by rfl) (by simp (disch := first | omega | (simp only [List.length_map, List.length_append, List.length_set, List.length_cons, List.length_nil]; omega)) only [go_sem, ↓reduceIte, Nat.reduceEqDiff, reduceCtorEq] <;> rfl) ?_
  refine Rq ?_
  have tr : ∀ a b c d e f g h i j k m n o p q r s t : AV, let l := lc_rscale_ok a b c d e f g h; trim ((5,t)::(29,s)::(28,r)::(27,q)::(26,p)::(25,o)::(24,n)::(23,m)::(22,k)::(21,j)::(20,i)::l) l = [(0,a),(1,b),(2,c),(4,d),(5,t),(6,f),(7,g),(18,h)] := by intros; rfl
  refine R_nil (tr ..) ?_; clear tr
  refine then_n ?_
  refine at_ret rfl ?_
  first | (refine fin_pure (rs := [.cell 4 51, .tmp 5]) rfl (by simp (disch := first | omega | (simp only [List.length_map, List.length_append, List.length_set, List.length_cons, List.length_nil]; omega)) only [go_sem, ↓reduceIte, Nat.reduceEqDiff, reduceCtorEq] <;> rfl) (by simp (disch := first | omega | (simp only [List.length_map, List.length_append, List.length_set, List.length_cons, List.length_nil]; omega)) only [go_sem, ↓reduceIte, Nat.reduceEqDiff, reduceCtorEq] <;> rfl) ?_; refine ⟨?_, rfl⟩; rw [fS_n (n := x * n) (by unfold Fw; omega)]; exact tupW (by omega) (by omega) rfl; done) | (refine fin_pure (rs := [.cell 4 51, .tmp 5]) rfl (by simp (disch := first | omega | (simp only [List.length_map, List.length_append, List.length_set, List.length_cons, List.length_nil]; omega)) only [go_sem, ↓reduceIte, Nat.reduceEqDiff, reduceCtorEq] <;> rfl) (by simp (disch := first | omega | (simp only [List.length_map, List.length_append, List.length_set, List.length_cons, List.length_nil]; omega)) only [go_sem, ↓reduceIte, Nat.reduceEqDiff, reduceCtorEq] <;> rfl) ?_; refine ⟨?_, rfl⟩; rfl)

abbrev lc_rmul_ok (a b c d : AV) : Env := [(0,a),(1,b),(4,c),(5,d)]
theorem rmul_ok (lim : Nat) (H : Heap) (a : Int) (ha : -9223372036854775808 ≤ a ∧ a ≤ 9223372036854775807) (b : Int) (hb : -9223372036854775808 ≤ b ∧ b ≤ 9223372036854775807) : ACall sig lim 32 [AV.i a, AV.i b] H fun r H' => r = wv (a * b) ∧ H' = H := by
 refine ACall_pure (fa := fa32) rfl rfl rfl rfl ?_
 have tr : ∀ a0 a1 : AV, env0 fa32.keep [a0, a1] = [(0,a0),(1,a1),(4,.any),(5,.any)] := fun a0 a1 => rfl
 refine W_to (tr _ _) ?_; clear tr
 refine at_seq rfl ?_
 refine rg rfl ?_
 refine R_alloc (by simp (disch := first | omega | (simp only [List.length_map, List.length_append, List.length_set, List.length_cons, List.length_nil]; omega)) only [go_sem, ↓reduceIte, Nat.reduceEqDiff, reduceCtorEq] <;> rfl) rfl (by simp only [List.map_cons, List.map_nil]; rfl) ?_
 have tr : ∀ a b c d e : AV, let l := lc_rmul_ok a b c d; trim ((4,e)::l) l = [(0,a),(1,b),(4,e),(5,d)] := by intros; rfl
 refine R_nil (tr ..) ?_; clear tr
 refine then_n ?_
 refine at_seq rfl ?_
 refine rg rfl ?_
 refine Rq ?_
 refine Rcall ?_
 refine ACall_eq (rof_ok _ _ _ ha) ?_
 refine Rq ?_
 refine Rcall ?_
 refine ACall_eq (rscale_ok _ _ a (by unfold Fw; omega) b hb) ?_
 rw [fS_y (ab_fit ha hb)]
 refine Rq ?_
 refine Rq ?_
 refine Rq ?_
 refine R_alloc (by simp (disch := first | omega | (simp only [List.length_map, List.length_append, List.length_set, List.length_cons, List.length_nil]; omega)) only [go_sem, ↓reduceIte, Nat.reduceEqDiff, reduceCtorEq] <;> rfl) rfl (by simp only [List.map_cons, List.map_nil]; rfl) ?_
 refine R_store ty51 (by simp (disch := first | omega | (simp only [List.length_map, List.length_append, List.length_set, List.length_cons, List.length_nil]; omega)) only [go_sem, ↓reduceIte, Nat.reduceEqDiff, reduceCtorEq] <;> rfl) (by simp (disch := first | omega | (simp only [List.length_map, List.length_append, List.length_set, List.length_cons, List.length_nil]; omega)) only [go_sem, ↓reduceIte, Nat.reduceEqDiff, reduceCtorEq] <;> rfl) (by simp (disch := first | omega | (simp only [List.length_map, List.length_append, List.length_set, List.length_cons, List.length_nil]; omega)) only [go_sem, ↓reduceIte, Nat.reduceEqDiff, reduceCtorEq] <;> rfl) (by simp) (by rfl) (by simp (disch := first | omega | (simp only [List.length_map, List.length_append, List.length_set, List.length_cons, List.length_nil]; omega)) only [go_sem, ↓reduceIte, Nat.reduceEqDiff, reduceCtorEq] <;> rfl) ?_
 refine Rq ?_
 have tr : ∀ a b c d e f g h i j k m n : AV, let l := lc_rmul_ok a b c d; trim ((6,n)::(5,m)::(13,k)::(12,j)::(7,i)::(11,h)::(10,g)::(9,f)::(8,e)::l) l = [(0,a),(1,b),(4,c),(5,m)] := by intros; rfl
 refine R_nil (tr ..) ?_; clear tr
 refine then_n ?_
 refine at_seq rfl ?_
 refine rg rfl ?_
 refine Rq ?_
 refine R_store ty51 (by simp (disch := first | omega | (simp only [List.length_map, List.length_append, List.length_set, List.length_cons, List.length_nil]; omega)) only [go_sem, ↓reduceIte, Nat.reduceEqDiff, reduceCtorEq] <;> rfl) (by simp (disch := first | omega | (simp only [List.length_map, List.length_append, List.length_set, List.length_cons, List.length_nil]; omega)) only [go_sem, ↓reduceIte, Nat.reduceEqDiff, reduceCtorEq] <;> rfl) (by simp (disch := first | omega | (simp only [List.length_map, List.length_append, List.length_set, List.length_cons, List.length_nil]; omega)) only [go_sem, ↓reduceIte, Nat.reduceEqDiff, reduceCtorEq] <;> rfl) (by simp) (by rfl) (by simp (disch := first | omega | (simp only [List.length_map, List.length_append, List.length_set, List.length_cons, List.length_nil]; omega)) only [go_sem, ↓reduceIte, Nat.reduceEqDiff, reduceCtorEq] <;> rfl) ?_
 have tr : ∀ a b c d e : AV, let l := lc_rmul_ok a b c d; trim ((14,e)::l) l = [(0,a),(1,b),(4,c),(5,d)] := by intros; rfl
 refine R_nil (tr ..) ?_; clear tr
 refine then_n ?_
 refine at_ret rfl ?_
 refine fin_pure (rs := [.cell 4 51]) rfl (by simp (disch := first | omega | (simp only [List.length_map, List.length_append, List.length_set, List.length_cons, List.length_nil]; omega)) only [go_sem, ↓reduceIte, Nat.reduceEqDiff, reduceCtorEq] <;> rfl) (by simp (disch := first | omega | (simp only [List.length_map, List.length_append, List.length_set, List.length_cons, List.length_nil]; omega)) only [go_sem, ↓reduceIte, Nat.reduceEqDiff, reduceCtorEq] <;> rfl) ?_
 refine ⟨?_, rfl⟩
 rfl

end Go.Proofs.YtfnapmdedmbdbaaDoor
end
section
set_option linter.unusedSimpArgs false
set_option linter.unusedVariables false
set_option maxHeartbeats 1000000
set_option maxRecDepth 20000
namespace Go.Proofs.YtfnapmdedmbdbaaDoor
open Go Go.Am
abbrev lc_crate_ok (a b c d e f g h i j k m : AV) : Env := [(0,a),(1,b),(2,c),(3,d),(4,e),(5,f),(6,g),(7,h),(8,i),(9,j),(10,k),(28,m)]
theorem crate_ok (lim : Nat) (H : Heap) (y z : St) : ACall sig lim 11 [stA y, stA z] H fun r H' => r = AV.i (crS y z) ∧ H' = H := by
 have ry := rt_rng y
 have rz := rt_rng z
 refine ACall_pure (fa := fa11) rfl rfl rfl rfl ?_
 have tr : ∀ a0 a1 : AV, env0 fa11.keep [a0, a1] = [(0,a0),(1,a1),(2,.any),(3,.any),(4,.any),(5,.any),(6,.any),(7,.any),(8,.any),(9,.any),(10,.any),(28,.any)] := fun a0 a1 => rfl
 refine W_to (tr _ _) ?_; clear tr
 refine at_seq rfl ?_
 refine rg rfl ?_
 refine R_box rfl (by simp (disch := first | omega | (simp only [List.length_map, List.length_append, List.length_set, List.length_cons, List.length_nil]; omega)) only [go_sem, ↓reduceIte, Nat.reduceEqDiff, reduceCtorEq] <;> rfl) rfl rfl ?_
 refine R_box rfl (by simp (disch := first | omega | (simp only [List.length_map, List.length_append, List.length_set, List.length_cons, List.length_nil]; omega)) only [go_sem, ↓reduceIte, Nat.reduceEqDiff, reduceCtorEq] <;> rfl) rfl rfl ?_
 refine Rq ?_
 have tr : ∀ a b c d e f g h i j k m n o p : AV, let l := lc_crate_ok a b c d e f g h i j k m; trim ((4,p)::(3,o)::(2,n)::l) l = [(0,a),(1,b),(2,n),(3,o),(4,p),(5,f),(6,g),(7,h),(8,i),(9,j),(10,k),(28,m)] := by intros; rfl
 refine R_nil (tr ..) ?_; clear tr
 refine then_n ?_
 refine at_seq rfl ?_
 refine rg rfl ?_
 refine Rq ?_
 refine Rcall ?_
 refine ACall_eq (rate_ok _ _ _) ?_
 refine Rq ?_
 refine Rq ?_
 refine Rq ?_
 refine Rq ?_
 refine Rq ?_
 refine Rq ?_
 refine Rq ?_
 have tr : ∀ a b c d e f g h i j k m n o p q r s t u v : AV, let l := lc_crate_ok a b c d e f g h i j k m; trim ((7,v)::(6,u)::(5,t)::(16,s)::(15,r)::(14,q)::(11,p)::(13,o)::(12,n)::l) l = [(0,a),(1,b),(2,c),(3,d),(4,e),(5,t),(6,u),(7,v),(8,i),(9,j),(10,k),(28,m)] := by intros; rfl
 refine R_nil (tr ..) ?_; clear tr
 refine then_n ?_
 refine at_seq rfl ?_
 refine rg rfl ?_
 refine Rq ?_
 refine Rcall ?_
 refine ACall_eq (rate_ok _ _ _) ?_
 refine Rq ?_
 refine Rq ?_
 refine Rq ?_
 refine Rq ?_
 refine Rq ?_
 refine Rq ?_
 refine Rq ?_
 have tr : ∀ a b c d e f g h i j k m n o p q r s t u v : AV, let l := lc_crate_ok a b c d e f g h i j k m; trim ((10,v)::(9,u)::(8,t)::(22,s)::(21,r)::(20,q)::(17,p)::(19,o)::(18,n)::l) l = [(0,a),(1,b),(2,c),(3,d),(4,e),(5,f),(6,g),(7,h),(8,t),(9,u),(10,v),(28,m)] := by intros; rfl
 refine R_nil (tr ..) ?_; clear tr
 refine then_n ?_
 refine at_seq rfl ?_
 refine at_seq rfl ?_
 refine rg rfl ?_
 refine Rq ?_
 refine Rq ?_
 refine Rq ?_
 refine Rp_split (fun h1 => ?_) (fun h1 => ?_)
 ·
  try simp only [decide_eq_true_eq, decide_eq_false_iff_not, decide_eq_decide, Bool.not_eq_true', Bool.not_eq_false', beq_iff_eq, beq_eq_false_iff_ne, ne_eq, Bool.and_eq_true, Bool.and_eq_false_iff, decide_not] at h1
  refine Rn ?_
  refine Rn ?_
  refine Rq ?_
  have tr : ∀ a b c d e f g h i j k m n o p q r s : AV, let l := lc_crate_ok a b c d e f g h i j k m; trim ((28,s)::(27,r)::(26,q)::(25,p)::(24,o)::(23,n)::l) l = [(0,a),(1,b),(2,c),(3,d),(4,e),(5,f),(6,g),(7,h),(8,i),(9,j),(10,k),(28,s)] := by intros; rfl
  refine R_nil (tr ..) ?_; clear tr
  refine then_n ?_
  refine cdt ?_
  refine at_seq rfl ?_
  refine rg rfl ?_
  refine Rq ?_
  have tr : ∀ a b c d e f g h i j k m n : AV, let l := lc_crate_ok a b c d e f g h i j k m; trim ((4,n)::l) l = [(0,a),(1,b),(2,c),(3,d),(4,n),(5,f),(6,g),(7,h),(8,i),(9,j),(10,k),(28,m)] := by intros; rfl
  refine R_nil (tr ..) ?_; clear tr
  refine then_n ?_
  refine at_ret rfl ?_
  refine then_r ?_
  first | (refine fpure ?_; refine ⟨?_, rfl⟩; rw [crS, if_neg (fun h => absurd h.1 (by assumption))] <;> rfl; done) | (refine fpure ?_; refine ⟨?_, rfl⟩; rw [crS, if_neg (fun h => absurd h.2 (by assumption))] <;> rfl; done) | (refine fpure ?_; refine ⟨?_, rfl⟩; rw [crS, if_pos ⟨by assumption, by assumption⟩, rtN_y (by assumption), rtD_y (by assumption), rtN_y (by assumption), rtD_y (by assumption)] <;> rfl; done)
 ·
  try simp only [decide_eq_true_eq, decide_eq_false_iff_not, decide_eq_decide, Bool.not_eq_true', Bool.not_eq_false', beq_iff_eq, beq_eq_false_iff_ne, ne_eq, Bool.and_eq_true, Bool.and_eq_false_iff, decide_not] at h1
  refine Ry ?_
  refine Rq ?_
  refine Ry ?_
  refine Rq ?_
  refine Rq ?_
  have tr : ∀ a b c d e f g h i j k m n o p q r s : AV, let l := lc_crate_ok a b c d e f g h i j k m; trim ((28,s)::(27,r)::(26,q)::(25,p)::(24,o)::(23,n)::l) l = [(0,a),(1,b),(2,c),(3,d),(4,e),(5,f),(6,g),(7,h),(8,i),(9,j),(10,k),(28,s)] := by intros; rfl
  refine R_nil (tr ..) ?_; clear tr
  refine then_n ?_
  refine cdd (fun h2 => ?_) (fun h2 => ?_)
  ·
   try simp only [decide_eq_true_eq, decide_eq_false_iff_not, decide_eq_decide, Bool.not_eq_true', Bool.not_eq_false', beq_iff_eq, beq_eq_false_iff_ne, ne_eq, Bool.and_eq_true, Bool.and_eq_false_iff, decide_not] at h2
   refine at_seq rfl ?_
   refine rg rfl ?_
   refine Rq ?_
   have tr : ∀ a b c d e f g h i j k m n : AV, let l := lc_crate_ok a b c d e f g h i j k m; trim ((4,n)::l) l = [(0,a),(1,b),(2,c),(3,d),(4,n),(5,f),(6,g),(7,h),(8,i),(9,j),(10,k),(28,m)] := by intros; rfl
   refine R_nil (tr ..) ?_; clear tr
   refine then_n ?_
   refine at_ret rfl ?_
   refine then_r ?_
   first | (refine fpure ?_; refine ⟨?_, rfl⟩; rw [crS, if_neg (fun h => absurd h.1 (by assumption))] <;> rfl; done) | (refine fpure ?_; refine ⟨?_, rfl⟩; rw [crS, if_neg (fun h => absurd h.2 (by assumption))] <;> rfl; done) | (refine fpure ?_; refine ⟨?_, rfl⟩; rw [crS, if_pos ⟨by assumption, by assumption⟩, rtN_y (by assumption), rtD_y (by assumption), rtN_y (by assumption), rtD_y (by assumption)] <;> rfl; done)
  ·
   try simp only [decide_eq_true_eq, decide_eq_false_iff_not, decide_eq_decide, Bool.not_eq_true', Bool.not_eq_false', beq_iff_eq, beq_eq_false_iff_ne, ne_eq, Bool.and_eq_true, Bool.and_eq_false_iff, decide_not] at h2
   refine at_skip rfl ?_
   refine then_n ?_
   refine at_seq rfl ?_
   refine rg rfl ?_
   refine Rq ?_
   refine Rq ?_
   refine Rcall ?_
   refine ACall_eq (mul_ok _ _ _ (by omega) _ (by omega)) ?_
   refine Rq ?_
   refine Rq ?_
   refine Rcall ?_
   refine ACall_eq (mul_ok _ _ _ (by omega) _ (by omega)) ?_
   refine Rcall ?_
   refine ACall_eq (cmp_ok _ _ (rtN y * rtD z) (ab_fit (by omega) (by omega)) (rtN z * rtD y) (ab_fit (by omega) (by omega))) ?_
   refine Rq ?_
   have tr : ∀ a b c d e f g h i j k m n o p q r s t u : AV, let l := lc_crate_ok a b c d e f g h i j k m; trim ((4,u)::(35,t)::(34,s)::(33,r)::(32,q)::(31,p)::(30,o)::(29,n)::l) l = [(0,a),(1,b),(2,c),(3,d),(4,u),(5,f),(6,g),(7,h),(8,i),(9,j),(10,k),(28,m)] := by intros; rfl
   refine R_nil (tr ..) ?_; clear tr
   refine then_n ?_
   refine at_ret rfl ?_
   first | (refine fpure ?_; refine ⟨?_, rfl⟩; rw [crS, if_neg (fun h => absurd h.1 (by assumption))] <;> rfl; done) | (refine fpure ?_; refine ⟨?_, rfl⟩; rw [crS, if_neg (fun h => absurd h.2 (by assumption))] <;> rfl; done) | (refine fpure ?_; refine ⟨?_, rfl⟩; rw [crS, if_pos ⟨by assumption, by assumption⟩, rtN_y (by assumption), rtD_y (by assumption), rtN_y (by assumption), rtD_y (by assumption)] <;> rfl; done)

abbrev lc_rcrate_ok (a b c d e f g h i j : AV) : Env := [(0,a),(1,b),(2,c),(3,d),(4,e),(5,f),(6,g),(7,h),(8,i),(16,j)]
theorem rcrate_ok (lim : Nat) (H : Heap) (y z : St) : ACall sig lim 12 [stA y, stA z] H fun r H' => r = AV.i (crS y z) ∧ H' = H := by
 refine ACall_pure (fa := fa12) rfl rfl rfl rfl ?_
 have tr : ∀ a0 a1 : AV, env0 fa12.keep [a0, a1] = [(0,a0),(1,a1),(2,.any),(3,.any),(4,.any),(5,.any),(6,.any),(7,.any),(8,.any),(16,.any)] := fun a0 a1 => rfl
 refine W_to (tr _ _) ?_; clear tr
 refine at_seq rfl ?_
 refine rg rfl ?_
 refine R_box rfl (by simp (disch := first | omega | (simp only [List.length_map, List.length_append, List.length_set, List.length_cons, List.length_nil]; omega)) only [go_sem, ↓reduceIte, Nat.reduceEqDiff, reduceCtorEq] <;> rfl) rfl rfl ?_
 refine R_box rfl (by simp (disch := first | omega | (simp only [List.length_map, List.length_append, List.length_set, List.length_cons, List.length_nil]; omega)) only [go_sem, ↓reduceIte, Nat.reduceEqDiff, reduceCtorEq] <;> rfl) rfl rfl ?_
 refine Rq ?_
 have tr : ∀ a b c d e f g h i j k m n : AV, let l := lc_rcrate_ok a b c d e f g h i j; trim ((4,n)::(3,m)::(2,k)::l) l = [(0,a),(1,b),(2,k),(3,m),(4,n),(5,f),(6,g),(7,h),(8,i),(16,j)] := by intros; rfl
 refine R_nil (tr ..) ?_; clear tr
 refine then_n ?_
 refine at_seq rfl ?_
 refine at_seq rfl ?_
 refine rg rfl ?_
 refine Rq ?_
 refine Rcall ?_
 refine ACall_eq (valid_ok _ _ _) ?_
 refine Rq ?_
 refine Rq ?_
 refine Rp_split (fun h1 => ?_) (fun h1 => ?_)
 ·
  try simp only [decide_eq_true_eq, decide_eq_false_iff_not, decide_eq_decide, Bool.not_eq_true', Bool.not_eq_false', beq_iff_eq, beq_eq_false_iff_ne, ne_eq, Bool.and_eq_true, Bool.and_eq_false_iff, decide_not] at h1
  refine Rn ?_
  refine Rn ?_
  refine Rn ?_
  refine Rq ?_
  have tr : ∀ a b c d e f g h i j k m n o p q r s : AV, let l := lc_rcrate_ok a b c d e f g h i j; trim ((16,s)::(15,r)::(14,q)::(13,p)::(12,o)::(11,n)::(10,m)::(9,k)::l) l = [(0,a),(1,b),(2,c),(3,d),(4,e),(5,f),(6,g),(7,h),(8,i),(16,s)] := by intros; rfl
  refine R_nil (tr ..) ?_; clear tr
  refine then_n ?_
  refine cdt ?_
  refine at_seq rfl ?_
  refine rg rfl ?_
  refine Rq ?_
  have tr : ∀ a b c d e f g h i j k : AV, let l := lc_rcrate_ok a b c d e f g h i j; trim ((4,k)::l) l = [(0,a),(1,b),(2,c),(3,d),(4,k),(5,f),(6,g),(7,h),(8,i),(16,j)] := by intros; rfl
  refine R_nil (tr ..) ?_; clear tr
  refine then_n ?_
  refine at_ret rfl ?_
  refine then_r ?_
  first | (refine fpure ?_; refine ⟨?_, rfl⟩; rw [crS, if_neg (fun h => absurd h.1 (by assumption))] <;> rfl; done) | (refine fpure ?_; refine ⟨?_, rfl⟩; rw [crS, if_neg (fun h => absurd h.2 (by assumption))] <;> rfl; done) | (refine fpure ?_; refine ⟨?_, rfl⟩; rw [crS, if_pos ⟨by assumption, by assumption⟩] <;> rfl; done)
 ·
  try simp only [decide_eq_true_eq, decide_eq_false_iff_not, decide_eq_decide, Bool.not_eq_true', Bool.not_eq_false', beq_iff_eq, beq_eq_false_iff_ne, ne_eq, Bool.and_eq_true, Bool.and_eq_false_iff, decide_not] at h1
  refine Ry ?_
  refine Rq ?_
  refine Ry ?_
  refine Rcall ?_
  refine ACall_eq (valid_ok _ _ _) ?_
  refine Ry ?_
  refine Rq ?_
  refine Rq ?_
  have tr : ∀ a b c d e f g h i j k m n o p q r s : AV, let l := lc_rcrate_ok a b c d e f g h i j; trim ((16,s)::(15,r)::(14,q)::(13,p)::(12,o)::(11,n)::(10,m)::(9,k)::l) l = [(0,a),(1,b),(2,c),(3,d),(4,e),(5,f),(6,g),(7,h),(8,i),(16,s)] := by intros; rfl
  refine R_nil (tr ..) ?_; clear tr
  refine then_n ?_
  refine cdd (fun h2 => ?_) (fun h2 => ?_)
  ·
   try simp only [decide_eq_true_eq, decide_eq_false_iff_not, decide_eq_decide, Bool.not_eq_true', Bool.not_eq_false', beq_iff_eq, beq_eq_false_iff_ne, ne_eq, Bool.and_eq_true, Bool.and_eq_false_iff, decide_not] at h2
   refine at_seq rfl ?_
   refine rg rfl ?_
   refine Rq ?_
   have tr : ∀ a b c d e f g h i j k : AV, let l := lc_rcrate_ok a b c d e f g h i j; trim ((4,k)::l) l = [(0,a),(1,b),(2,c),(3,d),(4,k),(5,f),(6,g),(7,h),(8,i),(16,j)] := by intros; rfl
   refine R_nil (tr ..) ?_; clear tr
   refine then_n ?_
   refine at_ret rfl ?_
   refine then_r ?_
   first | (refine fpure ?_; refine ⟨?_, rfl⟩; rw [crS, if_neg (fun h => absurd h.1 (by assumption))] <;> rfl; done) | (refine fpure ?_; refine ⟨?_, rfl⟩; rw [crS, if_neg (fun h => absurd h.2 (by assumption))] <;> rfl; done) | (refine fpure ?_; refine ⟨?_, rfl⟩; rw [crS, if_pos ⟨by assumption, by assumption⟩] <;> rfl; done)
  ·
   try simp only [decide_eq_true_eq, decide_eq_false_iff_not, decide_eq_decide, Bool.not_eq_true', Bool.not_eq_false', beq_iff_eq, beq_eq_false_iff_ne, ne_eq, Bool.and_eq_true, Bool.and_eq_false_iff, decide_not] at h2
   refine at_skip rfl ?_
   refine then_n ?_
   refine at_seq rfl ?_
   refine rg rfl ?_
   have ry := rxn_rng (s := y) (by assumption)
   have rz := rxn_rng (s := z) (by assumption)
   have ry1 := rxd_rng (s := y) (by assumption)
   have rz1 := rxd_rng (s := z) (by assumption)
   refine Rq ?_
   refine Rcall ?_
   refine ACall_eq (rrate_ok _ _ _ (by assumption)) ?_
   refine Rq ?_
   refine Rq ?_
   refine Rq ?_
   refine Rq ?_
   refine Rq ?_
   have tr : ∀ a b c d e f g h i j k m n o p q r : AV, let l := lc_rcrate_ok a b c d e f g h i j; trim ((6,r)::(5,q)::(21,p)::(20,o)::(17,n)::(19,m)::(18,k)::l) l = [(0,a),(1,b),(2,c),(3,d),(4,e),(5,q),(6,r),(7,h),(8,i),(16,j)] := by intros; rfl
   refine R_nil (tr ..) ?_; clear tr
   refine then_n ?_
   refine at_seq rfl ?_
   refine rg rfl ?_
   refine Rq ?_
   refine Rcall ?_
   refine ACall_eq (rrate_ok _ _ _ (by assumption)) ?_
   refine Rq ?_
   refine Rq ?_
   refine Rq ?_
   refine Rq ?_
   refine Rq ?_
   have tr : ∀ a b c d e f g h i j k m n o p q r : AV, let l := lc_rcrate_ok a b c d e f g h i j; trim ((8,r)::(7,q)::(26,p)::(25,o)::(22,n)::(24,m)::(23,k)::l) l = [(0,a),(1,b),(2,c),(3,d),(4,e),(5,f),(6,g),(7,q),(8,r),(16,j)] := by intros; rfl
   refine R_nil (tr ..) ?_; clear tr
   refine then_n ?_
   refine at_seq rfl ?_
   refine rg rfl ?_
   refine Rq ?_
   refine Rq ?_
   refine Rcall ?_
   refine ACall_eq (rmul_ok _ _ _ (by omega) _ (by omega)) ?_
   refine Rq ?_
   refine Rq ?_
   refine Rcall ?_
   refine ACall_eq (rmul_ok _ _ _ (by omega) _ (by omega)) ?_
   refine Rcall ?_
   refine ACall_eq (rcmp_ok _ _ (rxn y * rxd z) (ab_fit (by omega) (by omega)) (rxn z * rxd y) (ab_fit (by omega) (by omega))) ?_
   refine Rq ?_
   have tr : ∀ a b c d e f g h i j k m n o p q r s : AV, let l := lc_rcrate_ok a b c d e f g h i j; trim ((4,s)::(33,r)::(32,q)::(31,p)::(30,o)::(29,n)::(28,m)::(27,k)::l) l = [(0,a),(1,b),(2,c),(3,d),(4,s),(5,f),(6,g),(7,h),(8,i),(16,j)] := by intros; rfl
   refine R_nil (tr ..) ?_; clear tr
   refine then_n ?_
   refine at_ret rfl ?_
   first | (refine fpure ?_; refine ⟨?_, rfl⟩; rw [crS, if_neg (fun h => absurd h.1 (by assumption))] <;> rfl; done) | (refine fpure ?_; refine ⟨?_, rfl⟩; rw [crS, if_neg (fun h => absurd h.2 (by assumption))] <;> rfl; done) | (refine fpure ?_; refine ⟨?_, rfl⟩; rw [crS, if_pos ⟨by assumption, by assumption⟩] <;> rfl; done)

abbrev lc_comp_ok (a b c d e f g h i j : AV) : Env := [(0,a),(1,b),(2,c),(3,d),(4,e),(5,f),(6,g),(18,h),(34,i),(41,j)]
theorem comp_ok (lim : Nat) (H : Heap) (y z : St) : ACall sig lim 13 [stA y, stA z] H fun r H' => r = AV.i (cmS y z) ∧ H' = H := by
 have hc := crS_rng y z
 refine ACall_pure (fa := fa13) rfl rfl rfl rfl ?_
 have tr : ∀ a0 a1 : AV, env0 fa13.keep [a0, a1] = [(0,a0),(1,a1),(2,.any),(3,.any),(4,.any),(5,.any),(6,.any),(18,.any),(34,.any),(41,.any)] := fun a0 a1 => rfl
 refine W_to (tr _ _) ?_; clear tr
 refine at_seq rfl ?_
 refine rg rfl ?_
 refine R_box rfl (by simp (disch := first | omega | (simp only [List.length_map, List.length_append, List.length_set, List.length_cons, List.length_nil]; omega)) only [go_sem, ↓reduceIte, Nat.reduceEqDiff, reduceCtorEq] <;> rfl) rfl rfl ?_
 refine R_box rfl (by simp (disch := first | omega | (simp only [List.length_map, List.length_append, List.length_set, List.length_cons, List.length_nil]; omega)) only [go_sem, ↓reduceIte, Nat.reduceEqDiff, reduceCtorEq] <;> rfl) rfl rfl ?_
 refine Rq ?_
 have tr : ∀ a b c d e f g h i j k m n : AV, let l := lc_comp_ok a b c d e f g h i j; trim ((4,n)::(3,m)::(2,k)::l) l = [(0,a),(1,b),(2,k),(3,m),(4,n),(5,f),(6,g),(18,h),(34,i),(41,j)] := by intros; rfl
 refine R_nil (tr ..) ?_; clear tr
 refine then_n ?_
 refine at_seq rfl ?_
 refine at_block rfl ?_
 refine at_seq rfl ?_
 refine rg rfl ?_
 refine Rq ?_
 refine Rq ?_
 refine Rq ?_
 refine Rq ?_
 refine Rq ?_
 refine Rq ?_
 have tr : ∀ a b c d e f g h i j k m n o p q : AV, let l := lc_comp_ok a b c d e f g h i j; trim ((6,q)::(11,p)::(10,o)::(9,n)::(8,m)::(7,k)::l) l = [(0,a),(1,b),(2,c),(3,d),(4,e),(5,f),(6,q),(18,h),(34,i),(41,j)] := by intros; rfl
 refine R_nil (tr ..) ?_; clear tr
 refine then_n ?_
 refine cdd (fun h1 => ?_) (fun h1 => ?_)
 ·
  try simp only [decide_eq_true_eq, decide_eq_false_iff_not, decide_eq_decide, Bool.not_eq_true', Bool.not_eq_false', beq_iff_eq, beq_eq_false_iff_ne, ne_eq, Bool.and_eq_true, Bool.and_eq_false_iff, decide_not] at h1
  refine at_seq rfl ?_
  refine rg rfl ?_
  refine Rq ?_
  refine Rq ?_
  refine Rq ?_
  refine Rq ?_
  refine Rq ?_
  refine Rcall ?_
  refine ACall_eq (before_ok _ _ _) ?_
  refine Rq ?_
  have tr : ∀ a b c d e f g h i j k m n o p q r : AV, let l := lc_comp_ok a b c d e f g h i j; trim ((4,r)::(17,q)::(16,p)::(15,o)::(14,n)::(13,m)::(12,k)::l) l = [(0,a),(1,b),(2,c),(3,d),(4,r),(5,f),(6,g),(18,h),(34,i),(41,j)] := by intros; rfl
  refine R_nil (tr ..) ?_; clear tr
  refine then_n ?_
  refine at_ret rfl ?_
  refine blk_r ?_
  refine then_r ?_
  first | (refine fpure ?_; refine ⟨?_, rfl⟩; rw [cm_pt (by assumption)] <;> rfl; done) | (refine fpure ?_; refine ⟨?_, rfl⟩; rw [cm_wn (by assumption) (by assumption)] <;> rfl; done) | (refine fpure ?_; refine ⟨?_, rfl⟩; rw [cm_cr (by assumption) (by assumption) (by assumption)] <;> rfl; done) | (refine fpure ?_; refine ⟨?_, rfl⟩; rw [cm_cr0 (by assumption) (by assumption) (by assumption)] <;> rfl; done) | (refine fpure ?_; refine ⟨?_, rfl⟩; rw [cm_cr' (by assumption) (by assumption) (by assumption)] <;> rfl; done) | (refine fpure ?_; refine ⟨?_, rfl⟩; rw [cm_tm (by assumption) (by assumption) (by assumption) (by assumption)] <;> rfl; done) | (refine fpure ?_; refine ⟨?_, rfl⟩; rw [cm_0 (by assumption) (by assumption) (by assumption) (by assumption)] <;> rfl; done)
 ·
  try simp only [decide_eq_true_eq, decide_eq_false_iff_not, decide_eq_decide, Bool.not_eq_true', Bool.not_eq_false', beq_iff_eq, beq_eq_false_iff_ne, ne_eq, Bool.and_eq_true, Bool.and_eq_false_iff, decide_not] at h1
  refine at_seq rfl ?_
  refine rg rfl ?_
  refine Rq ?_
  refine Rq ?_
  refine Rq ?_
  refine Rq ?_
  refine Rq ?_
  refine Rq ?_
  have tr : ∀ a b c d e f g h i j k m n o p q : AV, let l := lc_comp_ok a b c d e f g h i j; trim ((18,q)::(23,p)::(22,o)::(21,n)::(20,m)::(19,k)::l) l = [(0,a),(1,b),(2,c),(3,d),(4,e),(5,f),(6,g),(18,q),(34,i),(41,j)] := by intros; rfl
  refine R_nil (tr ..) ?_; clear tr
  refine then_n ?_
  refine cdd (fun h2 => ?_) (fun h2 => ?_)
  ·
   try simp only [decide_eq_true_eq, decide_eq_false_iff_not, decide_eq_decide, Bool.not_eq_true', Bool.not_eq_false', beq_iff_eq, beq_eq_false_iff_ne, ne_eq, Bool.and_eq_true, Bool.and_eq_false_iff, decide_not] at h2
   refine at_seq rfl ?_
   refine rg rfl ?_
   refine Rq ?_
   refine Rq ?_
   refine Rq ?_
   refine Rq ?_
   refine Rq ?_
   refine Rcall ?_
   refine ACall_eq (before_ok _ _ _) ?_
   refine Rq ?_
   have tr : ∀ a b c d e f g h i j k m n o p q r : AV, let l := lc_comp_ok a b c d e f g h i j; trim ((4,r)::(29,q)::(28,p)::(27,o)::(26,n)::(25,m)::(24,k)::l) l = [(0,a),(1,b),(2,c),(3,d),(4,r),(5,f),(6,g),(18,h),(34,i),(41,j)] := by intros; rfl
   refine R_nil (tr ..) ?_; clear tr
   refine then_n ?_
   refine at_ret rfl ?_
   refine blk_r ?_
   refine then_r ?_
   first | (refine fpure ?_; refine ⟨?_, rfl⟩; rw [cm_pt (by assumption)] <;> rfl; done) | (refine fpure ?_; refine ⟨?_, rfl⟩; rw [cm_wn (by assumption) (by assumption)] <;> rfl; done) | (refine fpure ?_; refine ⟨?_, rfl⟩; rw [cm_cr (by assumption) (by assumption) (by assumption)] <;> rfl; done) | (refine fpure ?_; refine ⟨?_, rfl⟩; rw [cm_cr0 (by assumption) (by assumption) (by assumption)] <;> rfl; done) | (refine fpure ?_; refine ⟨?_, rfl⟩; rw [cm_cr' (by assumption) (by assumption) (by assumption)] <;> rfl; done) | (refine fpure ?_; refine ⟨?_, rfl⟩; rw [cm_tm (by assumption) (by assumption) (by assumption) (by assumption)] <;> rfl; done) | (refine fpure ?_; refine ⟨?_, rfl⟩; rw [cm_0 (by assumption) (by assumption) (by assumption) (by assumption)] <;> rfl; done)
  ·
   try simp only [decide_eq_true_eq, decide_eq_false_iff_not, decide_eq_decide, Bool.not_eq_true', Bool.not_eq_false', beq_iff_eq, beq_eq_false_iff_ne, ne_eq, Bool.and_eq_true, Bool.and_eq_false_iff, decide_not] at h2
   refine at_skip rfl ?_
   refine blk_n ?_
   refine then_n ?_
   refine at_seq rfl ?_
   refine at_seq rfl ?_
   refine rg rfl ?_
   refine Rq ?_
   refine Rq ?_
   refine Rcall ?_
   refine ACall_eq (crate_ok _ _ y z) ?_
   refine Rq ?_
   have tr : ∀ a b c d e f g h i j k m n o : AV, let l := lc_comp_ok a b c d e f g h i j; trim ((5,o)::(32,n)::(31,m)::(30,k)::l) l = [(0,a),(1,b),(2,c),(3,d),(4,e),(5,o),(6,g),(18,h),(34,i),(41,j)] := by intros; rfl
   refine R_nil (tr ..) ?_; clear tr
   refine then_n ?_
   refine at_seq rfl ?_
   refine rg rfl ?_
   refine Rq ?_
   refine Rq ?_
   have tr : ∀ a b c d e f g h i j k m : AV, let l := lc_comp_ok a b c d e f g h i j; trim ((34,m)::(33,k)::l) l = [(0,a),(1,b),(2,c),(3,d),(4,e),(5,f),(6,g),(18,h),(34,m),(41,j)] := by intros; rfl
   refine R_nil (tr ..) ?_; clear tr
   refine then_n ?_
   refine cdd (fun h3 => ?_) (fun h3 => ?_)
   ·
    try simp only [decide_eq_true_eq, decide_eq_false_iff_not, decide_eq_decide, Bool.not_eq_true', Bool.not_eq_false', beq_iff_eq, beq_eq_false_iff_ne, ne_eq, Bool.and_eq_true, Bool.and_eq_false_iff, decide_not] at h3
    refine at_seq rfl ?_
    refine rg rfl ?_
    refine Rq ?_
    refine Rq ?_
    refine Rq ?_
    have tr : ∀ a b c d e f g h i j k m n : AV, let l := lc_comp_ok a b c d e f g h i j; trim ((4,n)::(36,m)::(35,k)::l) l = [(0,a),(1,b),(2,c),(3,d),(4,n),(5,f),(6,g),(18,h),(34,i),(41,j)] := by intros; rfl
    refine R_nil (tr ..) ?_; clear tr
    refine then_n ?_
    refine at_ret rfl ?_
    refine then_r ?_
    first | (refine fpure ?_; refine ⟨?_, rfl⟩; rw [cm_pt (by assumption)] <;> rfl; done) | (refine fpure ?_; refine ⟨?_, rfl⟩; rw [cm_wn (by assumption) (by assumption)] <;> rfl; done) | (refine fpure ?_; refine ⟨?_, rfl⟩; rw [cm_cr (by assumption) (by assumption) (by assumption)] <;> rfl; done) | (refine fpure ?_; refine ⟨?_, rfl⟩; rw [cm_cr0 (by assumption) (by assumption) (by assumption)] <;> rfl; done) | (refine fpure ?_; refine ⟨?_, rfl⟩; rw [cm_cr' (by assumption) (by assumption) (by assumption)] <;> rfl; done) | (refine fpure ?_; refine ⟨?_, rfl⟩; rw [cm_tm (by assumption) (by assumption) (by assumption) (by assumption)] <;> rfl; done) | (refine fpure ?_; refine ⟨?_, rfl⟩; rw [cm_0 (by assumption) (by assumption) (by assumption) (by assumption)] <;> rfl; done)
   ·
    try simp only [decide_eq_true_eq, decide_eq_false_iff_not, decide_eq_decide, Bool.not_eq_true', Bool.not_eq_false', beq_iff_eq, beq_eq_false_iff_ne, ne_eq, Bool.and_eq_true, Bool.and_eq_false_iff, decide_not] at h3
    refine at_skip rfl ?_
    refine then_n ?_
    refine at_seq rfl ?_
    refine at_seq rfl ?_
    refine rg rfl ?_
    refine Rq ?_
    refine Rq ?_
    refine Rq ?_
    refine Rq ?_
    refine Rq ?_
    have tr : ∀ a b c d e f g h i j k m n o p : AV, let l := lc_comp_ok a b c d e f g h i j; trim ((41,p)::(40,o)::(39,n)::(38,m)::(37,k)::l) l = [(0,a),(1,b),(2,c),(3,d),(4,e),(5,f),(6,g),(18,h),(34,i),(41,p)] := by intros; rfl
    refine R_nil (tr ..) ?_; clear tr
    refine then_n ?_
    refine cdd (fun h4 => ?_) (fun h4 => ?_)
    ·
     try simp only [decide_eq_true_eq, decide_eq_false_iff_not, decide_eq_decide, Bool.not_eq_true', Bool.not_eq_false', beq_iff_eq, beq_eq_false_iff_ne, ne_eq, Bool.and_eq_true, Bool.and_eq_false_iff, decide_not] at h4
     refine at_seq rfl ?_
     refine rg rfl ?_
     refine Rq ?_
     refine Rq ?_
     refine Rq ?_
     refine Rq ?_
     refine Rq ?_
     refine Rcall ?_
     refine ACall_eq (before_ok _ _ _) ?_
     refine Rq ?_
     have tr : ∀ a b c d e f g h i j k m n o p q r : AV, let l := lc_comp_ok a b c d e f g h i j; trim ((4,r)::(47,q)::(46,p)::(45,o)::(44,n)::(43,m)::(42,k)::l) l = [(0,a),(1,b),(2,c),(3,d),(4,r),(5,f),(6,g),(18,h),(34,i),(41,j)] := by intros; rfl
     refine R_nil (tr ..) ?_; clear tr
     refine then_n ?_
     refine at_ret rfl ?_
     refine then_r ?_
     first | (refine fpure ?_; refine ⟨?_, rfl⟩; rw [cm_pt (by assumption)] <;> rfl; done) | (refine fpure ?_; refine ⟨?_, rfl⟩; rw [cm_wn (by assumption) (by assumption)] <;> rfl; done) | (refine fpure ?_; refine ⟨?_, rfl⟩; rw [cm_cr (by assumption) (by assumption) (by assumption)] <;> rfl; done) | (refine fpure ?_; refine ⟨?_, rfl⟩; rw [cm_cr0 (by assumption) (by assumption) (by assumption)] <;> rfl; done) | (refine fpure ?_; refine ⟨?_, rfl⟩; rw [cm_cr' (by assumption) (by assumption) (by assumption)] <;> rfl; done) | (refine fpure ?_; refine ⟨?_, rfl⟩; rw [cm_tm (by assumption) (by assumption) (by assumption) (by assumption)] <;> rfl; done) | (refine fpure ?_; refine ⟨?_, rfl⟩; rw [cm_0 (by assumption) (by assumption) (by assumption) (by assumption)] <;> rfl; done)
    ·
     try simp only [decide_eq_true_eq, decide_eq_false_iff_not, decide_eq_decide, Bool.not_eq_true', Bool.not_eq_false', beq_iff_eq, beq_eq_false_iff_ne, ne_eq, Bool.and_eq_true, Bool.and_eq_false_iff, decide_not] at h4
     refine at_skip rfl ?_
     refine then_n ?_
     refine at_seq rfl ?_
     refine rg rfl ?_
     refine Rq ?_
     have tr : ∀ a b c d e f g h i j k : AV, let l := lc_comp_ok a b c d e f g h i j; trim ((4,k)::l) l = [(0,a),(1,b),(2,c),(3,d),(4,k),(5,f),(6,g),(18,h),(34,i),(41,j)] := by intros; rfl
     refine R_nil (tr ..) ?_; clear tr
     refine then_n ?_
     refine at_ret rfl ?_
     first | (refine fpure ?_; refine ⟨?_, rfl⟩; rw [cm_pt (by assumption)] <;> rfl; done) | (refine fpure ?_; refine ⟨?_, rfl⟩; rw [cm_wn (by assumption) (by assumption)] <;> rfl; done) | (refine fpure ?_; refine ⟨?_, rfl⟩; rw [cm_cr (by assumption) (by assumption) (by assumption)] <;> rfl; done) | (refine fpure ?_; refine ⟨?_, rfl⟩; rw [cm_cr0 (by assumption) (by assumption) (by assumption)] <;> rfl; done) | (refine fpure ?_; refine ⟨?_, rfl⟩; rw [cm_cr' (by assumption) (by assumption) (by assumption)] <;> rfl; done) | (refine fpure ?_; refine ⟨?_, rfl⟩; rw [cm_tm (by assumption) (by assumption) (by assumption) (by assumption)] <;> rfl; done) | (refine fpure ?_; refine ⟨?_, rfl⟩; rw [cm_0 (by assumption) (by assumption) (by assumption) (by assumption)] <;> rfl; done)

abbrev lc_rcomp_ok (a b c d e f g h i j : AV) : Env := [(0,a),(1,b),(2,c),(3,d),(4,e),(5,f),(9,g),(21,h),(33,i),(39,j)]
theorem rcomp_ok (lim : Nat) (H : Heap) (y z : St) : ACall sig lim 14 [stA y, stA z] H fun r H' => r = AV.i (cmS y z) ∧ H' = H := by
 have hc := crS_rng y z
 refine ACall_pure (fa := fa14) rfl rfl rfl rfl ?_
 have tr : ∀ a0 a1 : AV, env0 fa14.keep [a0, a1] = [(0,a0),(1,a1),(2,.any),(3,.any),(4,.any),(5,.any),(9,.any),(21,.any),(33,.any),(39,.any)] := fun a0 a1 => rfl
 refine W_to (tr _ _) ?_; clear tr
 refine at_seq rfl ?_
 refine rg rfl ?_
 refine R_box rfl (by simp (disch := first | omega | (simp only [List.length_map, List.length_append, List.length_set, List.length_cons, List.length_nil]; omega)) only [go_sem, ↓reduceIte, Nat.reduceEqDiff, reduceCtorEq] <;> rfl) rfl rfl ?_
 refine R_box rfl (by simp (disch := first | omega | (simp only [List.length_map, List.length_append, List.length_set, List.length_cons, List.length_nil]; omega)) only [go_sem, ↓reduceIte, Nat.reduceEqDiff, reduceCtorEq] <;> rfl) rfl rfl ?_
 refine Rq ?_
 have tr : ∀ a b c d e f g h i j k m n : AV, let l := lc_rcomp_ok a b c d e f g h i j; trim ((4,n)::(3,m)::(2,k)::l) l = [(0,a),(1,b),(2,k),(3,m),(4,n),(5,f),(9,g),(21,h),(33,i),(39,j)] := by intros; rfl
 refine R_nil (tr ..) ?_; clear tr
 refine then_n ?_
 refine at_seq rfl ?_
 refine rg rfl ?_
 refine Rq ?_
 refine Rq ?_
 refine Rcall ?_
 refine ACall_eq (rcrate_ok _ _ y z) ?_
 refine Rq ?_
 have tr : ∀ a b c d e f g h i j k m n o : AV, let l := lc_rcomp_ok a b c d e f g h i j; trim ((5,o)::(8,n)::(7,m)::(6,k)::l) l = [(0,a),(1,b),(2,c),(3,d),(4,e),(5,o),(9,g),(21,h),(33,i),(39,j)] := by intros; rfl
 refine R_nil (tr ..) ?_; clear tr
 refine then_n ?_
 refine at_seq rfl ?_
 refine at_block rfl ?_
 refine at_seq rfl ?_
 refine rg rfl ?_
 refine Rq ?_
 refine Rq ?_
 refine Rq ?_
 refine Rq ?_
 refine Rq ?_
 refine Rq ?_
 have tr : ∀ a b c d e f g h i j k m n o p q : AV, let l := lc_rcomp_ok a b c d e f g h i j; trim ((9,q)::(14,p)::(13,o)::(12,n)::(11,m)::(10,k)::l) l = [(0,a),(1,b),(2,c),(3,d),(4,e),(5,f),(9,q),(21,h),(33,i),(39,j)] := by intros; rfl
 refine R_nil (tr ..) ?_; clear tr
 refine then_n ?_
 refine cdd (fun h1 => ?_) (fun h1 => ?_)
 ·
  try simp only [decide_eq_true_eq, decide_eq_false_iff_not, decide_eq_decide, Bool.not_eq_true', Bool.not_eq_false', beq_iff_eq, beq_eq_false_iff_ne, ne_eq, Bool.and_eq_true, Bool.and_eq_false_iff, decide_not] at h1
  refine at_seq rfl ?_
  refine rg rfl ?_
  refine Rq ?_
  refine Rq ?_
  refine Rq ?_
  refine Rq ?_
  refine Rq ?_
  refine Rcall ?_
  refine ACall_eq (sign_ok _ _ _) ?_
  refine Rq ?_
  have tr : ∀ a b c d e f g h i j k m n o p q r : AV, let l := lc_rcomp_ok a b c d e f g h i j; trim ((4,r)::(20,q)::(19,p)::(18,o)::(17,n)::(16,m)::(15,k)::l) l = [(0,a),(1,b),(2,c),(3,d),(4,r),(5,f),(9,g),(21,h),(33,i),(39,j)] := by intros; rfl
  refine R_nil (tr ..) ?_; clear tr
  refine then_n ?_
  refine at_ret rfl ?_
  refine blk_r ?_
  refine then_r ?_
  first | (refine fpure ?_; refine ⟨?_, rfl⟩; rw [cm_pt (by assumption)] <;> rfl; done) | (refine fpure ?_; refine ⟨?_, rfl⟩; rw [cm_wn (by assumption) (by assumption)] <;> rfl; done) | (refine fpure ?_; refine ⟨?_, rfl⟩; rw [cm_cr (by assumption) (by assumption) (by assumption)] <;> rfl; done) | (refine fpure ?_; refine ⟨?_, rfl⟩; rw [cm_cr0 (by assumption) (by assumption) (by assumption)] <;> rfl; done) | (refine fpure ?_; refine ⟨?_, rfl⟩; rw [cm_cr' (by assumption) (by assumption) (by assumption)] <;> rfl; done) | (refine fpure ?_; refine ⟨?_, rfl⟩; rw [cm_tm (by assumption) (by assumption) (by assumption) (by assumption)] <;> rfl; done) | (refine fpure ?_; refine ⟨?_, rfl⟩; rw [cm_0 (by assumption) (by assumption) (by assumption) (by assumption)] <;> rfl; done)
 ·
  try simp only [decide_eq_true_eq, decide_eq_false_iff_not, decide_eq_decide, Bool.not_eq_true', Bool.not_eq_false', beq_iff_eq, beq_eq_false_iff_ne, ne_eq, Bool.and_eq_true, Bool.and_eq_false_iff, decide_not] at h1
  refine at_seq rfl ?_
  refine rg rfl ?_
  refine Rq ?_
  refine Rq ?_
  refine Rq ?_
  refine Rq ?_
  refine Rq ?_
  refine Rq ?_
  have tr : ∀ a b c d e f g h i j k m n o p q : AV, let l := lc_rcomp_ok a b c d e f g h i j; trim ((21,q)::(26,p)::(25,o)::(24,n)::(23,m)::(22,k)::l) l = [(0,a),(1,b),(2,c),(3,d),(4,e),(5,f),(9,g),(21,q),(33,i),(39,j)] := by intros; rfl
  refine R_nil (tr ..) ?_; clear tr
  refine then_n ?_
  refine cdd (fun h2 => ?_) (fun h2 => ?_)
  ·
   try simp only [decide_eq_true_eq, decide_eq_false_iff_not, decide_eq_decide, Bool.not_eq_true', Bool.not_eq_false', beq_iff_eq, beq_eq_false_iff_ne, ne_eq, Bool.and_eq_true, Bool.and_eq_false_iff, decide_not] at h2
   refine at_seq rfl ?_
   refine rg rfl ?_
   refine Rq ?_
   refine Rq ?_
   refine Rq ?_
   refine Rq ?_
   refine Rq ?_
   refine Rcall ?_
   refine ACall_eq (sign_ok _ _ _) ?_
   refine Rq ?_
   have tr : ∀ a b c d e f g h i j k m n o p q r : AV, let l := lc_rcomp_ok a b c d e f g h i j; trim ((4,r)::(32,q)::(31,p)::(30,o)::(29,n)::(28,m)::(27,k)::l) l = [(0,a),(1,b),(2,c),(3,d),(4,r),(5,f),(9,g),(21,h),(33,i),(39,j)] := by intros; rfl
   refine R_nil (tr ..) ?_; clear tr
   refine then_n ?_
   refine at_ret rfl ?_
   refine blk_r ?_
   refine then_r ?_
   first | (refine fpure ?_; refine ⟨?_, rfl⟩; rw [cm_pt (by assumption)] <;> rfl; done) | (refine fpure ?_; refine ⟨?_, rfl⟩; rw [cm_wn (by assumption) (by assumption)] <;> rfl; done) | (refine fpure ?_; refine ⟨?_, rfl⟩; rw [cm_cr (by assumption) (by assumption) (by assumption)] <;> rfl; done) | (refine fpure ?_; refine ⟨?_, rfl⟩; rw [cm_cr0 (by assumption) (by assumption) (by assumption)] <;> rfl; done) | (refine fpure ?_; refine ⟨?_, rfl⟩; rw [cm_cr' (by assumption) (by assumption) (by assumption)] <;> rfl; done) | (refine fpure ?_; refine ⟨?_, rfl⟩; rw [cm_tm (by assumption) (by assumption) (by assumption) (by assumption)] <;> rfl; done) | (refine fpure ?_; refine ⟨?_, rfl⟩; rw [cm_0 (by assumption) (by assumption) (by assumption) (by assumption)] <;> rfl; done)
  ·
   try simp only [decide_eq_true_eq, decide_eq_false_iff_not, decide_eq_decide, Bool.not_eq_true', Bool.not_eq_false', beq_iff_eq, beq_eq_false_iff_ne, ne_eq, Bool.and_eq_true, Bool.and_eq_false_iff, decide_not] at h2
   refine at_seq rfl ?_
   refine rg rfl ?_
   refine Rq ?_
   refine Rq ?_
   refine Rq ?_
   have tr : ∀ a b c d e f g h i j k m n : AV, let l := lc_rcomp_ok a b c d e f g h i j; trim ((33,n)::(35,m)::(34,k)::l) l = [(0,a),(1,b),(2,c),(3,d),(4,e),(5,f),(9,g),(21,h),(33,n),(39,j)] := by intros; rfl
   refine R_nil (tr ..) ?_; clear tr
   refine then_n ?_
   refine cdd (fun h3 => ?_) (fun h3 => ?_)
   ·
    try simp only [decide_eq_true_eq, decide_eq_false_iff_not, decide_eq_decide, Bool.not_eq_true', Bool.not_eq_false', beq_iff_eq, beq_eq_false_iff_ne, ne_eq, Bool.and_eq_true, Bool.and_eq_false_iff, decide_not] at h3
    refine at_seq rfl ?_
    refine rg rfl ?_
    refine Rq ?_
    refine Rq ?_
    refine Rcall ?_
    refine ACall_eq (sign_ok _ _ _) ?_
    refine Rq ?_
    have tr : ∀ a b c d e f g h i j k m n o : AV, let l := lc_rcomp_ok a b c d e f g h i j; trim ((4,o)::(38,n)::(37,m)::(36,k)::l) l = [(0,a),(1,b),(2,c),(3,d),(4,o),(5,f),(9,g),(21,h),(33,i),(39,j)] := by intros; rfl
    refine R_nil (tr ..) ?_; clear tr
    refine then_n ?_
    refine at_ret rfl ?_
    refine blk_r ?_
    refine then_r ?_
    first | (refine fpure ?_; refine ⟨?_, rfl⟩; rw [cm_pt (by assumption)] <;> rfl; done) | (refine fpure ?_; refine ⟨?_, rfl⟩; rw [cm_wn (by assumption) (by assumption)] <;> rfl; done) | (refine fpure ?_; refine ⟨?_, rfl⟩; rw [cm_cr (by assumption) (by assumption) (by assumption)] <;> rfl; done) | (refine fpure ?_; refine ⟨?_, rfl⟩; rw [cm_cr0 (by assumption) (by assumption) (by assumption)] <;> rfl; done) | (refine fpure ?_; refine ⟨?_, rfl⟩; rw [cm_cr' (by assumption) (by assumption) (by assumption)] <;> rfl; done) | (refine fpure ?_; refine ⟨?_, rfl⟩; rw [cm_tm (by assumption) (by assumption) (by assumption) (by assumption)] <;> rfl; done) | (refine fpure ?_; refine ⟨?_, rfl⟩; rw [cm_0 (by assumption) (by assumption) (by assumption) (by assumption)] <;> rfl; done)
   ·
    try simp only [decide_eq_true_eq, decide_eq_false_iff_not, decide_eq_decide, Bool.not_eq_true', Bool.not_eq_false', beq_iff_eq, beq_eq_false_iff_ne, ne_eq, Bool.and_eq_true, Bool.and_eq_false_iff, decide_not] at h3
    refine at_seq rfl ?_
    refine rg rfl ?_
    refine Rq ?_
    refine Rq ?_
    refine Rq ?_
    refine Rq ?_
    refine Rq ?_
    refine Rq ?_
    have tr : ∀ a b c d e f g h i j k m n o p q : AV, let l := lc_rcomp_ok a b c d e f g h i j; trim ((39,q)::(44,p)::(43,o)::(42,n)::(41,m)::(40,k)::l) l = [(0,a),(1,b),(2,c),(3,d),(4,e),(5,f),(9,g),(21,h),(33,i),(39,q)] := by intros; rfl
    refine R_nil (tr ..) ?_; clear tr
    refine then_n ?_
    refine cdd (fun h4 => ?_) (fun h4 => ?_)
    ·
     try simp only [decide_eq_true_eq, decide_eq_false_iff_not, decide_eq_decide, Bool.not_eq_true', Bool.not_eq_false', beq_iff_eq, beq_eq_false_iff_ne, ne_eq, Bool.and_eq_true, Bool.and_eq_false_iff, decide_not] at h4
     refine at_seq rfl ?_
     refine rg rfl ?_
     refine Rq ?_
     refine Rq ?_
     refine Rq ?_
     refine Rq ?_
     refine Rq ?_
     refine Rcall ?_
     refine ACall_eq (sign_ok _ _ _) ?_
     refine Rq ?_
     have tr : ∀ a b c d e f g h i j k m n o p q r : AV, let l := lc_rcomp_ok a b c d e f g h i j; trim ((4,r)::(50,q)::(49,p)::(48,o)::(47,n)::(46,m)::(45,k)::l) l = [(0,a),(1,b),(2,c),(3,d),(4,r),(5,f),(9,g),(21,h),(33,i),(39,j)] := by intros; rfl
     refine R_nil (tr ..) ?_; clear tr
     refine then_n ?_
     refine at_ret rfl ?_
     refine blk_r ?_
     refine then_r ?_
     first | (refine fpure ?_; refine ⟨?_, rfl⟩; rw [cm_pt (by assumption)] <;> rfl; done) | (refine fpure ?_; refine ⟨?_, rfl⟩; rw [cm_wn (by assumption) (by assumption)] <;> rfl; done) | (refine fpure ?_; refine ⟨?_, rfl⟩; rw [cm_cr (by assumption) (by assumption) (by assumption)] <;> rfl; done) | (refine fpure ?_; refine ⟨?_, rfl⟩; rw [cm_cr0 (by assumption) (by assumption) (by assumption)] <;> rfl; done) | (refine fpure ?_; refine ⟨?_, rfl⟩; rw [cm_cr' (by assumption) (by assumption) (by assumption)] <;> rfl; done) | (refine fpure ?_; refine ⟨?_, rfl⟩; rw [cm_tm (by assumption) (by assumption) (by assumption) (by assumption)] <;> rfl; done) | (refine fpure ?_; refine ⟨?_, rfl⟩; rw [cm_0 (by assumption) (by assumption) (by assumption) (by assumption)] <;> rfl; done)
    ·
     try simp only [decide_eq_true_eq, decide_eq_false_iff_not, decide_eq_decide, Bool.not_eq_true', Bool.not_eq_false', beq_iff_eq, beq_eq_false_iff_ne, ne_eq, Bool.and_eq_true, Bool.and_eq_false_iff, decide_not] at h4
     refine at_skip rfl ?_
     refine blk_n ?_
     refine then_n ?_
     refine at_seq rfl ?_
     refine rg rfl ?_
     refine Rq ?_
     have tr : ∀ a b c d e f g h i j k : AV, let l := lc_rcomp_ok a b c d e f g h i j; trim ((4,k)::l) l = [(0,a),(1,b),(2,c),(3,d),(4,k),(5,f),(9,g),(21,h),(33,i),(39,j)] := by intros; rfl
     refine R_nil (tr ..) ?_; clear tr
     refine then_n ?_
     refine at_ret rfl ?_
     first | (refine fpure ?_; refine ⟨?_, rfl⟩; rw [cm_pt (by assumption)] <;> rfl; done) | (refine fpure ?_; refine ⟨?_, rfl⟩; rw [cm_wn (by assumption) (by assumption)] <;> rfl; done) | (refine fpure ?_; refine ⟨?_, rfl⟩; rw [cm_cr (by assumption) (by assumption) (by assumption)] <;> rfl; done) | (refine fpure ?_; refine ⟨?_, rfl⟩; rw [cm_cr0 (by assumption) (by assumption) (by assumption)] <;> rfl; done) | (refine fpure ?_; refine ⟨?_, rfl⟩; rw [cm_cr' (by assumption) (by assumption) (by assumption)] <;> rfl; done) | (refine fpure ?_; refine ⟨?_, rfl⟩; rw [cm_tm (by assumption) (by assumption) (by assumption) (by assumption)] <;> rfl; done) | (refine fpure ?_; refine ⟨?_, rfl⟩; rw [cm_0 (by assumption) (by assumption) (by assumption) (by assumption)] <;> rfl; done)

end Go.Proofs.YtfnapmdedmbdbaaDoor
end
section
namespace Go.Proofs.YtfnapmdedmbdbaaDoor
open Go Go.Am
set_option maxRecDepth 100000
theorem awake51 (lim : Nat) (H : Heap) : acall sig 400 lim 10 [] H = some (.v (.bool true), H) := by kernel_rfl
end Go.Proofs.YtfnapmdedmbdbaaDoor
end
