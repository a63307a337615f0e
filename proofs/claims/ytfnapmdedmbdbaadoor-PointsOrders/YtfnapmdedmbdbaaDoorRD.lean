/-
  Walks of chapter 51. The steps are written by program (walk.py).
-/
import Derived.Test.YtfnapmdedmbdbaaDoorL
import Derived.Test.YtfnapmdedmbdbaaDoorA2
import Derived.Test.YtfnapmdedmbdbaaDoorAmU
set_option linter.unusedSimpArgs false
set_option linter.unusedVariables false
set_option maxHeartbeats 1000000
set_option maxRecDepth 20000
namespace Go.Proofs.YtfnapmdedmbdbaaDoor
open Go Go.Am
abbrev lc_times_ok (a b c d e f g h i j k m n : AV) : Env := [(0,a),(1,b),(2,c),(3,d),(4,e),(5,f),(6,g),(7,h),(8,i),(9,j),(10,k),(12,m),(16,n)]
theorem times_ok (lim : Nat) (H : Heap) (M K : Int) (hM : 0 ≤ M ∧ M ≤ 340282366920938463463374607431768211455) (hK : 0 ≤ K ∧ K ≤ 340282366920938463463374607431768211455) : ACall sig lim 62 [lv M, lv K] H fun r H' => r = .tup [lv (M * K), .v (.bool (decide (M * K ≤ 340282366920938463463374607431768211455)))] ∧ H' = H := by
 refine ACall_pure (fa := fa62) rfl rfl rfl rfl ?_
 have tr : ∀ a0 a1 : AV, env0 fa62.keep [a0, a1] = [(0,a0),(1,a1),(2,.any),(3,.any),(4,.any),(5,.any),(6,.any),(7,.any),(8,.any),(9,.any),(10,.any),(12,.any),(16,.any)] := fun a0 a1 => rfl
 refine W_to (tr _ _) ?_; clear tr
 refine at_seq rfl ?_
 refine rg rfl ?_
 refine A_box rfl (by simp (disch := first | omega | (simp only [List.length_map, List.length_append, List.length_set, List.length_cons, List.length_nil]; omega)) only [go_sem, ↓reduceIte, Nat.reduceEqDiff, reduceCtorEq]; rfl) ?_
 intro H1 n1
 have en1 := n1.len
 have q2 := n1.new
 refine A_box rfl (by simp (disch := first | omega | (simp only [List.length_map, List.length_append, List.length_set, List.length_cons, List.length_nil]; omega)) only [go_sem, ↓reduceIte, Nat.reduceEqDiff, reduceCtorEq]; rfl) ?_
 intro H2 n2
 have en2 := n2.len
 have q2 := (n2.old _ (hget_lt q2)).trans q2
 have q3 := n2.new
 refine A_alloc rfl ?_
 intro H3 n3
 have en3 := n3.len
 have q2 := (n3.old _ (hget_lt q2)).trans q2
 have q3 := (n3.old _ (hget_lt q3)).trans q3
 have q4 := n3.new
 refine Rq ?_
 have tr : ∀ a b c d e f g h i j k m n o p q r : AV, let l := lc_times_ok a b c d e f g h i j k m n; trim ((5,r)::(4,q)::(3,p)::(2,o)::l) l = [(0,a),(1,b),(2,o),(3,p),(4,q),(5,r),(6,g),(7,h),(8,i),(9,j),(10,k),(12,m),(16,n)] := by intros; rfl
 refine R_nil (tr ..) ?_; clear tr
 refine then_n ?_
 refine at_seq rfl ?_
 refine rg rfl ?_
 refine A_alloc rfl ?_
 intro H4 n4
 have en4 := n4.len
 have q2 := (n4.old _ (hget_lt q2)).trans q2
 have q3 := (n4.old _ (hget_lt q3)).trans q3
 have q4 := (n4.old _ (hget_lt q4)).trans q4
 have q6 := n4.new
 have q6 : hget H4 H3.length = some ((List.replicate 8 (0 : Int)).map u6) := q6
 have la : (lm M).length = 4 := rfl
 have lb : (lm K).length = 4 := rfl
 have tr : ∀ a b c d e f g h i j k m n o : AV, let l := lc_times_ok a b c d e f g h i j k m n; trim ((6,o)::l) l = [(0,a),(1,b),(2,c),(3,d),(4,e),(5,f),(6,o),(7,h),(8,i),(9,j),(10,k),(12,m),(16,n)] := by intros; rfl
 refine R_nil (tr ..) ?_; clear tr
 refine then_n ?_
 refine at_seq rfl ?_
 refine at_seq rfl ?_
 refine rg rfl ?_
 refine Rq ?_
 have tr : ∀ a b c d e f g h i j k m n o : AV, let l := lc_times_ok a b c d e f g h i j k m n; trim ((7,o)::l) l = [(0,a),(1,b),(2,c),(3,d),(4,e),(5,f),(6,g),(7,o),(8,i),(9,j),(10,k),(12,m),(16,n)] := by intros; rfl
 refine R_nil (tr ..) ?_; clear tr
 refine then_n ?_
 refine at_block rfl ?_
 refine loop_n rfl (fun mm kv H' => ∃ i : Nat, ∃ l : List Int, ∃ x8 x9 x10 x12 x16 : AV, (kv = [(7, AV.i i), (8, x8), (9, x9), (10, x10), (12, x12), (16, x16)]) ∧ (mm = 4 - i) ∧ (i ≤ 4) ∧ (hget H' H.length = some ((lm M).map u6)) ∧ (hget H' H1.length = some ((lm K).map u6)) ∧ (hget H' H2.length = some ([0, 0, 0, 0].map u6)) ∧ (hget H' H3.length = some (l.map u6)) ∧ (l.length = 8) ∧ (∀ j, j < 8 → 0 ≤ gt l j ∧ gt l j ≤ 4294967295) ∧ (∀ j, i + 4 ≤ j → gt l j = 0) ∧ (val l = M % pw i * K)) ⟨0, List.replicate 8 0, _, _, _, _, _, rfl, rfl, by omega, by exact q2, by exact q3, by exact q4, by exact q6, by rfl, by (intro j hj; rw [gt_zero8]; omega), by (intro j hj; exact gt_zero8 j), by (simp [pw, val, List.replicate, Int.emod_one])⟩ (by rfl) ?_
 rintro mm kv HO ⟨i, l, x8, x9, x10, x12, x16, rfl, rfl, hi, q2, q3, q4, q6, hl, hr, hz, hv⟩
 have tr : ∀ a b c d e f g h i j k m n o p q r s t : AV, upd [(0,a),(1,b),(2,c),(3,d),(4,e),(5,f),(6,g),(7,h),(8,i),(9,j),(10,k),(12,m),(16,n)] [(7,o),(8,p),(9,q),(10,r),(12,s),(16,t)] = [(0,a),(1,b),(2,c),(3,d),(4,e),(5,f),(6,g),(7,o),(8,p),(9,q),(10,r),(12,s),(16,t)] := by intros; rfl
 refine W_to (tr ..) ?_; clear tr
 refine at_seq rfl ?_
 refine at_seq rfl ?_
 refine rg rfl ?_
 refine Rq ?_
 refine Rq ?_
 have tr : ∀ a b c d e f g h i j k m n o p : AV, let l := lc_times_ok a b c d e f g h i j k m n; trim ((12,p)::(11,o)::l) l = [(0,a),(1,b),(2,c),(3,d),(4,e),(5,f),(6,g),(7,h),(8,i),(9,j),(10,k),(12,p),(16,n)] := by intros; rfl
 refine R_nil (tr ..) ?_; clear tr
 refine then_n ?_
 refine cdd (fun h1 => ?_) (fun h1 => ?_)
 ·
  try simp only [decide_eq_true_eq, decide_eq_false_iff_not, decide_eq_decide, Bool.not_eq_true', Bool.not_eq_false', beq_iff_eq, beq_eq_false_iff_ne, ne_eq, Bool.and_eq_true, Bool.and_eq_false_iff, decide_not] at h1
  refine at_skip rfl ?_
  refine then_n ?_
  refine at_seq rfl ?_
  refine at_block rfl ?_
  refine at_seq rfl ?_
  refine rg rfl ?_
  refine Rq ?_
  have tr : ∀ a b c d e f g h i j k m n o : AV, let l := lc_times_ok a b c d e f g h i j k m n; trim ((8,o)::l) l = [(0,a),(1,b),(2,c),(3,d),(4,e),(5,f),(6,g),(7,h),(8,o),(9,j),(10,k),(12,m),(16,n)] := by intros; rfl
  refine R_nil (tr ..) ?_; clear tr
  refine then_n ?_
  refine at_seq rfl ?_
  refine at_seq rfl ?_
  refine rg rfl ?_
  refine Rq ?_
  have tr : ∀ a b c d e f g h i j k m n o : AV, let l := lc_times_ok a b c d e f g h i j k m n; trim ((9,o)::l) l = [(0,a),(1,b),(2,c),(3,d),(4,e),(5,f),(6,g),(7,h),(8,i),(9,o),(10,k),(12,m),(16,n)] := by intros; rfl
  refine R_nil (tr ..) ?_; clear tr
  refine then_n ?_
  refine at_block rfl ?_
  refine loop_n rfl (fun mm kv H' => ∃ k : Nat, ∃ l2 : List Int, ∃ c : Int, ∃ x10 x16 : AV, (kv = [(8, u6 c), (9, AV.i k), (10, x10), (16, x16)]) ∧ (mm = 4 - k) ∧ (k ≤ 4) ∧ (hget H' H.length = some ((lm M).map u6)) ∧ (hget H' H1.length = some ((lm K).map u6)) ∧ (hget H' H2.length = some ([0, 0, 0, 0].map u6)) ∧ (hget H' H3.length = some (l2.map u6)) ∧ (l2.length = 8) ∧ (∀ j, j < 8 → 0 ≤ gt l2 j ∧ gt l2 j ≤ 4294967295) ∧ (∀ j, i + 4 ≤ j → gt l2 j = 0) ∧ (0 ≤ c ∧ c ≤ 4294967295) ∧ (val l2 + c * pw (i + k) = M % pw i * K + gt (lm M) i * pw i * (K % pw k))) ⟨0, l, 0, _, _, rfl, rfl, by omega, by exact q2, by exact q3, by exact q4, by exact q6, by exact hl, by exact hr, by exact hz, by omega, by exact times_init hv⟩ (by rfl) ?_
  rintro mm kv HI ⟨k, l2, c, x10, x16, rfl, rfl, hk, q2, q3, q4, q6, hl2, hr2, hz2, hc, hv2⟩
  have tr : ∀ a b c d e f g h i j k m n o p q r : AV, upd [(0,a),(1,b),(2,c),(3,d),(4,e),(5,f),(6,g),(7,h),(8,i),(9,j),(10,k),(12,m),(16,n)] [(8,o),(9,p),(10,q),(16,r)] = [(0,a),(1,b),(2,c),(3,d),(4,e),(5,f),(6,g),(7,h),(8,o),(9,p),(10,q),(12,m),(16,r)] := by intros; rfl
  refine W_to (tr ..) ?_; clear tr
  refine at_seq rfl ?_
  refine at_seq rfl ?_
  refine rg rfl ?_
  refine Rq ?_
  refine Rq ?_
  have tr : ∀ a b c d e f g h i j k m n o p : AV, let l := lc_times_ok a b c d e f g h i j k m n; trim ((16,p)::(15,o)::l) l = [(0,a),(1,b),(2,c),(3,d),(4,e),(5,f),(6,g),(7,h),(8,i),(9,j),(10,k),(12,m),(16,p)] := by intros; rfl
  refine R_nil (tr ..) ?_; clear tr
  refine then_n ?_
  refine cdd (fun h2 => ?_) (fun h2 => ?_)
  ·
   try simp only [decide_eq_true_eq, decide_eq_false_iff_not, decide_eq_decide, Bool.not_eq_true', Bool.not_eq_false', beq_iff_eq, beq_eq_false_iff_ne, ne_eq, Bool.and_eq_true, Bool.and_eq_false_iff, decide_not] at h2
   refine at_skip rfl ?_
   refine then_n ?_
   refine at_seq rfl ?_
   refine at_block rfl ?_
   refine at_seq rfl ?_
   refine rd rfl rfl ?_
   have ha := lm_rng M i (by omega)
   have hb := lm_rng K k (by omega)
   have hx := hr2 (i + k) (by omega)
   have hab0 := mul_pos' ha.1 hb.1
   have hab1 := mul_le' ha.1 ha.2 hb.1 hb.2
   have lq6 := hget_lt q6
   refine Qq ?_
   refine Qq ?_
   refine Q_q rfl (by simp (disch := first | omega | (simp only [List.length_map, List.length_append, List.length_set, List.length_cons, List.length_nil]; omega)) only [go_sem, ↓reduceIte, Nat.reduceEqDiff, reduceCtorEq, q2]; rfl) ?_
   refine Qq ?_
   refine Qq ?_
   refine Q_q rfl (by simp (disch := first | omega | (simp only [List.length_map, List.length_append, List.length_set, List.length_cons, List.length_nil]; omega)) only [go_sem, ↓reduceIte, Nat.reduceEqDiff, reduceCtorEq, q3]; rfl) ?_
   refine Qq ?_
   refine Qq ?_
   refine Qq ?_
   refine Qq ?_
   refine Q_q rfl (by simp (disch := first | omega | (simp only [List.length_map, List.length_append, List.length_set, List.length_cons, List.length_nil]; omega)) only [go_sem, ↓reduceIte, Nat.reduceEqDiff, reduceCtorEq, toNat_add]; rfl) ?_
   refine Q_q rfl (by simp (disch := first | omega | (simp only [List.length_map, List.length_append, List.length_set, List.length_cons, List.length_nil]; omega)) only [go_sem, ↓reduceIte, Nat.reduceEqDiff, reduceCtorEq, q6, toNat_add]; rfl) ?_
   refine Qq ?_
   refine Qq ?_
   refine Qq ?_
   refine Qq ?_
   refine Q_nil ?_
   have tr : ∀ a b c d e f g h i j k m n o p q r s t u v w x y z A B C D : AV, let l := lc_times_ok a b c d e f g h i j k m n; trim ((10,D)::(33,C)::(32,B)::(31,A)::(30,z)::(29,y)::(28,x)::(27,w)::(26,v)::(25,u)::(24,t)::(23,s)::(22,r)::(21,q)::(20,p)::(19,o)::l) l = [(0,a),(1,b),(2,c),(3,d),(4,e),(5,f),(6,g),(7,h),(8,i),(9,j),(10,D),(12,m),(16,n)] := by intros; rfl
   refine R_nil (tr ..) ?_; clear tr
   obtain ⟨n, hn⟩ : ∃ n, n = gt (lm M) i * gt (lm K) k + gt l2 (i + k) + c := ⟨_, rfl⟩
   rw [← hn]
   have hn1 : 0 ≤ n ∧ n ≤ 18446744073709551615 := by omega
   refine then_n ?_
   refine rg rfl ?_
   refine Rq ?_
   refine Rq ?_
   refine Rq ?_
   refine Rq ?_
   refine R_q (r := u6 (n % 4294967296)) rfl (by simp only [go_sem, ↓reduceIte, Nat.reduceEqDiff]; exact and32 _ (by omega) (by omega) 49) ?_
   refine Rq ?_
   refine R_q (r := u6 (n / 4294967296)) rfl (by simp only [go_sem, ↓reduceIte, Nat.reduceEqDiff]; exact shr32 _ 49 _) ?_
   refine R_q rfl (by simp (disch := first | omega | (simp only [List.length_map, List.length_append, List.length_set, List.length_cons, List.length_nil]; omega)) only [go_sem, ↓reduceIte, Nat.reduceEqDiff, reduceCtorEq, toNat_add]; rfl) ?_
   have lq2 := hget_lt q2
   have lq3 := hget_lt q3
   have lq4 := hget_lt q4
   have lq6 := hget_lt q6
   refine A_store ty49 (by simp (disch := first | omega | (simp only [List.length_map, List.length_append, List.length_set, List.length_cons, List.length_nil]; omega)) only [go_sem, ↓reduceIte, Nat.reduceEqDiff, reduceCtorEq] <;> rfl) (by simp (disch := first | omega | (simp only [List.length_map, List.length_append, List.length_set, List.length_cons, List.length_nil]; omega)) only [go_sem, ↓reduceIte, Nat.reduceEqDiff, reduceCtorEq] <;> rfl) q6 ⟨by omega, rfl, by simp only [List.length_map]; omega⟩ (k' := (l2.set (i + k) (n % 4294967296)).map u6) (by show List.set _ _ _ = _; rw [List.map_set]) ?_
   intro H6 w6
   refine Rq ?_
   have tr : ∀ a b c d e f g h i j k m n o p q r s t u v w : AV, let l := lc_times_ok a b c d e f g h i j k m n; trim ((8,w)::(41,v)::(40,u)::(39,t)::(38,s)::(37,r)::(36,q)::(35,p)::(34,o)::l) l = [(0,a),(1,b),(2,c),(3,d),(4,e),(5,f),(6,g),(7,h),(8,w),(9,j),(10,k),(12,m),(16,n)] := by intros; rfl
   refine R_nil (tr ..) ?_; clear tr
   refine blk_n ?_
   refine then_n ?_
   refine rg rfl ?_
   refine Rq ?_
   refine Rq ?_
   refine Rq ?_
   have tr : ∀ a b c d e f g h i j k m n o p q : AV, let l := lc_times_ok a b c d e f g h i j k m n; trim ((9,q)::(18,p)::(17,o)::l) l = [(0,a),(1,b),(2,c),(3,d),(4,e),(5,f),(6,g),(7,h),(8,i),(9,q),(10,k),(12,m),(16,n)] := by intros; rfl
   refine R_nil (tr ..) ?_; clear tr
   refine then_n ?_
   exact ⟨_, _, ⟨k + 1, l2.set (i + k) (n % 4294967296), n / 4294967296, _, _, rfl, rfl, by omega, by exact w6.old _ (by omega) |>.trans q2, by exact w6.old _ (by omega) |>.trans q3, by exact w6.old _ (by omega) |>.trans q4, by exact w6.new, by (rw [List.length_set]; exact hl2), by (intro j hj; rw [gt_set _ _ _ _ (by omega)]; split; omega; exact hr2 j hj), by (intro j hj; rw [gt_set _ _ _ _ (by omega), if_neg (by omega)]; exact hz2 j hj), by omega, by exact times_step hl2 (by omega) (by omega) hx hc hv2 hn⟩, by rfl, by omega⟩
  ·
   try simp only [decide_eq_true_eq, decide_eq_false_iff_not, decide_eq_decide, Bool.not_eq_true', Bool.not_eq_false', beq_iff_eq, beq_eq_false_iff_ne, ne_eq, Bool.and_eq_true, Bool.and_eq_false_iff, decide_not] at h2
   refine at_exit rfl ?_
   refine then_x ?_
   refine then_x ?_
   refine blk_x ?_
   refine then_n ?_
   refine rg rfl ?_
   refine Rq ?_
   refine Rq ?_
   refine Rq ?_
   refine R_q rfl (by simp (disch := first | omega | (simp only [List.length_map, List.length_append, List.length_set, List.length_cons, List.length_nil]; omega)) only [go_sem, ↓reduceIte, Nat.reduceEqDiff, reduceCtorEq, toNat_add4]; rfl) ?_
   obtain rfl : k = 4 := by omega
   have lq2 := hget_lt q2
   have lq3 := hget_lt q3
   have lq4 := hget_lt q4
   have lq6 := hget_lt q6
   refine A_store ty49 (by simp (disch := first | omega | (simp only [List.length_map, List.length_append, List.length_set, List.length_cons, List.length_nil]; omega)) only [go_sem, ↓reduceIte, Nat.reduceEqDiff, reduceCtorEq] <;> rfl) (by simp (disch := first | omega | (simp only [List.length_map, List.length_append, List.length_set, List.length_cons, List.length_nil]; omega)) only [go_sem, ↓reduceIte, Nat.reduceEqDiff, reduceCtorEq] <;> rfl) q6 ⟨by omega, rfl, by simp only [List.length_map]; omega⟩ (k' := (l2.set (i + 4) c).map u6) (by show List.set _ _ _ = _; rw [List.map_set]) ?_
   intro H7 w7
   have tr : ∀ a b c d e f g h i j k m n o p q r : AV, let l := lc_times_ok a b c d e f g h i j k m n; trim ((45,r)::(44,q)::(43,p)::(42,o)::l) l = [(0,a),(1,b),(2,c),(3,d),(4,e),(5,f),(6,g),(7,h),(8,i),(9,j),(10,k),(12,m),(16,n)] := by intros; rfl
   refine R_nil (tr ..) ?_; clear tr
   refine blk_n ?_
   refine then_n ?_
   refine rg rfl ?_
   refine Rq ?_
   refine Rq ?_
   refine Rq ?_
   have tr : ∀ a b c d e f g h i j k m n o p q : AV, let l := lc_times_ok a b c d e f g h i j k m n; trim ((7,q)::(14,p)::(13,o)::l) l = [(0,a),(1,b),(2,c),(3,d),(4,e),(5,f),(6,g),(7,q),(8,i),(9,j),(10,k),(12,m),(16,n)] := by intros; rfl
   refine R_nil (tr ..) ?_; clear tr
   refine then_n ?_
   exact ⟨_, _, ⟨i + 1, l2.set (i + 4) c, _, _, _, _, _, rfl, rfl, by omega, by exact w7.old _ (by omega) |>.trans q2, by exact w7.old _ (by omega) |>.trans q3, by exact w7.old _ (by omega) |>.trans q4, by exact w7.new, by (rw [List.length_set]; exact hl2), by (intro j hj; rw [gt_set _ _ _ _ (by omega)]; split; exact hc; exact hr2 j hj), by (intro j hj; rw [gt_set _ _ _ _ (by omega), if_neg (by omega)]; exact hz2 j (by omega)), by exact times_row hK hl2 (by omega) (hz2 _ (Nat.le_refl _)) hv2⟩, by rfl, by omega⟩
 ·
  try simp only [decide_eq_true_eq, decide_eq_false_iff_not, decide_eq_decide, Bool.not_eq_true', Bool.not_eq_false', beq_iff_eq, beq_eq_false_iff_ne, ne_eq, Bool.and_eq_true, Bool.and_eq_false_iff, decide_not] at h1
  refine at_exit rfl ?_
  refine then_x ?_
  refine then_x ?_
  refine blk_x ?_
  refine then_n ?_
  refine at_seq rfl ?_
  refine rl rfl rfl ?_
  obtain rfl : i = 4 := by omega
  have hP := times_end hM hv
  obtain ⟨x0, x1, x2, x3, x4, x5, x6, x7, rfl⟩ := eight hl
  have b0 : 0 ≤ x0 ∧ x0 ≤ 4294967295 := hr 0 (by decide)
  have b1 : 0 ≤ x1 ∧ x1 ≤ 4294967295 := hr 1 (by decide)
  have b2 : 0 ≤ x2 ∧ x2 ≤ 4294967295 := hr 2 (by decide)
  have b3 : 0 ≤ x3 ∧ x3 ≤ 4294967295 := hr 3 (by decide)
  have b4 : 0 ≤ x4 ∧ x4 ≤ 4294967295 := hr 4 (by decide)
  have b5 : 0 ≤ x5 ∧ x5 ≤ 4294967295 := hr 5 (by decide)
  have b6 : 0 ≤ x6 ∧ x6 ≤ 4294967295 := hr 6 (by decide)
  have b7 : 0 ≤ x7 ∧ x7 ≤ 4294967295 := hr 7 (by decide)
  simp only [val] at hP
  obtain ⟨P, hPP⟩ : ∃ P, P = M * K := ⟨_, rfl⟩
  rw [← hPP] at hP ⊢
  have q6 : hget HO H3.length = some [u6 x0, u6 x1, u6 x2, u6 x3, u6 x4, u6 x5, u6 x6, u6 x7] := q6
  have q4 : hget HO H2.length = some [u6 0, u6 0, u6 0, u6 0] := q4
  refine Lq ?_
  refine L_q rfl (by simp (disch := first | omega | (simp only [List.length_map, List.length_append, List.length_set, List.length_cons, List.length_nil]; omega)) only [go_sem, ↓reduceIte, Nat.reduceEqDiff, reduceCtorEq, q6]; rfl) rfl ?_
  refine Lq ?_
  refine L_q rfl (by simp (disch := first | omega | (simp only [List.length_map, List.length_append, List.length_set, List.length_cons, List.length_nil]; omega)) only [go_sem, ↓reduceIte, Nat.reduceEqDiff, reduceCtorEq, q6]; rfl) rfl ?_
  refine Lq ?_
  refine L_q rfl (by simp (disch := first | omega | (simp only [List.length_map, List.length_append, List.length_set, List.length_cons, List.length_nil]; omega)) only [go_sem, ↓reduceIte, Nat.reduceEqDiff, reduceCtorEq, q6]; rfl) rfl ?_
  refine Lq ?_
  refine L_q rfl (by simp (disch := first | omega | (simp only [List.length_map, List.length_append, List.length_set, List.length_cons, List.length_nil]; omega)) only [go_sem, ↓reduceIte, Nat.reduceEqDiff, reduceCtorEq, q6]; rfl) rfl ?_
  refine Lq ?_
  refine Lq ?_
  refine L_q rfl (by simp (disch := first | omega | (simp only [List.length_map, List.length_append, List.length_set, List.length_cons, List.length_nil]; omega)) only [go_sem, ↓reduceIte, Nat.reduceEqDiff, reduceCtorEq, q6]; rfl) rfl ?_
  refine Lq ?_
  refine Lq ?_
  refine Lp_split (fun h3 => ?_) (fun h3 => ?_)
  ·
   try simp only [decide_eq_true_eq, decide_eq_false_iff_not, decide_eq_decide, Bool.not_eq_true', Bool.not_eq_false', beq_iff_eq, beq_eq_false_iff_ne, ne_eq, Bool.and_eq_true, Bool.and_eq_false_iff, decide_not] at h3
   refine Ly ?_
   refine Lq ?_
   refine Ly ?_
   refine L_q rfl (by simp (disch := first | omega | (simp only [List.length_map, List.length_append, List.length_set, List.length_cons, List.length_nil]; omega)) only [go_sem, ↓reduceIte, Nat.reduceEqDiff, reduceCtorEq, q6]; rfl) rfl ?_
   refine Ly ?_
   refine Lq ?_
   refine Lq ?_
   refine Lq ?_
   refine Lp_split (fun h4 => ?_) (fun h4 => ?_)
   ·
    try simp only [decide_eq_true_eq, decide_eq_false_iff_not, decide_eq_decide, Bool.not_eq_true', Bool.not_eq_false', beq_iff_eq, beq_eq_false_iff_ne, ne_eq, Bool.and_eq_true, Bool.and_eq_false_iff, decide_not] at h4
    refine Ly ?_
    refine Lq ?_
    refine Ly ?_
    refine L_q rfl (by simp (disch := first | omega | (simp only [List.length_map, List.length_append, List.length_set, List.length_cons, List.length_nil]; omega)) only [go_sem, ↓reduceIte, Nat.reduceEqDiff, reduceCtorEq, q6]; rfl) rfl ?_
    refine Ly ?_
    refine Lq ?_
    refine Lq ?_
    refine Lq ?_
    refine Lp_split (fun h5 => ?_) (fun h5 => ?_)
    ·
     try simp only [decide_eq_true_eq, decide_eq_false_iff_not, decide_eq_decide, Bool.not_eq_true', Bool.not_eq_false', beq_iff_eq, beq_eq_false_iff_ne, ne_eq, Bool.and_eq_true, Bool.and_eq_false_iff, decide_not] at h5
     refine Ly ?_
     refine Lq ?_
     refine Ly ?_
     refine L_q rfl (by simp (disch := first | omega | (simp only [List.length_map, List.length_append, List.length_set, List.length_cons, List.length_nil]; omega)) only [go_sem, ↓reduceIte, Nat.reduceEqDiff, reduceCtorEq, q6]; rfl) rfl ?_
     refine Ly ?_
     refine Lq ?_
     refine Lq ?_
     refine L_nil ?_
     refine Ms ?_ (wrC_store (by first | rfl | (simp (disch := first | omega | (simp only [List.length_map, List.length_append, List.length_set, List.length_cons, List.length_nil]; omega)) only [go_sem, ↓reduceIte, Nat.reduceEqDiff, reduceCtorEq] <;> rfl)) (by simp only [rdV, isLoad, go_sem, ↓reduceIte, Nat.reduceEqDiff, List.mem_cons, List.not_mem_nil, or_false, List.append_nil, List.nil_append, List.cons_append, not_or]; omega))
     refine A_store ty95 (by simp (disch := first | omega | (simp only [List.length_map, List.length_append, List.length_set, List.length_cons, List.length_nil]; omega)) only [go_sem, ↓reduceIte, Nat.reduceEqDiff, reduceCtorEq] <;> rfl) (by simp (disch := first | omega | (simp only [List.length_map, List.length_append, List.length_set, List.length_cons, List.length_nil]; omega)) only [go_sem, ↓reduceIte, Nat.reduceEqDiff, reduceCtorEq] <;> rfl) q4 ⟨by omega, rfl, by decide⟩ (k' := [u6 x0, u6 x1, u6 x2, u6 x3]) rfl ?_
     intro H8 w8
     have q8 := w8.new
     refine R_end ?_
     refine M_nil ?_
     refine Rq ?_
     have tr : ∀ a b c d e f g h i j k m n o p q r s t u v w x y z A B C D E F G H I J K L M N O P : AV, let l := lc_times_ok a b c d e f g h i j k m n; trim ((5,P)::(72,O)::(71,N)::(70,M)::(69,L)::(68,K)::(67,J)::(66,I)::(65,H)::(64,G)::(63,F)::(62,E)::(61,D)::(60,C)::(59,B)::(58,A)::(57,z)::(56,y)::(55,x)::(54,w)::(53,v)::(52,u)::(51,t)::(50,s)::(49,r)::(48,q)::(47,p)::(46,o)::l) l = [(0,a),(1,b),(2,c),(3,d),(4,e),(5,P),(6,g),(7,h),(8,i),(9,j),(10,k),(12,m),(16,n)] := by intros; rfl
     refine R_nil (tr ..) ?_; clear tr
     refine then_n ?_
     refine at_ret rfl ?_
     refine fin_pure (rs := [.cell 4 95, .tmp 5]) rfl (by first | (simp (disch := first | omega | (simp only [List.length_map, List.length_append, List.length_set, List.length_cons, List.length_nil]; omega)) only [go_sem, ↓reduceIte, Nat.reduceEqDiff, reduceCtorEq, q8] <;> rfl) | rfl) (by first | rfl | (simp (disch := first | omega | (simp only [List.length_map, List.length_append, List.length_set, List.length_cons, List.length_nil]; omega)) only [go_sem, ↓reduceIte, Nat.reduceEqDiff, reduceCtorEq] <;> rfl)) ?_
     refine ⟨?_, rfl⟩
     exact tupL (by omega) (by omega) (by omega) (by omega) (by first | (exact (decide_eq_true (by omega)).symm) | (exact (decide_eq_false (by omega)).symm) | (rw [Bool.eq_iff_iff]; simp only [beq_iff_eq, decide_eq_true_eq]; omega) | (simp; omega))
    ·
     try simp only [decide_eq_true_eq, decide_eq_false_iff_not, decide_eq_decide, Bool.not_eq_true', Bool.not_eq_false', beq_iff_eq, beq_eq_false_iff_ne, ne_eq, Bool.and_eq_true, Bool.and_eq_false_iff, decide_not] at h5
     refine Ln ?_
     refine Ln ?_
     refine Ln ?_
     refine Lq ?_
     refine L_nil ?_
     refine Ms ?_ (wrC_store (by first | rfl | (simp (disch := first | omega | (simp only [List.length_map, List.length_append, List.length_set, List.length_cons, List.length_nil]; omega)) only [go_sem, ↓reduceIte, Nat.reduceEqDiff, reduceCtorEq] <;> rfl)) (by simp only [rdV, isLoad, go_sem, ↓reduceIte, Nat.reduceEqDiff, List.mem_cons, List.not_mem_nil, or_false, List.append_nil, List.nil_append, List.cons_append, not_or]; omega))
     refine A_store ty95 (by simp (disch := first | omega | (simp only [List.length_map, List.length_append, List.length_set, List.length_cons, List.length_nil]; omega)) only [go_sem, ↓reduceIte, Nat.reduceEqDiff, reduceCtorEq] <;> rfl) (by simp (disch := first | omega | (simp only [List.length_map, List.length_append, List.length_set, List.length_cons, List.length_nil]; omega)) only [go_sem, ↓reduceIte, Nat.reduceEqDiff, reduceCtorEq] <;> rfl) q4 ⟨by omega, rfl, by decide⟩ (k' := [u6 x0, u6 x1, u6 x2, u6 x3]) rfl ?_
     intro H8 w8
     have q8 := w8.new
     refine R_end ?_
     refine M_nil ?_
     refine Rq ?_
     have tr : ∀ a b c d e f g h i j k m n o p q r s t u v w x y z A B C D E F G H I J K L M N O P : AV, let l := lc_times_ok a b c d e f g h i j k m n; trim ((5,P)::(72,O)::(71,N)::(70,M)::(69,L)::(68,K)::(67,J)::(66,I)::(65,H)::(64,G)::(63,F)::(62,E)::(61,D)::(60,C)::(59,B)::(58,A)::(57,z)::(56,y)::(55,x)::(54,w)::(53,v)::(52,u)::(51,t)::(50,s)::(49,r)::(48,q)::(47,p)::(46,o)::l) l = [(0,a),(1,b),(2,c),(3,d),(4,e),(5,P),(6,g),(7,h),(8,i),(9,j),(10,k),(12,m),(16,n)] := by intros; rfl
     refine R_nil (tr ..) ?_; clear tr
     refine then_n ?_
     refine at_ret rfl ?_
     refine fin_pure (rs := [.cell 4 95, .tmp 5]) rfl (by first | (simp (disch := first | omega | (simp only [List.length_map, List.length_append, List.length_set, List.length_cons, List.length_nil]; omega)) only [go_sem, ↓reduceIte, Nat.reduceEqDiff, reduceCtorEq, q8] <;> rfl) | rfl) (by first | rfl | (simp (disch := first | omega | (simp only [List.length_map, List.length_append, List.length_set, List.length_cons, List.length_nil]; omega)) only [go_sem, ↓reduceIte, Nat.reduceEqDiff, reduceCtorEq] <;> rfl)) ?_
     refine ⟨?_, rfl⟩
     exact tupL (by omega) (by omega) (by omega) (by omega) (by first | (exact (decide_eq_true (by omega)).symm) | (exact (decide_eq_false (by omega)).symm) | (rw [Bool.eq_iff_iff]; simp only [beq_iff_eq, decide_eq_true_eq]; omega) | (simp; omega))
   ·
    try simp only [decide_eq_true_eq, decide_eq_false_iff_not, decide_eq_decide, Bool.not_eq_true', Bool.not_eq_false', beq_iff_eq, beq_eq_false_iff_ne, ne_eq, Bool.and_eq_true, Bool.and_eq_false_iff, decide_not] at h4
    refine Ln ?_
    refine Ln ?_
    refine Ln ?_
    refine Lq ?_
    refine Lq ?_
    refine Ln ?_
    refine Ln ?_
    refine Ln ?_
    refine Lq ?_
    refine L_nil ?_
    refine Ms ?_ (wrC_store (by first | rfl | (simp (disch := first | omega | (simp only [List.length_map, List.length_append, List.length_set, List.length_cons, List.length_nil]; omega)) only [go_sem, ↓reduceIte, Nat.reduceEqDiff, reduceCtorEq] <;> rfl)) (by simp only [rdV, isLoad, go_sem, ↓reduceIte, Nat.reduceEqDiff, List.mem_cons, List.not_mem_nil, or_false, List.append_nil, List.nil_append, List.cons_append, not_or]; omega))
    refine A_store ty95 (by simp (disch := first | omega | (simp only [List.length_map, List.length_append, List.length_set, List.length_cons, List.length_nil]; omega)) only [go_sem, ↓reduceIte, Nat.reduceEqDiff, reduceCtorEq] <;> rfl) (by simp (disch := first | omega | (simp only [List.length_map, List.length_append, List.length_set, List.length_cons, List.length_nil]; omega)) only [go_sem, ↓reduceIte, Nat.reduceEqDiff, reduceCtorEq] <;> rfl) q4 ⟨by omega, rfl, by decide⟩ (k' := [u6 x0, u6 x1, u6 x2, u6 x3]) rfl ?_
    intro H8 w8
    have q8 := w8.new
    refine R_end ?_
    refine M_nil ?_
    refine Rq ?_
    have tr : ∀ a b c d e f g h i j k m n o p q r s t u v w x y z A B C D E F G H I J K L M N O P : AV, let l := lc_times_ok a b c d e f g h i j k m n; trim ((5,P)::(72,O)::(71,N)::(70,M)::(69,L)::(68,K)::(67,J)::(66,I)::(65,H)::(64,G)::(63,F)::(62,E)::(61,D)::(60,C)::(59,B)::(58,A)::(57,z)::(56,y)::(55,x)::(54,w)::(53,v)::(52,u)::(51,t)::(50,s)::(49,r)::(48,q)::(47,p)::(46,o)::l) l = [(0,a),(1,b),(2,c),(3,d),(4,e),(5,P),(6,g),(7,h),(8,i),(9,j),(10,k),(12,m),(16,n)] := by intros; rfl
    refine R_nil (tr ..) ?_; clear tr
    refine then_n ?_
    refine at_ret rfl ?_
    refine fin_pure (rs := [.cell 4 95, .tmp 5]) rfl (by first | (simp (disch := first | omega | (simp only [List.length_map, List.length_append, List.length_set, List.length_cons, List.length_nil]; omega)) only [go_sem, ↓reduceIte, Nat.reduceEqDiff, reduceCtorEq, q8] <;> rfl) | rfl) (by first | rfl | (simp (disch := first | omega | (simp only [List.length_map, List.length_append, List.length_set, List.length_cons, List.length_nil]; omega)) only [go_sem, ↓reduceIte, Nat.reduceEqDiff, reduceCtorEq] <;> rfl)) ?_
    refine ⟨?_, rfl⟩
    exact tupL (by omega) (by omega) (by omega) (by omega) (by first | (exact (decide_eq_true (by omega)).symm) | (exact (decide_eq_false (by omega)).symm) | (rw [Bool.eq_iff_iff]; simp only [beq_iff_eq, decide_eq_true_eq]; omega) | (simp; omega))
  ·
   try simp only [decide_eq_true_eq, decide_eq_false_iff_not, decide_eq_decide, Bool.not_eq_true', Bool.not_eq_false', beq_iff_eq, beq_eq_false_iff_ne, ne_eq, Bool.and_eq_true, Bool.and_eq_false_iff, decide_not] at h3
   refine Ln ?_
   refine Ln ?_
   refine Ln ?_
   refine Lq ?_
   refine Lq ?_
   refine Ln ?_
   refine Ln ?_
   refine Ln ?_
   refine Lq ?_
   refine Lq ?_
   refine Ln ?_
   refine Ln ?_
   refine Ln ?_
   refine Lq ?_
   refine L_nil ?_
   refine Ms ?_ (wrC_store (by first | rfl | (simp (disch := first | omega | (simp only [List.length_map, List.length_append, List.length_set, List.length_cons, List.length_nil]; omega)) only [go_sem, ↓reduceIte, Nat.reduceEqDiff, reduceCtorEq] <;> rfl)) (by simp only [rdV, isLoad, go_sem, ↓reduceIte, Nat.reduceEqDiff, List.mem_cons, List.not_mem_nil, or_false, List.append_nil, List.nil_append, List.cons_append, not_or]; omega))
   refine A_store ty95 (by simp (disch := first | omega | (simp only [List.length_map, List.length_append, List.length_set, List.length_cons, List.length_nil]; omega)) only [go_sem, ↓reduceIte, Nat.reduceEqDiff, reduceCtorEq] <;> rfl) (by simp (disch := first | omega | (simp only [List.length_map, List.length_append, List.length_set, List.length_cons, List.length_nil]; omega)) only [go_sem, ↓reduceIte, Nat.reduceEqDiff, reduceCtorEq] <;> rfl) q4 ⟨by omega, rfl, by decide⟩ (k' := [u6 x0, u6 x1, u6 x2, u6 x3]) rfl ?_
   intro H8 w8
   have q8 := w8.new
   refine R_end ?_
   refine M_nil ?_
   refine Rq ?_
   have tr : ∀ a b c d e f g h i j k m n o p q r s t u v w x y z A B C D E F G H I J K L M N O P : AV, let l := lc_times_ok a b c d e f g h i j k m n; trim ((5,P)::(72,O)::(71,N)::(70,M)::(69,L)::(68,K)::(67,J)::(66,I)::(65,H)::(64,G)::(63,F)::(62,E)::(61,D)::(60,C)::(59,B)::(58,A)::(57,z)::(56,y)::(55,x)::(54,w)::(53,v)::(52,u)::(51,t)::(50,s)::(49,r)::(48,q)::(47,p)::(46,o)::l) l = [(0,a),(1,b),(2,c),(3,d),(4,e),(5,P),(6,g),(7,h),(8,i),(9,j),(10,k),(12,m),(16,n)] := by intros; rfl
   refine R_nil (tr ..) ?_; clear tr
   refine then_n ?_
   refine at_ret rfl ?_
   refine fin_pure (rs := [.cell 4 95, .tmp 5]) rfl (by first | (simp (disch := first | omega | (simp only [List.length_map, List.length_append, List.length_set, List.length_cons, List.length_nil]; omega)) only [go_sem, ↓reduceIte, Nat.reduceEqDiff, reduceCtorEq, q8] <;> rfl) | rfl) (by first | rfl | (simp (disch := first | omega | (simp only [List.length_map, List.length_append, List.length_set, List.length_cons, List.length_nil]; omega)) only [go_sem, ↓reduceIte, Nat.reduceEqDiff, reduceCtorEq] <;> rfl)) ?_
   refine ⟨?_, rfl⟩
   exact tupL (by omega) (by omega) (by omega) (by omega) (by first | (exact (decide_eq_true (by omega)).symm) | (exact (decide_eq_false (by omega)).symm) | (rw [Bool.eq_iff_iff]; simp only [beq_iff_eq, decide_eq_true_eq]; omega) | (simp; omega))

end Go.Proofs.YtfnapmdedmbdbaaDoor
