/-
  Walks of chapter 2. The steps are written by program (walk.py).
-/
import Derived.Test.YtokhmkkifmhfmaaDoorD128
set_option linter.unusedSimpArgs false
set_option linter.unusedVariables false
set_option maxHeartbeats 1000000
set_option maxRecDepth 20000
namespace Go.Proofs.YtokhmkkifmhfmaaDoor
open Go Go.Am
theorem tupV {m r s : Int} (h : r = s) : AV.tup [.agg [u6 (m % 4294967296), u6 (m / 4294967296 % 4294967296), u6 (m / 18446744073709551616 % 4294967296), u6 (m / 79228162514264337593543950336 % 4294967296)], u6 r] = AV.tup [lv m, u6 s] := by rw [h]; rfl
abbrev lc_divide_ok (a b c d e f g h i j k : AV) : Env := [(0,a),(1,b),(2,c),(4,d),(5,e),(6,f),(7,g),(8,h),(9,i),(11,j),(33,k)]
theorem divide_ok (lim : Nat) (H : Heap) (M D : Nat) (hM : M < 340282366920938463463374607431768211456) (hD : 0 < D) (hD1 : D < 18446744073709551616) : ACall sig lim 42 [lv (M : Int), u6 (D : Int)] H fun r H' => r = .tup [lv ((M / D : Nat) : Int), u6 ((M % D : Nat) : Int)] ∧ H' = H := by
 refine ACall_pure (fa := fa42) rfl rfl rfl rfl ?_
 have tr : ∀ a0 a1 : AV, env0 fa42.keep [a0, a1] = [(0,a0),(1,a1),(2,.any),(4,.any),(5,.any),(6,.any),(7,.any),(8,.any),(9,.any),(11,.any),(33,.any)] := fun a0 a1 => rfl
 refine W_to (tr _ _) ?_; clear tr
 refine at_seq rfl ?_
 refine rg rfl ?_
 refine A_box rfl (by simp (disch := first | omega | (simp only [List.length_map, List.length_append, List.length_set, List.length_cons, List.length_nil]; omega)) only [go_sem, ↓reduceIte, Nat.reduceEqDiff, reduceCtorEq]; rfl) ?_
 intro H1 n1
 have en1 := n1.len
 have q1 := n1.new
 refine A_alloc rfl ?_
 intro H2 n2
 have en2 := n2.len
 have q1 := (n2.old _ (hget_lt q1)).trans q1
 have q2 := n2.new
 refine Rq ?_
 have tr : ∀ a b c d e f g h i j k m n o : AV, let l := lc_divide_ok a b c d e f g h i j k; trim ((5,o)::(4,n)::(2,m)::l) l = [(0,a),(1,b),(2,m),(4,n),(5,o),(6,f),(7,g),(8,h),(9,i),(11,j),(33,k)] := by intros; rfl
 refine R_nil (tr ..) ?_; clear tr
 refine then_n ?_
 refine at_seq rfl ?_
 refine rg rfl ?_
 refine A_alloc rfl ?_
 intro H3 n3
 have en3 := n3.len
 have q1 := (n3.old _ (hget_lt q1)).trans q1
 have q2 := (n3.old _ (hget_lt q2)).trans q2
 have q3 := n3.new
 have tr : ∀ a b c d e f g h i j k m : AV, let l := lc_divide_ok a b c d e f g h i j k; trim ((6,m)::l) l = [(0,a),(1,b),(2,c),(4,d),(5,e),(6,m),(7,g),(8,h),(9,i),(11,j),(33,k)] := by intros; rfl
 refine R_nil (tr ..) ?_; clear tr
 refine then_n ?_
 refine at_seq rfl ?_
 refine rg rfl ?_
 refine Rq ?_
 have tr : ∀ a b c d e f g h i j k m : AV, let l := lc_divide_ok a b c d e f g h i j k; trim ((7,m)::l) l = [(0,a),(1,b),(2,c),(4,d),(5,e),(6,f),(7,m),(8,h),(9,i),(11,j),(33,k)] := by intros; rfl
 refine R_nil (tr ..) ?_; clear tr
 refine then_n ?_
 refine at_seq rfl ?_
 refine at_seq rfl ?_
 refine rg rfl ?_
 refine Rq ?_
 have tr : ∀ a b c d e f g h i j k m : AV, let l := lc_divide_ok a b c d e f g h i j k; trim ((8,m)::l) l = [(0,a),(1,b),(2,c),(4,d),(5,e),(6,f),(7,g),(8,m),(9,i),(11,j),(33,k)] := by intros; rfl
 refine R_nil (tr ..) ?_; clear tr
 refine then_n ?_
 refine at_block rfl ?_
 refine loop_n rfl (fun mm kv H' => ∃ c : Nat, ∃ i : Int, ∃ w : Int, ∃ x9 x11 x33 : AV, (kv = [(7, u6 w), (8, AV.i i), (9, x9), (11, x11), (33, x33)]) ∧ (mm = c * 1) ∧ (c ≤ 128) ∧ (i = (c : Int) - 1) ∧ (w = ((M / 2 ^ c % D : Nat) : Int)) ∧ (hget H' H.length = some ((lm (M : Int)).map u6)) ∧ (hget H' H1.length = some ([0, 0, 0, 0].map u6)) ∧ (hget H' H2.length = some ((lm ((M / 2 ^ c / D * 2 ^ c : Nat) : Int)).map u6))) ⟨128, 127, 0, _, _, _, rfl, rfl, by omega, by omega, by (rw [Nat.div_eq_of_lt (show M < 2 ^ 128 by omega), Nat.zero_mod]; rfl), by exact q1, by exact q2, by (rw [Nat.div_eq_of_lt (show M < 2 ^ 128 by omega), Nat.zero_div, Nat.zero_mul]; exact q3)⟩ (by rfl) ?_
 rintro mm kv HO ⟨c, i, w, x9, x11, x33, rfl, rfl, hc, hi, hw, q1, q2, q3⟩
 have tr : ∀ a b c d e f g h i j k m n o p q : AV, upd [(0,a),(1,b),(2,c),(4,d),(5,e),(6,f),(7,g),(8,h),(9,i),(11,j),(33,k)] [(7,m),(8,n),(9,o),(11,p),(33,q)] = [(0,a),(1,b),(2,c),(4,d),(5,e),(6,f),(7,m),(8,n),(9,o),(11,p),(33,q)] := by intros; rfl
 refine W_to (tr ..) ?_; clear tr
 subst hi hw
 have lq1 := hget_lt q1
 have lq2 := hget_lt q2
 have lq3 := hget_lt q3
 refine at_seq rfl ?_
 refine at_seq rfl ?_
 refine rg rfl ?_
 refine Rq ?_
 refine Rq ?_
 have tr : ∀ a b c d e f g h i j k m n : AV, let l := lc_divide_ok a b c d e f g h i j k; trim ((11,n)::(10,m)::l) l = [(0,a),(1,b),(2,c),(4,d),(5,e),(6,f),(7,g),(8,h),(9,i),(11,n),(33,k)] := by intros; rfl
 refine R_nil (tr ..) ?_; clear tr
 refine then_n ?_
 refine cdd (fun h1 => ?_) (fun h1 => ?_)
 ·
  try simp only [decide_eq_true_eq, decide_eq_false_iff_not, decide_eq_decide, Bool.not_eq_true', Bool.not_eq_false', beq_iff_eq, beq_eq_false_iff_ne, ne_eq, Bool.and_eq_true, Bool.and_eq_false_iff, decide_not] at h1
  refine at_skip rfl ?_
  refine then_n ?_
  refine at_seq rfl ?_
  refine at_block rfl ?_
  refine at_seq rfl ?_
  refine rg rfl ?_
  obtain ⟨e, rfl⟩ : ∃ e, c = e + 1 := ⟨c - 1, by omega⟩
  rw [show (((e + 1 : Nat) : Int) - 1) = (e : Int) by omega]
  obtain ⟨r, t, er, et, hrD, hge, hlt⟩ := dv_step M D e (by omega)
  rw [← er]
  have hb2 : M / 2 ^ e % 2 < 2 := Nat.mod_lt _ (by decide)
  obtain ⟨b, eb⟩ : ∃ b, b = M / 2 ^ e % 2 := ⟨_, rfl⟩
  have hbit := bit_lm M e (by omega)
  rw [← eb] at et hb2 hbit
  have hla : (lm (M : Int)).length = 4 := rfl
  have hlr := lm_rng (M : Int) (e / 32) (by omega)
  obtain ⟨x, ex⟩ : ∃ x, x = gt (lm (M : Int)) (e / 32) := ⟨_, rfl⟩
  rw [← ex] at hbit hlr
  have hx2 := Int.ediv_nonneg hlr.1 (show (0 : Int) ≤ 2 ^ (e % 32) from Int.le_of_lt (Int.pow_pos (by decide)))
  have hx3 := Int.ediv_le_self (2 ^ (e % 32)) hlr.1
  refine Rq ?_
  refine R_q (r := u6 ((r : Int) / 9223372036854775808)) rfl (by simp only [go_sem, ↓reduceIte, Nat.reduceEqDiff]; exact shr63u _ 22 _) ?_
  refine Rq ?_
  have tr : ∀ a b c d e f g h i j k m n o : AV, let l := lc_divide_ok a b c d e f g h i j k; trim ((9,o)::(15,n)::(14,m)::l) l = [(0,a),(1,b),(2,c),(4,d),(5,e),(6,f),(7,g),(8,h),(9,o),(11,j),(33,k)] := by intros; rfl
  refine R_nil (tr ..) ?_; clear tr
  refine then_n ?_
  refine at_seq rfl ?_
  refine rg rfl ?_
  refine Rq ?_
  refine R_q (r := u6 ((r : Int) * 2 % 18446744073709551616)) rfl (by simp only [go_sem, ↓reduceIte, Nat.reduceEqDiff]; exact shl1 _ 22 _) ?_
  refine Rq ?_
  refine R_q (r := AV.i ((e / 32 : Nat) : Int)) rfl (by simp (disch := first | omega | (simp only [List.length_map, List.length_append, List.length_set, List.length_cons, List.length_nil]; omega)) only [go_sem, ↓reduceIte, Nat.reduceEqDiff, reduceCtorEq] <;> exact congrArg (fun z => some (AV.i z)) (by omega)) ?_
  refine Rq ?_
  refine R_q (r := u6 x) rfl (by simp (disch := first | omega | (simp only [List.length_map, List.length_append, List.length_set, List.length_cons, List.length_nil]; omega)) only [go_sem, ↓reduceIte, Nat.reduceEqDiff, reduceCtorEq, q1, ← ex]) ?_
  refine Rq ?_
  refine R_q (r := AV.i ((e % 32 : Nat) : Int)) rfl (by simp (disch := first | omega | (simp only [List.length_map, List.length_append, List.length_set, List.length_cons, List.length_nil]; omega)) only [go_sem, ↓reduceIte, Nat.reduceEqDiff, reduceCtorEq] <;> exact congrArg (fun z => some (AV.i z)) (by omega)) ?_
  refine R_q (r := u6 (x / 2 ^ (e % 32))) rfl (by simp only [go_sem, ↓reduceIte, Nat.reduceEqDiff]; exact shr_u6 x (e % 32) (by omega) 22 _) ?_
  refine R_q (r := u6 (b : Int)) rfl (by simp only [go_sem, ↓reduceIte, Nat.reduceEqDiff]; rw [and1 _ hx2 (by omega) 22, hbit]) ?_
  refine R_q (r := u6 ((r : Int) * 2 % 18446744073709551616 + (b : Int))) rfl (by simp only [go_sem, ↓reduceIte, Nat.reduceEqDiff]; exact or1 _ _ (by omega) (by omega) 22) ?_
  refine Rq ?_
  have tr : ∀ a b c d e f g h i j k m n o p q r s t u v w x : AV, let l := lc_divide_ok a b c d e f g h i j k; trim ((7,x)::(26,w)::(25,v)::(24,u)::(23,t)::(22,s)::(21,r)::(20,q)::(19,p)::(18,o)::(17,n)::(16,m)::l) l = [(0,a),(1,b),(2,c),(4,d),(5,e),(6,f),(7,x),(8,h),(9,i),(11,j),(33,k)] := by intros; rfl
  refine R_nil (tr ..) ?_; clear tr
  refine then_n ?_
  refine at_seq rfl ?_
  refine rg rfl ?_
  refine Rq ?_
  refine Rq ?_
  refine Rq ?_
  refine Rp_split (fun h2 => ?_) (fun h2 => ?_)
  ·
   try simp only [decide_eq_true_eq, decide_eq_false_iff_not, decide_eq_decide, Bool.not_eq_true', Bool.not_eq_false', beq_iff_eq, beq_eq_false_iff_ne, ne_eq, Bool.and_eq_true, Bool.and_eq_false_iff, decide_not] at h2
   refine Rn ?_
   refine Rn ?_
   refine Rn ?_
   refine Rq ?_
   have tr : ∀ a b c d e f g h i j k m n o p q r s : AV, let l := lc_divide_ok a b c d e f g h i j k; trim ((33,s)::(32,r)::(31,q)::(30,p)::(29,o)::(28,n)::(27,m)::l) l = [(0,a),(1,b),(2,c),(4,d),(5,e),(6,f),(7,g),(8,h),(9,i),(11,j),(33,s)] := by intros; rfl
   refine R_nil (tr ..) ?_; clear tr
   refine then_n ?_
   refine cdt ?_
   refine at_seq rfl ?_
   refine rg rfl ?_
   have hDt : D ≤ t := by omega
   obtain ⟨e1, e2⟩ := hge hDt
   obtain ⟨m, em, hm1, hm2⟩ := set_bit (M / 2 ^ (e + 1) / D) e (by omega)
   have hqM := Nat.div_mul_le_self (M / 2 ^ e) D
   have hqb : M / 2 ^ (e + 1) / D * 2 ^ (e + 1) < 340282366920938463463374607431768211456 := by
     have h1 : M / 2 ^ (e + 1) / D ≤ M / 2 ^ (e + 1) := Nat.div_le_self _ _
     have h2 : M / 2 ^ (e + 1) * 2 ^ (e + 1) ≤ M := Nat.div_mul_le_self _ _
     have h3 := Nat.mul_le_mul_right (2 ^ (e + 1)) h1
     omega
   have hm3 := hm2 hqb
   have hlq : (lm ((M / 2 ^ (e + 1) / D * 2 ^ (e + 1) : Nat) : Int)).length = 4 := rfl
   refine Rq ?_
   refine Rq ?_
   refine R_q (r := u6 ((M / 2 ^ e % D : Nat) : Int)) rfl (by rw [e1]; simp (disch := first | omega | (simp only [List.length_map, List.length_append, List.length_set, List.length_cons, List.length_nil]; omega)) only [go_sem, ↓reduceIte, Nat.reduceEqDiff, reduceCtorEq] <;> exact congrArg (fun z => some (u6 z)) (by omega)) ?_
   refine Rq ?_
   have tr : ∀ a b c d e f g h i j k m n o p : AV, let l := lc_divide_ok a b c d e f g h i j k; trim ((7,p)::(36,o)::(35,n)::(34,m)::l) l = [(0,a),(1,b),(2,c),(4,d),(5,e),(6,f),(7,p),(8,h),(9,i),(11,j),(33,k)] := by intros; rfl
   refine R_nil (tr ..) ?_; clear tr
   refine then_n ?_
   refine rd rfl rfl ?_
   refine Qq ?_
   refine Q_q (r := AV.i ((e / 32 : Nat) : Int)) rfl (by simp (disch := first | omega | (simp only [List.length_map, List.length_append, List.length_set, List.length_cons, List.length_nil]; omega)) only [go_sem, ↓reduceIte, Nat.reduceEqDiff, reduceCtorEq] <;> exact congrArg (fun z => some (AV.i z)) (by omega)) ?_
   refine Qq ?_
   refine Q_q (r := u6 ((m * 2 ^ (e % 32 + 1) : Nat) : Int)) rfl (by simp (disch := first | omega | (simp only [List.length_map, List.length_append, List.length_set, List.length_cons, List.length_nil]; omega)) only [go_sem, ↓reduceIte, Nat.reduceEqDiff, reduceCtorEq, q3, em]) ?_
   refine Qq ?_
   refine Q_q (r := AV.i ((e % 32 : Nat) : Int)) rfl (by simp (disch := first | omega | (simp only [List.length_map, List.length_append, List.length_set, List.length_cons, List.length_nil]; omega)) only [go_sem, ↓reduceIte, Nat.reduceEqDiff, reduceCtorEq] <;> exact congrArg (fun z => some (AV.i z)) (by omega)) ?_
   refine Q_q (r := u6 ((2 ^ (e % 32) : Nat) : Int)) rfl (by simp only [go_sem, ↓reduceIte, Nat.reduceEqDiff]; exact one_shl (e % 32) (by omega) 22 _) ?_
   refine Q_q (r := u6 ((m * 2 ^ (e % 32 + 1) + 2 ^ (e % 32) : Nat) : Int)) rfl (by simp only [go_sem, ↓reduceIte, Nat.reduceEqDiff]; exact or_bit m (e % 32) hm1 22) ?_
   refine Qq ?_
   refine Q_nil ?_
   refine A_store ty22 (by simp (disch := first | omega | (simp only [List.length_map, List.length_append, List.length_set, List.length_cons, List.length_nil]; omega)) only [go_sem, ↓reduceIte, Nat.reduceEqDiff, reduceCtorEq] <;> rfl) (by simp (disch := first | omega | (simp only [List.length_map, List.length_append, List.length_set, List.length_cons, List.length_nil]; omega)) only [go_sem, ↓reduceIte, Nat.reduceEqDiff, reduceCtorEq] <;> rfl) q3 ⟨by omega, rfl, by simp only [List.length_map]; omega⟩ (k' := (lm ((M / 2 ^ e / D * 2 ^ e : Nat) : Int)).map u6) (by rw [e2, ← hm3, List.map_set]; rfl) ?_
   intro H6 w6
   have tr : ∀ a b c d e f g h i j k m n o p q r s t u : AV, let l := lc_divide_ok a b c d e f g h i j k; trim ((45,u)::(44,t)::(43,s)::(42,r)::(41,q)::(40,p)::(39,o)::(38,n)::(37,m)::l) l = [(0,a),(1,b),(2,c),(4,d),(5,e),(6,f),(7,g),(8,h),(9,i),(11,j),(33,k)] := by intros; rfl
   refine R_nil (tr ..) ?_; clear tr
   refine blk_n ?_
   refine then_n ?_
   refine rg rfl ?_
   refine Rq ?_
   refine Rq ?_
   refine Rq ?_
   have tr : ∀ a b c d e f g h i j k m n o : AV, let l := lc_divide_ok a b c d e f g h i j k; trim ((8,o)::(13,n)::(12,m)::l) l = [(0,a),(1,b),(2,c),(4,d),(5,e),(6,f),(7,g),(8,o),(9,i),(11,j),(33,k)] := by intros; rfl
   refine R_nil (tr ..) ?_; clear tr
   refine then_n ?_
   exact ⟨_, _, ⟨e, (e : Int) - 1, ((M / 2 ^ e % D : Nat) : Int), _, _, _, rfl, rfl, by omega, by rfl, by rfl, by first | exact (w6.old _ (by omega)).trans q1 | exact q1, by first | exact (w6.old _ (by omega)).trans q2 | exact q2, by first | exact w6.new | (rw [e2]; exact q3)⟩, by rfl, by omega⟩
  ·
   try simp only [decide_eq_true_eq, decide_eq_false_iff_not, decide_eq_decide, Bool.not_eq_true', Bool.not_eq_false', beq_iff_eq, beq_eq_false_iff_ne, ne_eq, Bool.and_eq_true, Bool.and_eq_false_iff, decide_not] at h2
   refine Ry ?_
   refine Rq ?_
   refine Ry ?_
   refine Rq ?_
   refine Ry ?_
   refine Rq ?_
   refine Rq ?_
   have tr : ∀ a b c d e f g h i j k m n o p q r s : AV, let l := lc_divide_ok a b c d e f g h i j k; trim ((33,s)::(32,r)::(31,q)::(30,p)::(29,o)::(28,n)::(27,m)::l) l = [(0,a),(1,b),(2,c),(4,d),(5,e),(6,f),(7,g),(8,h),(9,i),(11,j),(33,s)] := by intros; rfl
   refine R_nil (tr ..) ?_; clear tr
   refine then_n ?_
   refine cdd (fun h3 => ?_) (fun h3 => ?_)
   ·
    try simp only [decide_eq_true_eq, decide_eq_false_iff_not, decide_eq_decide, Bool.not_eq_true', Bool.not_eq_false', beq_iff_eq, beq_eq_false_iff_ne, ne_eq, Bool.and_eq_true, Bool.and_eq_false_iff, decide_not] at h3
    refine at_seq rfl ?_
    refine rg rfl ?_
    have hDt : D ≤ t := by omega
    obtain ⟨e1, e2⟩ := hge hDt
    obtain ⟨m, em, hm1, hm2⟩ := set_bit (M / 2 ^ (e + 1) / D) e (by omega)
    have hqM := Nat.div_mul_le_self (M / 2 ^ e) D
    have hqb : M / 2 ^ (e + 1) / D * 2 ^ (e + 1) < 340282366920938463463374607431768211456 := by
      have h1 : M / 2 ^ (e + 1) / D ≤ M / 2 ^ (e + 1) := Nat.div_le_self _ _
      have h2 : M / 2 ^ (e + 1) * 2 ^ (e + 1) ≤ M := Nat.div_mul_le_self _ _
      have h3 := Nat.mul_le_mul_right (2 ^ (e + 1)) h1
      omega
    have hm3 := hm2 hqb
    have hlq : (lm ((M / 2 ^ (e + 1) / D * 2 ^ (e + 1) : Nat) : Int)).length = 4 := rfl
    refine Rq ?_
    refine Rq ?_
    refine R_q (r := u6 ((M / 2 ^ e % D : Nat) : Int)) rfl (by rw [e1]; simp (disch := first | omega | (simp only [List.length_map, List.length_append, List.length_set, List.length_cons, List.length_nil]; omega)) only [go_sem, ↓reduceIte, Nat.reduceEqDiff, reduceCtorEq] <;> exact congrArg (fun z => some (u6 z)) (by omega)) ?_
    refine Rq ?_
    have tr : ∀ a b c d e f g h i j k m n o p : AV, let l := lc_divide_ok a b c d e f g h i j k; trim ((7,p)::(36,o)::(35,n)::(34,m)::l) l = [(0,a),(1,b),(2,c),(4,d),(5,e),(6,f),(7,p),(8,h),(9,i),(11,j),(33,k)] := by intros; rfl
    refine R_nil (tr ..) ?_; clear tr
    refine then_n ?_
    refine rd rfl rfl ?_
    refine Qq ?_
    refine Q_q (r := AV.i ((e / 32 : Nat) : Int)) rfl (by simp (disch := first | omega | (simp only [List.length_map, List.length_append, List.length_set, List.length_cons, List.length_nil]; omega)) only [go_sem, ↓reduceIte, Nat.reduceEqDiff, reduceCtorEq] <;> exact congrArg (fun z => some (AV.i z)) (by omega)) ?_
    refine Qq ?_
    refine Q_q (r := u6 ((m * 2 ^ (e % 32 + 1) : Nat) : Int)) rfl (by simp (disch := first | omega | (simp only [List.length_map, List.length_append, List.length_set, List.length_cons, List.length_nil]; omega)) only [go_sem, ↓reduceIte, Nat.reduceEqDiff, reduceCtorEq, q3, em]) ?_
    refine Qq ?_
    refine Q_q (r := AV.i ((e % 32 : Nat) : Int)) rfl (by simp (disch := first | omega | (simp only [List.length_map, List.length_append, List.length_set, List.length_cons, List.length_nil]; omega)) only [go_sem, ↓reduceIte, Nat.reduceEqDiff, reduceCtorEq] <;> exact congrArg (fun z => some (AV.i z)) (by omega)) ?_
    refine Q_q (r := u6 ((2 ^ (e % 32) : Nat) : Int)) rfl (by simp only [go_sem, ↓reduceIte, Nat.reduceEqDiff]; exact one_shl (e % 32) (by omega) 22 _) ?_
    refine Q_q (r := u6 ((m * 2 ^ (e % 32 + 1) + 2 ^ (e % 32) : Nat) : Int)) rfl (by simp only [go_sem, ↓reduceIte, Nat.reduceEqDiff]; exact or_bit m (e % 32) hm1 22) ?_
    refine Qq ?_
    refine Q_nil ?_
    refine A_store ty22 (by simp (disch := first | omega | (simp only [List.length_map, List.length_append, List.length_set, List.length_cons, List.length_nil]; omega)) only [go_sem, ↓reduceIte, Nat.reduceEqDiff, reduceCtorEq] <;> rfl) (by simp (disch := first | omega | (simp only [List.length_map, List.length_append, List.length_set, List.length_cons, List.length_nil]; omega)) only [go_sem, ↓reduceIte, Nat.reduceEqDiff, reduceCtorEq] <;> rfl) q3 ⟨by omega, rfl, by simp only [List.length_map]; omega⟩ (k' := (lm ((M / 2 ^ e / D * 2 ^ e : Nat) : Int)).map u6) (by rw [e2, ← hm3, List.map_set]; rfl) ?_
    intro H6 w6
    have tr : ∀ a b c d e f g h i j k m n o p q r s t u : AV, let l := lc_divide_ok a b c d e f g h i j k; trim ((45,u)::(44,t)::(43,s)::(42,r)::(41,q)::(40,p)::(39,o)::(38,n)::(37,m)::l) l = [(0,a),(1,b),(2,c),(4,d),(5,e),(6,f),(7,g),(8,h),(9,i),(11,j),(33,k)] := by intros; rfl
    refine R_nil (tr ..) ?_; clear tr
    refine blk_n ?_
    refine then_n ?_
    refine rg rfl ?_
    refine Rq ?_
    refine Rq ?_
    refine Rq ?_
    have tr : ∀ a b c d e f g h i j k m n o : AV, let l := lc_divide_ok a b c d e f g h i j k; trim ((8,o)::(13,n)::(12,m)::l) l = [(0,a),(1,b),(2,c),(4,d),(5,e),(6,f),(7,g),(8,o),(9,i),(11,j),(33,k)] := by intros; rfl
    refine R_nil (tr ..) ?_; clear tr
    refine then_n ?_
    exact ⟨_, _, ⟨e, (e : Int) - 1, ((M / 2 ^ e % D : Nat) : Int), _, _, _, rfl, rfl, by omega, by rfl, by rfl, by first | exact (w6.old _ (by omega)).trans q1 | exact q1, by first | exact (w6.old _ (by omega)).trans q2 | exact q2, by first | exact w6.new | (rw [e2]; exact q3)⟩, by rfl, by omega⟩
   ·
    try simp only [decide_eq_true_eq, decide_eq_false_iff_not, decide_eq_decide, Bool.not_eq_true', Bool.not_eq_false', beq_iff_eq, beq_eq_false_iff_ne, ne_eq, Bool.and_eq_true, Bool.and_eq_false_iff, decide_not] at h3
    refine at_skip rfl ?_
    refine blk_n ?_
    refine then_n ?_
    refine rg rfl ?_
    have hDt : ¬ D ≤ t := by omega
    obtain ⟨e1, e2⟩ := hlt hDt
    rw [show (r : Int) * 2 % 18446744073709551616 + (b : Int) = ((M / 2 ^ e % D : Nat) : Int) by omega]
    refine Rq ?_
    refine Rq ?_
    refine Rq ?_
    have tr : ∀ a b c d e f g h i j k m n o : AV, let l := lc_divide_ok a b c d e f g h i j k; trim ((8,o)::(13,n)::(12,m)::l) l = [(0,a),(1,b),(2,c),(4,d),(5,e),(6,f),(7,g),(8,o),(9,i),(11,j),(33,k)] := by intros; rfl
    refine R_nil (tr ..) ?_; clear tr
    refine then_n ?_
    exact ⟨_, _, ⟨e, (e : Int) - 1, ((M / 2 ^ e % D : Nat) : Int), _, _, _, rfl, rfl, by omega, by rfl, by rfl, by first | exact (w6.old _ (by omega)).trans q1 | exact q1, by first | exact (w6.old _ (by omega)).trans q2 | exact q2, by first | exact w6.new | (rw [e2]; exact q3)⟩, by rfl, by omega⟩
 ·
  try simp only [decide_eq_true_eq, decide_eq_false_iff_not, decide_eq_decide, Bool.not_eq_true', Bool.not_eq_false', beq_iff_eq, beq_eq_false_iff_ne, ne_eq, Bool.and_eq_true, Bool.and_eq_false_iff, decide_not] at h1
  refine at_exit rfl ?_
  refine then_x ?_
  refine then_x ?_
  refine blk_x ?_
  refine then_n ?_
  refine at_seq rfl ?_
  refine rg rfl ?_
  obtain rfl : c = 0 := by omega
  have q3 : hget HO H2.length = some ((lm ((M / D : Nat) : Int)).map u6) := by rw [q3, Nat.pow_zero, Nat.div_one, Nat.mul_one]
  rw [show M / 2 ^ 0 % D = M % D by rw [Nat.pow_zero, Nat.div_one]]
  have q3 : hget HO H2.length = some [u6 (((M / D : Nat) : Int) % 4294967296), u6 (((M / D : Nat) : Int) / 4294967296 % 4294967296), u6 (((M / D : Nat) : Int) / 18446744073709551616 % 4294967296), u6 (((M / D : Nat) : Int) / 79228162514264337593543950336 % 4294967296)] := q3
  have q2 : hget HO H1.length = some [u6 0, u6 0, u6 0, u6 0] := q2
  refine R_q rfl (by simp (disch := first | omega | (simp only [List.length_map, List.length_append, List.length_set, List.length_cons, List.length_nil]; omega)) only [go_sem, ↓reduceIte, Nat.reduceEqDiff, reduceCtorEq, q3]; rfl) ?_
  refine Rq ?_
  refine A_store ty57 (by simp (disch := first | omega | (simp only [List.length_map, List.length_append, List.length_set, List.length_cons, List.length_nil]; omega)) only [go_sem, ↓reduceIte, Nat.reduceEqDiff, reduceCtorEq] <;> rfl) (by simp (disch := first | omega | (simp only [List.length_map, List.length_append, List.length_set, List.length_cons, List.length_nil]; omega)) only [go_sem, ↓reduceIte, Nat.reduceEqDiff, reduceCtorEq] <;> rfl) q2 ⟨by omega, rfl, by decide⟩ (k' := (lm ((M / D : Nat) : Int)).map u6) rfl ?_
  intro H7 w7
  have q7 : hget H7 H1.length = some [u6 (((M / D : Nat) : Int) % 4294967296), u6 (((M / D : Nat) : Int) / 4294967296 % 4294967296), u6 (((M / D : Nat) : Int) / 18446744073709551616 % 4294967296), u6 (((M / D : Nat) : Int) / 79228162514264337593543950336 % 4294967296)] := w7.new
  refine Rq ?_
  have tr : ∀ a b c d e f g h i j k m n o : AV, let l := lc_divide_ok a b c d e f g h i j k; trim ((5,o)::(47,n)::(46,m)::l) l = [(0,a),(1,b),(2,c),(4,d),(5,o),(6,f),(7,g),(8,h),(9,i),(11,j),(33,k)] := by intros; rfl
  refine R_nil (tr ..) ?_; clear tr
  refine then_n ?_
  refine at_ret rfl ?_
  refine fin_pure (rs := [.cell 4 57, .tmp 5]) rfl (by first | (simp (disch := first | omega | (simp only [List.length_map, List.length_append, List.length_set, List.length_cons, List.length_nil]; omega)) only [go_sem, ↓reduceIte, Nat.reduceEqDiff, reduceCtorEq, q7] <;> rfl) | rfl) (by first | rfl | (simp (disch := first | omega | (simp only [List.length_map, List.length_append, List.length_set, List.length_cons, List.length_nil]; omega)) only [go_sem, ↓reduceIte, Nat.reduceEqDiff, reduceCtorEq] <;> rfl)) ?_
  refine ⟨?_, rfl⟩
  exact tupV rfl

end Go.Proofs.YtokhmkkifmhfmaaDoor
