/-
  Walks of chapter 2. The steps are written by program (walk.py).
-/
import Derived.Test.YtokhmkkifmhfmaaDoorRI
import Derived.Test.YtokhmkkifmhfmaaDoorRN
import Derived.Test.YtokhmkkifmhfmaaDoorT2
set_option linter.unusedSimpArgs false
set_option linter.unusedVariables false
set_option maxHeartbeats 1000000
set_option maxRecDepth 20000
namespace Go.Proofs.YtokhmkkifmhfmaaDoor
open Go Go.Am
abbrev lc_rtext_ok (a b c d e f g h : AV) : Env := [(0,a),(1,b),(2,c),(3,d),(4,e),(5,f),(14,g),(29,h)]
theorem rtext_ok (lim : Nat) (H : Heap) (x : Int) (hx : Fw x) : ACall sig lim 34 [wv x] H fun r H' => r = sv (txW x) ∧ H' = H := by
 have fx := hx
 unfold Fw at fx
 have hm := ab_rng x
 have hm1 := ab_W hx
 obtain ⟨M, eM⟩ : ∃ M : Nat, ab x = (M : Int) := ⟨(ab x).toNat, by omega⟩
 have hL0 := dd_len_le 39 M (by decide) (by omega)
 have hTx : (ab x).toNat = M := by omega
 refine ACall_pure (fa := fa34) rfl rfl rfl rfl ?_
 have tr : ∀ a0 : AV, env0 fa34.keep [a0] = [(0,a0),(1,.any),(2,.any),(3,.any),(4,.any),(5,.any),(14,.any),(29,.any)] := fun a0 => rfl
 refine W_to (tr _) ?_; clear tr
 refine at_seq rfl ?_
 refine rg rfl ?_
 refine A_box rfl (by simp (disch := first | omega | (simp only [List.length_map, List.length_append, List.length_set, List.length_cons, List.length_nil]; omega)) only [go_sem, ↓reduceIte, Nat.reduceEqDiff, reduceCtorEq]; rfl) ?_
 intro H1 n1
 have en1 := n1.len
 have q1 := n1.new
 refine Rq ?_
 have tr : ∀ a b c d e f g h i j : AV, let l := lc_rtext_ok a b c d e f g h; trim ((2,j)::(1,i)::l) l = [(0,a),(1,i),(2,j),(3,d),(4,e),(5,f),(14,g),(29,h)] := by intros; rfl
 refine R_nil (tr ..) ?_; clear tr
 refine then_n ?_
 refine at_seq rfl ?_
 refine rg rfl ?_
 refine R_q rfl (by simp (disch := first | omega | (simp only [List.length_map, List.length_append, List.length_set, List.length_cons, List.length_nil]; omega)) only [go_sem, ↓reduceIte, Nat.reduceEqDiff, reduceCtorEq, q1]; rfl) ?_
 refine Rcall ?_
 refine ACall_eq (rsize_ok _ _ x hx) ?_
 rw [eM]
 refine A_alloc rfl ?_
 intro H2 n2
 have en2 := n2.len
 have q1 := (n2.old _ (hget_lt q1)).trans q1
 have q2 := n2.new
 have lq1 := hget_lt q1
 have lq2 := hget_lt q2
 refine A_store ty57 (by simp (disch := first | omega | (simp only [List.length_map, List.length_append, List.length_set, List.length_cons, List.length_nil]; omega)) only [go_sem, ↓reduceIte, Nat.reduceEqDiff, reduceCtorEq] <;> rfl) (by simp (disch := first | omega | (simp only [List.length_map, List.length_append, List.length_set, List.length_cons, List.length_nil]; omega)) only [go_sem, ↓reduceIte, Nat.reduceEqDiff, reduceCtorEq] <;> rfl) q2 ⟨by omega, rfl, by decide⟩ (k' := (lm (M : Int)).map u6) rfl ?_
 intro H3 w3
 have q2 := w3.new
 have q1 := (w3.old _ (by omega)).trans q1
 have tr : ∀ a b c d e f g h i j k : AV, let l := lc_rtext_ok a b c d e f g h; trim ((3,k)::(7,j)::(6,i)::l) l = [(0,a),(1,b),(2,c),(3,k),(4,e),(5,f),(14,g),(29,h)] := by intros; rfl
 refine R_nil (tr ..) ?_; clear tr
 refine then_n ?_
 refine at_seq rfl ?_
 refine rg rfl ?_
 refine Rq ?_
 have tr : ∀ a b c d e f g h i : AV, let l := lc_rtext_ok a b c d e f g h; trim ((4,i)::l) l = [(0,a),(1,b),(2,c),(3,d),(4,i),(5,f),(14,g),(29,h)] := by intros; rfl
 refine R_nil (tr ..) ?_; clear tr
 refine then_n ?_
 refine at_seq rfl ?_
 refine at_block rfl ?_
 refine loop_n rfl (fun mm kv H' => ∃ P : Nat, ∃ t : List UInt8, ∃ x5 x14 : AV, (kv = [(4, sv t), (5, x5), (14, x14)]) ∧ (mm = 39 - t.length) ∧ (hget H' H.length = some [AV.i (x / 18446744073709551616), u6 (x % 18446744073709551616)]) ∧ (hget H' H1.length = some ((lm (P : Int)).map u6)) ∧ (P ≤ M) ∧ ((t = [] ∧ DD M = DD P) ∨ (t ≠ [] ∧ DD M = if P = 0 then t else DD P ++ t))) ⟨M, [], _, _, rfl, rfl, by exact q1, by exact q2, by omega, by exact .inl ⟨rfl, rfl⟩⟩ (by rfl) ?_
 rintro mm kv HO ⟨P, t, x5, x14, rfl, rfl, q1, q2, hP, ht⟩
 have tr : ∀ a b c d e f g h i j k : AV, upd [(0,a),(1,b),(2,c),(3,d),(4,e),(5,f),(14,g),(29,h)] [(4,i),(5,j),(14,k)] = [(0,a),(1,b),(2,c),(3,d),(4,i),(5,j),(14,k),(29,h)] := by intros; rfl
 refine W_to (tr ..) ?_; clear tr
 have q2 : hget HO H1.length = some [u6 ((P : Int) % 4294967296), u6 ((P : Int) / 4294967296 % 4294967296), u6 ((P : Int) / 18446744073709551616 % 4294967296), u6 ((P : Int) / 79228162514264337593543950336 % 4294967296)] := q2
 have lq1 := hget_lt q1
 have lq2 := hget_lt q2
 have htl : t.length ≤ 39 := by
   rcases ht with ⟨h1, _⟩ | ⟨_, h1⟩
   · rw [h1]; decide
   · rw [h1] at hL0; split at hL0
     · omega
     · rw [List.length_append] at hL0; omega
 refine at_seq rfl ?_
 refine at_seq rfl ?_
 refine rg rfl ?_
 refine R_q rfl (by simp (disch := first | omega | (simp only [List.length_map, List.length_append, List.length_set, List.length_cons, List.length_nil]; omega)) only [go_sem, ↓reduceIte, Nat.reduceEqDiff, reduceCtorEq, q2]; rfl) ?_
 refine Rq ?_
 refine R_q (r := .v (.bool (!decide (P = 0)))) rfl (by simp only [go_sem, ↓reduceIte, Nat.reduceEqDiff, bldZ]; rw [← lm_zero (by omega)]) ?_
 refine Rq ?_
 refine Rp_split (fun h1 => ?_) (fun h1 => ?_)
 ·
  try simp only [decide_eq_true_eq, decide_eq_false_iff_not, decide_eq_decide, Bool.not_eq_true', Bool.not_eq_false', beq_iff_eq, beq_eq_false_iff_ne, ne_eq, Bool.and_eq_true, Bool.and_eq_false_iff, decide_not] at h1
  refine Rn ?_
  refine Rn ?_
  refine Rq ?_
  have tr : ∀ a b c d e f g h i j k m n o p : AV, let l := lc_rtext_ok a b c d e f g h; trim ((14,p)::(13,o)::(12,n)::(11,m)::(10,k)::(9,j)::(8,i)::l) l = [(0,a),(1,b),(2,c),(3,d),(4,e),(5,f),(14,p),(29,h)] := by intros; rfl
  refine R_nil (tr ..) ?_; clear tr
  refine then_n ?_
  refine cdt ?_
  refine at_skip rfl ?_
  refine then_n ?_
  refine at_block rfl ?_
  refine at_seq rfl ?_
  refine rg rfl ?_
  obtain ⟨hlt, hNX⟩ : t.length < 39 ∧ DD M = if P / 10 = 0 then UInt8.ofNat (48 + P % 10) :: t else DD (P / 10) ++ UInt8.ofNat (48 + P % 10) :: t := rt_step hL0 ht (by exact .inl (by assumption))
  have hr10 : P % 10 < 10 := Nat.mod_lt _ (by decide)
  refine Rq ?_
  have tr : ∀ a b c d e f g h i : AV, let l := lc_rtext_ok a b c d e f g h; trim ((5,i)::l) l = [(0,a),(1,b),(2,c),(3,d),(4,e),(5,i),(14,g),(29,h)] := by intros; rfl
  refine R_nil (tr ..) ?_; clear tr
  refine then_n ?_
  refine at_seq rfl ?_
  refine rg rfl ?_
  refine R_q rfl (by simp (disch := first | omega | (simp only [List.length_map, List.length_append, List.length_set, List.length_cons, List.length_nil]; omega)) only [go_sem, ↓reduceIte, Nat.reduceEqDiff, reduceCtorEq, q2]; rfl) ?_
  refine Rcall ?_
  refine ACall_eq (divide_ok _ _ P 10 (by omega) (by decide) (by decide)) ?_
  refine Rq ?_
  refine Rq ?_
  refine Rq ?_
  refine A_store ty57 (by simp (disch := first | omega | (simp only [List.length_map, List.length_append, List.length_set, List.length_cons, List.length_nil]; omega)) only [go_sem, ↓reduceIte, Nat.reduceEqDiff, reduceCtorEq] <;> rfl) (by simp (disch := first | omega | (simp only [List.length_map, List.length_append, List.length_set, List.length_cons, List.length_nil]; omega)) only [go_sem, ↓reduceIte, Nat.reduceEqDiff, reduceCtorEq] <;> rfl) q2 ⟨by omega, rfl, Nat.le_refl 4⟩ (k' := (lm ((P / 10 : Nat) : Int)).map u6) rfl ?_
  intro H4 w4
  have q2 := w4.new
  have q1 := (w4.old _ (by omega)).trans q1
  have lq1 := hget_lt q1
  have lq2 := hget_lt q2
  refine Rq ?_
  have tr : ∀ a b c d e f g h i j k m n o : AV, let l := lc_rtext_ok a b c d e f g h; trim ((5,o)::(19,n)::(18,m)::(15,k)::(17,j)::(16,i)::l) l = [(0,a),(1,b),(2,c),(3,d),(4,e),(5,o),(14,g),(29,h)] := by intros; rfl
  refine R_nil (tr ..) ?_; clear tr
  refine then_n ?_
  refine rg rfl ?_
  refine Rq ?_
  refine R_q (r := u6 (48 + ((P % 10 : Nat) : Int))) rfl (by simp (disch := first | omega | (simp only [List.length_map, List.length_append, List.length_set, List.length_cons, List.length_nil]; omega)) only [go_sem, ↓reduceIte, Nat.reduceEqDiff, reduceCtorEq] <;> rfl) ?_
  refine Rq ?_
  refine A_buildSlice (bs71 _ _ _ _ (48 + ((P % 10 : Nat) : Int)) (by simp (disch := first | omega | (simp only [List.length_map, List.length_append, List.length_set, List.length_cons, List.length_nil]; omega)) only [go_sem, ↓reduceIte, Nat.reduceEqDiff, reduceCtorEq] <;> rfl)) ?_
  intro H5 n5
  refine R_back (cvOwn _ _ _ _) ty71 tk9 (by simp (disch := first | omega | (simp only [List.length_map, List.length_append, List.length_set, List.length_cons, List.length_nil]; omega)) only [go_sem, ↓reduceIte, Nat.reduceEqDiff, reduceCtorEq] <;> rfl) (by intro b hb; cases hb) (back71 n5.new (by omega)) ?_
  refine Rq ?_
  refine R_q (r := sv (UInt8.ofNat (48 + P % 10) :: t)) rfl (by simp only [go_sem, ↓reduceIte, Nat.reduceEqDiff]; rw [bin_bs _ _ _ _ (by simp only [List.length_cons, List.length_nil]; omega), show (48 + ((P % 10 : Nat) : Int)).toNat = 48 + P % 10 by omega]; rfl) ?_
  refine Rq ?_
  have tr : ∀ a b c d e f g h i j k m n o p q : AV, let l := lc_rtext_ok a b c d e f g h; trim ((4,q)::(26,p)::(25,o)::(24,n)::(23,m)::(22,k)::(21,j)::(20,i)::l) l = [(0,a),(1,b),(2,c),(3,d),(4,q),(5,f),(14,g),(29,h)] := by intros; rfl
  refine R_nil (tr ..) ?_; clear tr
  refine blk_n ?_
  refine then_n ?_
  exact ⟨_, _, ⟨P / 10, UInt8.ofNat (48 + P % 10) :: t, _, _, rfl, rfl, by exact (n5.old _ (by omega)).trans q1, by exact (n5.old _ (by omega)).trans q2, by omega, by exact .inr ⟨by simp, hNX⟩⟩, by rfl, by (simp only [List.length_cons]; omega)⟩
 ·
  try simp only [decide_eq_true_eq, decide_eq_false_iff_not, decide_eq_decide, Bool.not_eq_true', Bool.not_eq_false', beq_iff_eq, beq_eq_false_iff_ne, ne_eq, Bool.and_eq_true, Bool.and_eq_false_iff, decide_not] at h1
  refine Ry ?_
  refine Rq ?_
  refine Ry ?_
  refine Rq ?_
  refine Rq ?_
  have tr : ∀ a b c d e f g h i j k m n o p : AV, let l := lc_rtext_ok a b c d e f g h; trim ((14,p)::(13,o)::(12,n)::(11,m)::(10,k)::(9,j)::(8,i)::l) l = [(0,a),(1,b),(2,c),(3,d),(4,e),(5,f),(14,p),(29,h)] := by intros; rfl
  refine R_nil (tr ..) ?_; clear tr
  refine then_n ?_
  refine cdd (fun h2 => ?_) (fun h2 => ?_)
  ·
   try simp only [decide_eq_true_eq, decide_eq_false_iff_not, decide_eq_decide, Bool.not_eq_true', Bool.not_eq_false', beq_iff_eq, beq_eq_false_iff_ne, ne_eq, Bool.and_eq_true, Bool.and_eq_false_iff, decide_not] at h2
   refine at_skip rfl ?_
   refine then_n ?_
   refine at_block rfl ?_
   refine at_seq rfl ?_
   refine rg rfl ?_
   obtain ⟨hlt, hNX⟩ : t.length < 39 ∧ DD M = if P / 10 = 0 then UInt8.ofNat (48 + P % 10) :: t else DD (P / 10) ++ UInt8.ofNat (48 + P % 10) :: t := rt_step hL0 ht (by exact .inr (by assumption))
   have hr10 : P % 10 < 10 := Nat.mod_lt _ (by decide)
   refine Rq ?_
   have tr : ∀ a b c d e f g h i : AV, let l := lc_rtext_ok a b c d e f g h; trim ((5,i)::l) l = [(0,a),(1,b),(2,c),(3,d),(4,e),(5,i),(14,g),(29,h)] := by intros; rfl
   refine R_nil (tr ..) ?_; clear tr
   refine then_n ?_
   refine at_seq rfl ?_
   refine rg rfl ?_
   refine R_q rfl (by simp (disch := first | omega | (simp only [List.length_map, List.length_append, List.length_set, List.length_cons, List.length_nil]; omega)) only [go_sem, ↓reduceIte, Nat.reduceEqDiff, reduceCtorEq, q2]; rfl) ?_
   refine Rcall ?_
   refine ACall_eq (divide_ok _ _ P 10 (by omega) (by decide) (by decide)) ?_
   refine Rq ?_
   refine Rq ?_
   refine Rq ?_
   refine A_store ty57 (by simp (disch := first | omega | (simp only [List.length_map, List.length_append, List.length_set, List.length_cons, List.length_nil]; omega)) only [go_sem, ↓reduceIte, Nat.reduceEqDiff, reduceCtorEq] <;> rfl) (by simp (disch := first | omega | (simp only [List.length_map, List.length_append, List.length_set, List.length_cons, List.length_nil]; omega)) only [go_sem, ↓reduceIte, Nat.reduceEqDiff, reduceCtorEq] <;> rfl) q2 ⟨by omega, rfl, Nat.le_refl 4⟩ (k' := (lm ((P / 10 : Nat) : Int)).map u6) rfl ?_
   intro H4 w4
   have q2 := w4.new
   have q1 := (w4.old _ (by omega)).trans q1
   have lq1 := hget_lt q1
   have lq2 := hget_lt q2
   refine Rq ?_
   have tr : ∀ a b c d e f g h i j k m n o : AV, let l := lc_rtext_ok a b c d e f g h; trim ((5,o)::(19,n)::(18,m)::(15,k)::(17,j)::(16,i)::l) l = [(0,a),(1,b),(2,c),(3,d),(4,e),(5,o),(14,g),(29,h)] := by intros; rfl
   refine R_nil (tr ..) ?_; clear tr
   refine then_n ?_
   refine rg rfl ?_
   refine Rq ?_
   refine R_q (r := u6 (48 + ((P % 10 : Nat) : Int))) rfl (by simp (disch := first | omega | (simp only [List.length_map, List.length_append, List.length_set, List.length_cons, List.length_nil]; omega)) only [go_sem, ↓reduceIte, Nat.reduceEqDiff, reduceCtorEq] <;> rfl) ?_
   refine Rq ?_
   refine A_buildSlice (bs71 _ _ _ _ (48 + ((P % 10 : Nat) : Int)) (by simp (disch := first | omega | (simp only [List.length_map, List.length_append, List.length_set, List.length_cons, List.length_nil]; omega)) only [go_sem, ↓reduceIte, Nat.reduceEqDiff, reduceCtorEq] <;> rfl)) ?_
   intro H5 n5
   refine R_back (cvOwn _ _ _ _) ty71 tk9 (by simp (disch := first | omega | (simp only [List.length_map, List.length_append, List.length_set, List.length_cons, List.length_nil]; omega)) only [go_sem, ↓reduceIte, Nat.reduceEqDiff, reduceCtorEq] <;> rfl) (by intro b hb; cases hb) (back71 n5.new (by omega)) ?_
   refine Rq ?_
   refine R_q (r := sv (UInt8.ofNat (48 + P % 10) :: t)) rfl (by simp only [go_sem, ↓reduceIte, Nat.reduceEqDiff]; rw [bin_bs _ _ _ _ (by simp only [List.length_cons, List.length_nil]; omega), show (48 + ((P % 10 : Nat) : Int)).toNat = 48 + P % 10 by omega]; rfl) ?_
   refine Rq ?_
   have tr : ∀ a b c d e f g h i j k m n o p q : AV, let l := lc_rtext_ok a b c d e f g h; trim ((4,q)::(26,p)::(25,o)::(24,n)::(23,m)::(22,k)::(21,j)::(20,i)::l) l = [(0,a),(1,b),(2,c),(3,d),(4,q),(5,f),(14,g),(29,h)] := by intros; rfl
   refine R_nil (tr ..) ?_; clear tr
   refine blk_n ?_
   refine then_n ?_
   exact ⟨_, _, ⟨P / 10, UInt8.ofNat (48 + P % 10) :: t, _, _, rfl, rfl, by exact (n5.old _ (by omega)).trans q1, by exact (n5.old _ (by omega)).trans q2, by omega, by exact .inr ⟨by simp, hNX⟩⟩, by rfl, by (simp only [List.length_cons]; omega)⟩
  ·
   try simp only [decide_eq_true_eq, decide_eq_false_iff_not, decide_eq_decide, Bool.not_eq_true', Bool.not_eq_false', beq_iff_eq, beq_eq_false_iff_ne, ne_eq, Bool.and_eq_true, Bool.and_eq_false_iff, decide_not] at h2
   refine at_exit rfl ?_
   refine then_x ?_
   refine then_x ?_
   refine blk_x ?_
   refine then_n ?_
   refine at_seq rfl ?_
   refine at_seq rfl ?_
   refine rg rfl ?_
   obtain rfl : DD M = t := rt_end ht (by assumption) (by assumption)
   refine Rq ?_
   refine R_q rfl (by simp (disch := first | omega | (simp only [List.length_map, List.length_append, List.length_set, List.length_cons, List.length_nil]; omega)) only [go_sem, ↓reduceIte, Nat.reduceEqDiff, reduceCtorEq, q1]; rfl) ?_
   refine Rq ?_
   have tr : ∀ a b c d e f g h i j k : AV, let l := lc_rtext_ok a b c d e f g h; trim ((29,k)::(28,j)::(27,i)::l) l = [(0,a),(1,b),(2,c),(3,d),(4,e),(5,f),(14,g),(29,k)] := by intros; rfl
   refine R_nil (tr ..) ?_; clear tr
   refine then_n ?_
   refine cdd (fun h3 => ?_) (fun h3 => ?_)
   ·
    try simp only [decide_eq_true_eq, decide_eq_false_iff_not, decide_eq_decide, Bool.not_eq_true', Bool.not_eq_false', beq_iff_eq, beq_eq_false_iff_ne, ne_eq, Bool.and_eq_true, Bool.and_eq_false_iff, decide_not] at h3
    refine rg rfl ?_
    refine Rq ?_
    refine R_q rfl (by simp only [go_sem, ↓reduceIte, Nat.reduceEqDiff]; exact bin_bs _ _ _ _ (by simp only [List.length_append, List.length_cons, List.length_nil] <;> omega)) ?_
    refine Rq ?_
    have tr : ∀ a b c d e f g h i j k : AV, let l := lc_rtext_ok a b c d e f g h; trim ((4,k)::(31,j)::(30,i)::l) l = [(0,a),(1,b),(2,c),(3,d),(4,k),(5,f),(14,g),(29,h)] := by intros; rfl
    refine R_nil (tr ..) ?_; clear tr
    refine then_n ?_
    refine at_seq rfl ?_
    refine rg rfl ?_
    refine Rq ?_
    refine Rq ?_
    have tr : ∀ a b c d e f g h i j : AV, let l := lc_rtext_ok a b c d e f g h; trim ((2,j)::(32,i)::l) l = [(0,a),(1,b),(2,j),(3,d),(4,e),(5,f),(14,g),(29,h)] := by intros; rfl
    refine R_nil (tr ..) ?_; clear tr
    refine then_n ?_
    refine at_ret rfl ?_
    first | (refine fpure ?_; refine ⟨?_, rfl⟩; rw [txW_neg (by omega), hTx] <;> rfl; done) | (refine fpure ?_; refine ⟨?_, rfl⟩; rw [txW_pos (by omega), hTx])
   ·
    try simp only [decide_eq_true_eq, decide_eq_false_iff_not, decide_eq_decide, Bool.not_eq_true', Bool.not_eq_false', beq_iff_eq, beq_eq_false_iff_ne, ne_eq, Bool.and_eq_true, Bool.and_eq_false_iff, decide_not] at h3
    refine at_skip rfl ?_
    refine then_n ?_
    refine at_seq rfl ?_
    refine rg rfl ?_
    refine Rq ?_
    refine Rq ?_
    have tr : ∀ a b c d e f g h i j : AV, let l := lc_rtext_ok a b c d e f g h; trim ((2,j)::(32,i)::l) l = [(0,a),(1,b),(2,j),(3,d),(4,e),(5,f),(14,g),(29,h)] := by intros; rfl
    refine R_nil (tr ..) ?_; clear tr
    refine then_n ?_
    refine at_ret rfl ?_
    first | (refine fpure ?_; refine ⟨?_, rfl⟩; rw [txW_neg (by omega), hTx] <;> rfl; done) | (refine fpure ?_; refine ⟨?_, rfl⟩; rw [txW_pos (by omega), hTx])

end Go.Proofs.YtokhmkkifmhfmaaDoor
