/-
  Walks of chapter 2. The steps are written by program (walk.py).
-/
import Derived.Test.YtokhmkkifmhfmaaDoorRF
import Derived.Test.YtokhmkkifmhfmaaDoorT
set_option linter.unusedSimpArgs false
set_option linter.unusedVariables false
set_option maxHeartbeats 1000000
set_option maxRecDepth 20000
namespace Go.Proofs.YtokhmkkifmhfmaaDoor
open Go Go.Am
abbrev lc_text_ok (a b c d e f g h i j k m : AV) : Env := [(0,a),(1,b),(2,c),(3,d),(4,e),(5,f),(6,g),(7,h),(8,i),(9,j),(17,k),(42,m)]
theorem text_ok (lim : Nat) (H : Heap) (x : Int) (hx : Fw x) : ACall sig lim 32 [wv x] H fun r H' => r = sv (txW x) ∧ H' = H := by
 have fx := hx
 unfold Fw at fx
 have hm := ab_rng x
 have hm1 := ab_W hx
 have hL0 := dd_len_le 39 (ab x).toNat (by decide) (by omega)
 refine ACall_pure (fa := fa32) rfl rfl rfl rfl ?_
 have tr : ∀ a0 : AV, env0 fa32.keep [a0] = [(0,a0),(1,.any),(2,.any),(3,.any),(4,.any),(5,.any),(6,.any),(7,.any),(8,.any),(9,.any),(17,.any),(42,.any)] := fun a0 => rfl
 refine W_to (tr _) ?_; clear tr
 refine at_seq rfl ?_
 refine rg rfl ?_
 refine R_box rfl (by simp (disch := first | omega | (simp only [List.length_map, List.length_append, List.length_set, List.length_cons, List.length_nil]; omega)) only [go_sem, ↓reduceIte, Nat.reduceEqDiff, reduceCtorEq]; rfl) rfl rfl ?_
 refine Rq ?_
 have tr : ∀ a b c d e f g h i j k m n o : AV, let l := lc_text_ok a b c d e f g h i j k m; trim ((2,o)::(1,n)::l) l = [(0,a),(1,n),(2,o),(3,d),(4,e),(5,f),(6,g),(7,h),(8,i),(9,j),(17,k),(42,m)] := by intros; rfl
 refine R_nil (tr ..) ?_; clear tr
 refine then_n ?_
 refine at_seq rfl ?_
 refine rg rfl ?_
 refine Rq ?_
 refine Rcall ?_
 refine ACall_eq (size_ok _ _ _ hx) ?_
 refine Rq ?_
 refine Rq ?_
 refine Rq ?_
 refine Rq ?_
 refine Rq ?_
 refine Rq ?_
 refine Rq ?_
 have tr : ∀ a b c d e f g h i j k m n o p q r s t u v : AV, let l := lc_text_ok a b c d e f g h i j k m; trim ((5,v)::(4,u)::(3,t)::(15,s)::(14,r)::(13,q)::(10,p)::(12,o)::(11,n)::l) l = [(0,a),(1,b),(2,c),(3,t),(4,u),(5,v),(6,g),(7,h),(8,i),(9,j),(17,k),(42,m)] := by intros; rfl
 refine R_nil (tr ..) ?_; clear tr
 refine then_n ?_
 refine at_seq rfl ?_
 refine rg rfl ?_
 refine Rq ?_
 have tr : ∀ a b c d e f g h i j k m n : AV, let l := lc_text_ok a b c d e f g h i j k m; trim ((6,n)::l) l = [(0,a),(1,b),(2,c),(3,d),(4,e),(5,f),(6,n),(7,h),(8,i),(9,j),(17,k),(42,m)] := by intros; rfl
 refine R_nil (tr ..) ?_; clear tr
 refine then_n ?_
 refine at_seq rfl ?_
 refine at_block rfl ?_
 refine loop_n rfl (fun mm kv H' => ∃ h : Int, ∃ l : Int, ∃ t : List UInt8, ∃ x7 x8 x9 x17 : AV, (kv = [(3, u6 h), (4, u6 l), (6, sv t), (7, x7), (8, x8), (9, x9), (17, x17)]) ∧ (mm = h.toNat) ∧ (0 ≤ h ∧ h ≤ 18446744073709551615) ∧ (0 ≤ l ∧ l ≤ 18446744073709551615) ∧ (DD (ab x).toNat = DD (h * 18446744073709551616 + l).toNat ++ t)) ⟨ab x / 18446744073709551616, ab x % 18446744073709551616, [], _, _, _, _, rfl, rfl, by omega, by omega, by (rw [List.append_nil]; congr 1; omega)⟩ (by rfl) ?_
 rintro mm kv HX ⟨h, l, t, x7, x8, x9, x17, rfl, rfl, hh, hl, ht⟩
 have tr : ∀ a b c d e f g h i j k m n o p q r s t : AV, upd [(0,a),(1,b),(2,c),(3,d),(4,e),(5,f),(6,g),(7,h),(8,i),(9,j),(17,k),(42,m)] [(3,n),(4,o),(6,p),(7,q),(8,r),(9,s),(17,t)] = [(0,a),(1,b),(2,c),(3,n),(4,o),(5,f),(6,p),(7,q),(8,r),(9,s),(17,t),(42,m)] := by intros; rfl
 refine W_to (tr ..) ?_; clear tr
 have hlen := congrArg List.length ht
 rw [List.length_append] at hlen
 refine at_seq rfl ?_
 refine at_seq rfl ?_
 refine rg rfl ?_
 refine Rq ?_
 refine Rq ?_
 have tr : ∀ a b c d e f g h i j k m n o : AV, let l := lc_text_ok a b c d e f g h i j k m; trim ((17,o)::(16,n)::l) l = [(0,a),(1,b),(2,c),(3,d),(4,e),(5,f),(6,g),(7,h),(8,i),(9,j),(17,o),(42,m)] := by intros; rfl
 refine R_nil (tr ..) ?_; clear tr
 refine then_n ?_
 refine cdd (fun h1 => ?_) (fun h1 => ?_)
 ·
  try simp only [decide_eq_true_eq, decide_eq_false_iff_not, decide_eq_decide, Bool.not_eq_true', Bool.not_eq_false', beq_iff_eq, beq_eq_false_iff_ne, ne_eq, Bool.and_eq_true, Bool.and_eq_false_iff, decide_not] at h1
  refine at_skip rfl ?_
  refine then_n ?_
  refine at_block rfl ?_
  refine at_seq rfl ?_
  refine rg rfl ?_
  refine Rq ?_
  have tr : ∀ a b c d e f g h i j k m n : AV, let l := lc_text_ok a b c d e f g h i j k m; trim ((7,n)::l) l = [(0,a),(1,b),(2,c),(3,d),(4,e),(5,f),(6,g),(7,n),(8,i),(9,j),(17,k),(42,m)] := by intros; rfl
  refine R_nil (tr ..) ?_; clear tr
  refine then_n ?_
  refine at_seq rfl ?_
  refine rg rfl ?_
  refine Rq ?_
  refine Rq ?_
  refine Rq ?_
  have tr : ∀ a b c d e f g h i j k m n o p : AV, let l := lc_text_ok a b c d e f g h i j k m; trim ((8,p)::(19,o)::(18,n)::l) l = [(0,a),(1,b),(2,c),(3,d),(4,e),(5,f),(6,g),(7,h),(8,p),(9,j),(17,k),(42,m)] := by intros; rfl
  refine R_nil (tr ..) ?_; clear tr
  refine then_n ?_
  refine at_seq rfl ?_
  refine rg rfl ?_
  refine Rq ?_
  refine Rq ?_
  refine Rq ?_
  refine Rcall ?_
  refine ACall_eq (div64_ok _ _ (h % 1000000000000000000) l 1000000000000000000 (by omega) (by omega) (by omega) (by omega)) ?_
  obtain ⟨lw, elw⟩ : ∃ z, z = (h % 1000000000000000000 * 18446744073709551616 + l) / 1000000000000000000 := ⟨_, rfl⟩
  obtain ⟨rs, ers⟩ : ∃ z, z = (h % 1000000000000000000 * 18446744073709551616 + l) % 1000000000000000000 := ⟨_, rfl⟩
  rw [← elw, ← ers]
  have hrs : 0 ≤ rs ∧ rs < 1000000000000000000 := by omega
  have hlw : 0 ≤ lw ∧ lw ≤ 18446744073709551615 := by omega
  have hN : DD (h * 18446744073709551616 + l).toNat = DD (h / 1000000000000000000 * 18446744073709551616 + lw).toNat ++ padN 18 rs.toNat := by
    rw [show (h * 18446744073709551616 + l).toNat = (h / 1000000000000000000 * 18446744073709551616 + lw).toNat * 10 ^ 18 + rs.toNat by omega]
    exact dd_pad 18 _ _ (by omega) (by decide) (by omega)
  have hLr := dd_len_le 18 rs.toNat (by decide) (by omega)
  refine Rq ?_
  refine Rq ?_
  refine Rq ?_
  refine Rq ?_
  refine Rq ?_
  have tr : ∀ a b c d e f g h i j k m n o p q r s t u v : AV, let l := lc_text_ok a b c d e f g h i j k m; trim ((7,v)::(4,u)::(26,t)::(25,s)::(20,r)::(24,q)::(23,p)::(22,o)::(21,n)::l) l = [(0,a),(1,b),(2,c),(3,d),(4,u),(5,f),(6,g),(7,v),(8,i),(9,j),(17,k),(42,m)] := by intros; rfl
  refine R_nil (tr ..) ?_; clear tr
  refine then_n ?_
  refine at_seq rfl ?_
  refine rg rfl ?_
  refine Rq ?_
  refine Rq ?_
  have tr : ∀ a b c d e f g h i j k m n o : AV, let l := lc_text_ok a b c d e f g h i j k m; trim ((3,o)::(27,n)::l) l = [(0,a),(1,b),(2,c),(3,o),(4,e),(5,f),(6,g),(7,h),(8,i),(9,j),(17,k),(42,m)] := by intros; rfl
  refine R_nil (tr ..) ?_; clear tr
  refine then_n ?_
  refine at_seq rfl ?_
  refine rg rfl ?_
  refine Rq ?_
  refine Rcall ?_
  refine ACall_eq (fmt_ok _ _ _ (by omega)) ?_
  refine Rq ?_
  have tr : ∀ a b c d e f g h i j k m n o p : AV, let l := lc_text_ok a b c d e f g h i j k m; trim ((9,p)::(29,o)::(28,n)::l) l = [(0,a),(1,b),(2,c),(3,d),(4,e),(5,f),(6,g),(7,h),(8,i),(9,p),(17,k),(42,m)] := by intros; rfl
  refine R_nil (tr ..) ?_; clear tr
  refine then_n ?_
  refine rg rfl ?_
  refine Rq ?_
  refine Rq ?_
  refine Rq ?_
  refine Rcall ?_
  refine ACall_eq (rep_ok _ _ _ (by omega)) ?_
  have hrl : (List.replicate (18 - ((DD rs.toNat).length : Int)).toNat (48 : UInt8)).length = 18 - (DD rs.toNat).length := by rw [List.length_replicate]; omega
  refine Rq ?_
  refine R_q (r := sv (padN 18 rs.toNat)) rfl (by simp only [go_sem, ↓reduceIte, Nat.reduceEqDiff]; rw [bin_bs _ _ _ _ (by omega), show (18 - ((DD rs.toNat).length : Int)).toNat = 18 - (DD rs.toNat).length by omega]; rfl) ?_
  have hpl : (padN 18 rs.toNat).length = 18 := by unfold padN; rw [List.length_append, List.length_replicate]; omega
  refine Rq ?_
  refine R_q rfl (by simp only [go_sem, ↓reduceIte, Nat.reduceEqDiff]; exact bin_bs _ _ _ _ (by first | omega | (simp only [List.length_append, List.length_cons, List.length_nil] <;> omega))) ?_
  refine Rq ?_
  have tr : ∀ a b c d e f g h i j k m n o p q r s t u v : AV, let l := lc_text_ok a b c d e f g h i j k m; trim ((6,v)::(37,u)::(36,t)::(35,s)::(34,r)::(33,q)::(32,p)::(31,o)::(30,n)::l) l = [(0,a),(1,b),(2,c),(3,d),(4,e),(5,f),(6,v),(7,h),(8,i),(9,j),(17,k),(42,m)] := by intros; rfl
  refine R_nil (tr ..) ?_; clear tr
  refine blk_n ?_
  refine then_n ?_
  exact ⟨_, _, ⟨h / 1000000000000000000, lw, padN 18 rs.toNat ++ t, _, _, _, _, rfl, rfl, by omega, by omega, by (rw [ht, hN, ← List.append_assoc])⟩, by rfl, by omega⟩
 ·
  try simp only [decide_eq_true_eq, decide_eq_false_iff_not, decide_eq_decide, Bool.not_eq_true', Bool.not_eq_false', beq_iff_eq, beq_eq_false_iff_ne, ne_eq, Bool.and_eq_true, Bool.and_eq_false_iff, decide_not] at h1
  refine at_exit rfl ?_
  refine then_x ?_
  refine then_x ?_
  refine blk_x ?_
  refine then_n ?_
  refine at_seq rfl ?_
  refine rg rfl ?_
  obtain rfl : h = 0 := by omega
  rw [show (0 * 18446744073709551616 + l).toNat = l.toNat by omega] at ht hlen
  refine Rq ?_
  refine Rcall ?_
  refine ACall_eq (fmt_ok _ _ _ (by omega)) ?_
  refine Rq ?_
  refine R_q rfl (by simp only [go_sem, ↓reduceIte, Nat.reduceEqDiff]; exact bin_bs _ _ _ _ (by first | omega | (simp only [List.length_append, List.length_cons, List.length_nil] <;> omega))) ?_
  refine Rq ?_
  have tr : ∀ a b c d e f g h i j k m n o p q r : AV, let l := lc_text_ok a b c d e f g h i j k m; trim ((6,r)::(41,q)::(40,p)::(39,o)::(38,n)::l) l = [(0,a),(1,b),(2,c),(3,d),(4,e),(5,f),(6,r),(7,h),(8,i),(9,j),(17,k),(42,m)] := by intros; rfl
  refine R_nil (tr ..) ?_; clear tr
  refine then_n ?_
  refine at_seq rfl ?_
  refine at_seq rfl ?_
  refine rg rfl ?_
  refine Rq ?_
  have tr : ∀ a b c d e f g h i j k m n : AV, let l := lc_text_ok a b c d e f g h i j k m; trim ((42,n)::l) l = [(0,a),(1,b),(2,c),(3,d),(4,e),(5,f),(6,g),(7,h),(8,i),(9,j),(17,k),(42,n)] := by intros; rfl
  refine R_nil (tr ..) ?_; clear tr
  refine then_n ?_
  refine cdd (fun h2 => ?_) (fun h2 => ?_)
  ·
   try simp only [decide_eq_true_eq, decide_eq_false_iff_not, decide_eq_decide, Bool.not_eq_true', Bool.not_eq_false', beq_iff_eq, beq_eq_false_iff_ne, ne_eq, Bool.and_eq_true, Bool.and_eq_false_iff, decide_not] at h2
   refine rg rfl ?_
   refine Rq ?_
   refine R_q rfl (by simp only [go_sem, ↓reduceIte, Nat.reduceEqDiff]; exact bin_bs _ _ _ _ (by first | omega | (simp only [List.length_append, List.length_cons, List.length_nil] <;> omega))) ?_
   refine Rq ?_
   have tr : ∀ a b c d e f g h i j k m n o p : AV, let l := lc_text_ok a b c d e f g h i j k m; trim ((6,p)::(44,o)::(43,n)::l) l = [(0,a),(1,b),(2,c),(3,d),(4,e),(5,f),(6,p),(7,h),(8,i),(9,j),(17,k),(42,m)] := by intros; rfl
   refine R_nil (tr ..) ?_; clear tr
   refine then_n ?_
   refine at_seq rfl ?_
   refine rg rfl ?_
   refine Rq ?_
   refine Rq ?_
   have tr : ∀ a b c d e f g h i j k m n o : AV, let l := lc_text_ok a b c d e f g h i j k m; trim ((2,o)::(45,n)::l) l = [(0,a),(1,b),(2,o),(3,d),(4,e),(5,f),(6,g),(7,h),(8,i),(9,j),(17,k),(42,m)] := by intros; rfl
   refine R_nil (tr ..) ?_; clear tr
   refine then_n ?_
   refine at_ret rfl ?_
   first | (refine fpure ?_; refine ⟨?_, rfl⟩; rw [txW_neg (by omega), ht] <;> rfl; done) | (refine fpure ?_; refine ⟨?_, rfl⟩; rw [txW_pos (by omega), ht])
  ·
   try simp only [decide_eq_true_eq, decide_eq_false_iff_not, decide_eq_decide, Bool.not_eq_true', Bool.not_eq_false', beq_iff_eq, beq_eq_false_iff_ne, ne_eq, Bool.and_eq_true, Bool.and_eq_false_iff, decide_not] at h2
   refine at_skip rfl ?_
   refine then_n ?_
   refine at_seq rfl ?_
   refine rg rfl ?_
   refine Rq ?_
   refine Rq ?_
   have tr : ∀ a b c d e f g h i j k m n o : AV, let l := lc_text_ok a b c d e f g h i j k m; trim ((2,o)::(45,n)::l) l = [(0,a),(1,b),(2,o),(3,d),(4,e),(5,f),(6,g),(7,h),(8,i),(9,j),(17,k),(42,m)] := by intros; rfl
   refine R_nil (tr ..) ?_; clear tr
   refine then_n ?_
   refine at_ret rfl ?_
   first | (refine fpure ?_; refine ⟨?_, rfl⟩; rw [txW_neg (by omega), ht] <;> rfl; done) | (refine fpure ?_; refine ⟨?_, rfl⟩; rw [txW_pos (by omega), ht])

end Go.Proofs.YtokhmkkifmhfmaaDoor
