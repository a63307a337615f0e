/-
  Walks of chapter 51. The steps are written by program (walk.py).
-/
import Derived.Test.YtfnapmdedmbdbaaDoorP2
import Derived.Test.YtfnapmdedmbdbaaDoorAmU
set_option linter.unusedSimpArgs false
set_option linter.unusedVariables false
set_option maxHeartbeats 1000000
set_option maxRecDepth 20000
namespace Go.Proofs.YtfnapmdedmbdbaaDoor
open Go Go.Am
abbrev lc_dec_ok (a b : AV) : Env := [(0,a),(2,b)]
theorem dec_ok (lim : Nat) (H : Heap) (n : Int) (hn : -9223372036854775808 ≤ n ∧ n ≤ 9223372036854775807) : ACall sig lim 35 [AV.i n] H fun r H' => r = sv (txW n) ∧ H' = H := by
 refine ACall_pure (fa := fa35) rfl rfl rfl rfl ?_
 have tr : ∀ a0 : AV, env0 fa35.keep [a0] = [(0,a0),(2,.any)] := fun a0 => rfl
 refine W_to (tr _) ?_; clear tr
 refine at_seq rfl ?_
 refine rg rfl ?_
 refine Rq ?_
 have tr : ∀ a b c : AV, let l := lc_dec_ok a b; trim ((2,c)::l) l = [(0,a),(2,c)] := by intros; rfl
 refine R_nil (tr ..) ?_; clear tr
 refine then_n ?_
 refine at_seq rfl ?_
 refine rg rfl ?_
 refine Rq ?_
 refine Rcall ?_
 refine ACall_eq (fmt_ok _ _ n hn) ?_
 refine Rq ?_
 have tr : ∀ a b c d e : AV, let l := lc_dec_ok a b; trim ((2,e)::(4,d)::(3,c)::l) l = [(0,a),(2,e)] := by intros; rfl
 refine R_nil (tr ..) ?_; clear tr
 refine then_n ?_
 refine at_ret rfl ?_
 refine fpure ?_
 refine ⟨?_, rfl⟩
 rfl

abbrev lc_pad_ok (a b c d e f : AV) : Env := [(0,a),(1,b),(4,c),(5,d),(6,e),(23,f)]
theorem pad_ok (lim : Nat) (H : Heap) (n : Int) (hn : 0 ≤ n ∧ n ≤ 9223372036854775807) (w : Int) (hw : 1 ≤ w ∧ w ≤ 20) : ACall sig lim 36 [AV.i n, AV.i w] H fun r H' => r = sv (padN w.toNat n.toNat) ∧ H' = H := by
 have hd := dd_len20 (n := n.toNat) (by omega)
 have hp := dd_len_pos n.toNat
 refine ACall_pure (fa := fa36) rfl rfl rfl rfl ?_
 have tr : ∀ a0 a1 : AV, env0 fa36.keep [a0, a1] = [(0,a0),(1,a1),(4,.any),(5,.any),(6,.any),(23,.any)] := fun a0 a1 => rfl
 refine W_to (tr _ _) ?_; clear tr
 refine at_seq rfl ?_
 refine rg rfl ?_
 refine Rq ?_
 have tr : ∀ a b c d e f g : AV, let l := lc_pad_ok a b c d e f; trim ((4,g)::l) l = [(0,a),(1,b),(4,g),(5,d),(6,e),(23,f)] := by intros; rfl
 refine R_nil (tr ..) ?_; clear tr
 refine then_n ?_
 refine at_seq rfl ?_
 refine rg rfl ?_
 refine Rq ?_
 refine Rcall ?_
 refine ACall_eq (dec_ok _ _ n (by omega)) ?_
 rw [txW_nn hn.1]
 refine Rcall ?_
 refine ACall_eq (cut_ok _ _ _) ?_
 rw [(dd_cut n.toNat).1, (dd_cut n.toNat).2]
 refine Rq ?_
 refine Rq ?_
 refine Rq ?_
 refine Rq ?_
 refine Rq ?_
 have tr : ∀ a b c d e f g h i j k m n o : AV, let l := lc_pad_ok a b c d e f; trim ((6,o)::(5,n)::(12,m)::(11,k)::(7,j)::(10,i)::(9,h)::(8,g)::l) l = [(0,a),(1,b),(4,c),(5,n),(6,o),(23,f)] := by intros; rfl
 refine R_nil (tr ..) ?_; clear tr
 refine then_n ?_
 refine at_seq rfl ?_
 refine rg rfl ?_
 refine Rq ?_
 refine Rq ?_
 refine Rq ?_
 refine Rq ?_
 refine Rq ?_
 refine Rq ?_
 refine Rq ?_
 refine Rcall ?_
 refine ACall_eq (rep_ok _ _ _ (by omega)) ?_
 obtain ⟨Z, hZ⟩ : ∃ Z, Z = List.replicate (max (max (min w 20) 0 - ((DD n.toNat).length : Int)) 0).toNat (48 : UInt8) := ⟨_, rfl⟩
 rw [← hZ]
 have hZl : Z.length ≤ 20 := by rw [hZ, List.length_replicate]; omega
 refine Rq ?_
 refine Rq ?_
 refine Rq ?_
 have tr : ∀ a b c d e f g h i j k m n o p q r : AV, let l := lc_pad_ok a b c d e f; trim ((5,r)::(22,q)::(21,p)::(20,o)::(19,n)::(18,m)::(17,k)::(16,j)::(15,i)::(14,h)::(13,g)::l) l = [(0,a),(1,b),(4,c),(5,r),(6,e),(23,f)] := by intros; rfl
 refine R_nil (tr ..) ?_; clear tr
 refine then_n ?_
 refine at_seq rfl ?_
 refine at_seq rfl ?_
 refine rg rfl ?_
 refine Rq ?_
 have tr : ∀ a b c d e f g : AV, let l := lc_pad_ok a b c d e f; trim ((23,g)::l) l = [(0,a),(1,b),(4,c),(5,d),(6,e),(23,g)] := by intros; rfl
 refine R_nil (tr ..) ?_; clear tr
 refine then_n ?_
 refine cdd (fun h1 => ?_) (fun h1 => ?_)
 ·
  try simp only [decide_eq_true_eq, decide_eq_false_iff_not, decide_eq_decide, Bool.not_eq_true', Bool.not_eq_false', beq_iff_eq, beq_eq_false_iff_ne, ne_eq, Bool.and_eq_true, Bool.and_eq_false_iff, decide_not] at h1
  refine at_seq rfl ?_
  refine rg rfl ?_
  refine Rq ?_
  refine Rq ?_
  refine Rq ?_
  have tr : ∀ a b c d e f g h i : AV, let l := lc_pad_ok a b c d e f; trim ((4,i)::(25,h)::(24,g)::l) l = [(0,a),(1,b),(4,i),(5,d),(6,e),(23,f)] := by intros; rfl
  refine R_nil (tr ..) ?_; clear tr
  refine then_n ?_
  refine at_ret rfl ?_
  refine then_r ?_
  refine fpure ?_
  refine ⟨?_, rfl⟩
  first | (exfalso; simp at *; done) | (refine congrArg sv ?_; rw [hZ]; unfold padN; refine congrArg (fun k => List.replicate k (48 : UInt8) ++ DD n.toNat) ?_; omega)
 ·
  try simp only [decide_eq_true_eq, decide_eq_false_iff_not, decide_eq_decide, Bool.not_eq_true', Bool.not_eq_false', beq_iff_eq, beq_eq_false_iff_ne, ne_eq, Bool.and_eq_true, Bool.and_eq_false_iff, decide_not] at h1
  refine at_skip rfl ?_
  refine then_n ?_
  refine at_seq rfl ?_
  refine rg rfl ?_
  refine Rq ?_
  refine Rq ?_
  have tr : ∀ a b c d e f g h : AV, let l := lc_pad_ok a b c d e f; trim ((4,h)::(26,g)::l) l = [(0,a),(1,b),(4,h),(5,d),(6,e),(23,f)] := by intros; rfl
  refine R_nil (tr ..) ?_; clear tr
  refine then_n ?_
  refine at_ret rfl ?_
  refine fpure ?_
  refine ⟨?_, rfl⟩
  first | (exfalso; simp at *; done) | (refine congrArg sv ?_; rw [hZ]; unfold padN; refine congrArg (fun k => List.replicate k (48 : UInt8) ++ DD n.toNat) ?_; omega)

abbrev lc_rpad_ok (a b c d e f g h i : AV) : Env := [(0,a),(1,b),(4,c),(5,d),(6,e),(7,f),(8,g),(12,h),(24,i)]
theorem rpad_ok (lim : Nat) (H : Heap) (n : Int) (hn : -9223372036854775808 ≤ n ∧ n ≤ 9223372036854775807) (w : Int) (hw : 1 ≤ w ∧ w ≤ 20) : ACall sig lim 40 [AV.i n, AV.i w] H fun r H' => r = sv ((if n < 0 then [45] else []) ++ padN w.toNat (ab n).toNat) ∧ H' = H := by
 have hb : 0 ≤ ab n ∧ ab n ≤ 9223372036854775808 := by unfold ab; split <;> omega
 refine ACall_pure (fa := fa40) rfl rfl rfl rfl ?_
 have tr : ∀ a0 a1 : AV, env0 fa40.keep [a0, a1] = [(0,a0),(1,a1),(4,.any),(5,.any),(6,.any),(7,.any),(8,.any),(12,.any),(24,.any)] := fun a0 a1 => rfl
 refine W_to (tr _ _) ?_; clear tr
 refine at_seq rfl ?_
 refine rg rfl ?_
 refine Rq ?_
 have tr : ∀ a b c d e f g h i j : AV, let l := lc_rpad_ok a b c d e f g h i; trim ((4,j)::l) l = [(0,a),(1,b),(4,j),(5,d),(6,e),(7,f),(8,g),(12,h),(24,i)] := by intros; rfl
 refine R_nil (tr ..) ?_; clear tr
 refine then_n ?_
 refine at_seq rfl ?_
 refine rg rfl ?_
 refine Rq ?_
 refine Rq ?_
 refine Rq ?_
 refine Rq ?_
 have tr : ∀ a b c d e f g h i j k m n : AV, let l := lc_rpad_ok a b c d e f g h i; trim ((6,n)::(5,m)::(10,k)::(9,j)::l) l = [(0,a),(1,b),(4,c),(5,m),(6,n),(7,f),(8,g),(12,h),(24,i)] := by intros; rfl
 refine R_nil (tr ..) ?_; clear tr
 refine then_n ?_
 refine at_seq rfl ?_
 refine at_seq rfl ?_
 refine rg rfl ?_
 refine Rq ?_
 refine Rq ?_
 have tr : ∀ a b c d e f g h i j k : AV, let l := lc_rpad_ok a b c d e f g h i; trim ((12,k)::(11,j)::l) l = [(0,a),(1,b),(4,c),(5,d),(6,e),(7,f),(8,g),(12,k),(24,i)] := by intros; rfl
 refine R_nil (tr ..) ?_; clear tr
 refine then_n ?_
 refine cdd (fun h1 => ?_) (fun h1 => ?_)
 ·
  try simp only [decide_eq_true_eq, decide_eq_false_iff_not, decide_eq_decide, Bool.not_eq_true', Bool.not_eq_false', beq_iff_eq, beq_eq_false_iff_ne, ne_eq, Bool.and_eq_true, Bool.and_eq_false_iff, decide_not] at h1
  refine rg rfl ?_
  refine Rq ?_
  refine R_q (r := u6 (((ab n).toNat : Int))) rfl (by simp (disch := first | omega | (simp only [List.length_map, List.length_append, List.length_set, List.length_cons, List.length_nil]; omega)) only [go_sem, ↓reduceIte, Nat.reduceEqDiff, reduceCtorEq] <;> exact congrArg (fun z => some (u6 z)) (by first | rfl | omega | (unfold ab; omega))) ?_
  refine Rq ?_
  refine Rq ?_
  have tr : ∀ a b c d e f g h i j k m n : AV, let l := lc_rpad_ok a b c d e f g h i; trim ((6,n)::(5,m)::(14,k)::(13,j)::l) l = [(0,a),(1,b),(4,c),(5,m),(6,n),(7,f),(8,g),(12,h),(24,i)] := by intros; rfl
  refine R_nil (tr ..) ?_; clear tr
  refine then_n ?_
  refine at_seq rfl ?_
  refine rg rfl ?_
  skip
  refine Rq ?_
  refine Rq ?_
  have tr : ∀ a b c d e f g h i j k : AV, let l := lc_rpad_ok a b c d e f g h i; trim ((8,k)::(7,j)::l) l = [(0,a),(1,b),(4,c),(5,d),(6,e),(7,j),(8,k),(12,h),(24,i)] := by intros; rfl
  refine R_nil (tr ..) ?_; clear tr
  refine then_n ?_
  refine at_seq rfl ?_
  refine at_block rfl ?_
  refine loop_n rfl (fun mm kv H' => ∃ u : Nat, ∃ s : List UInt8, ∃ x24 : AV, (kv = [(6, u6 (u : Int)), (8, sv s), (24, x24)]) ∧ (mm = u + (w.toNat - s.length)) ∧ (H' = H) ∧ (u ≤ 9223372036854775808) ∧ (otx w.toNat u s = padN w.toNat (ab n).toNat)) ⟨(ab n).toNat, [], _, rfl, rfl, rfl, by omega, by exact otx_start (by omega)⟩ (by rfl) ?_
  rintro mm kv H' ⟨u, s, x24, rfl, rfl, rfl, hu, ho⟩
  have tr : ∀ a b c d e f g h i j k m : AV, upd [(0,a),(1,b),(4,c),(5,d),(6,e),(7,f),(8,g),(12,h),(24,i)] [(6,j),(8,k),(24,m)] = [(0,a),(1,b),(4,c),(5,d),(6,j),(7,f),(8,k),(12,h),(24,m)] := by intros; rfl
  refine W_to (tr ..) ?_; clear tr
  have hsl := otx_len w.toNat u s
  rw [ho] at hsl
  have hpl := pad_len w.toNat (ab n).toNat (by omega) (by omega)
  refine at_seq rfl ?_
  refine at_seq rfl ?_
  refine rg rfl ?_
  refine Rq ?_
  refine Rq ?_
  refine Rq ?_
  refine Rp_split (fun h2 => ?_) (fun h2 => ?_)
  ·
   try simp only [decide_eq_true_eq, decide_eq_false_iff_not, decide_eq_decide, Bool.not_eq_true', Bool.not_eq_false', beq_iff_eq, beq_eq_false_iff_ne, ne_eq, Bool.and_eq_true, Bool.and_eq_false_iff, decide_not] at h2
   refine Rn ?_
   refine Rn ?_
   refine Rn ?_
   refine Rn ?_
   refine Rn ?_
   refine Rn ?_
   refine Rq ?_
   have tr : ∀ a b c d e f g h i j k m n o p q r s t : AV, let l := lc_rpad_ok a b c d e f g h i; trim ((24,t)::(23,s)::(22,r)::(21,q)::(20,p)::(19,o)::(18,n)::(17,m)::(16,k)::(15,j)::l) l = [(0,a),(1,b),(4,c),(5,d),(6,e),(7,f),(8,g),(12,h),(24,t)] := by intros; rfl
   refine R_nil (tr ..) ?_; clear tr
   refine then_n ?_
   refine cdt ?_
   refine at_skip rfl ?_
   refine then_n ?_
   refine at_block rfl ?_
   refine at_seq rfl ?_
   refine rg rfl ?_
   refine Rq ?_
   refine Rq ?_
   refine R_q (r := u6 (((u % 10 : Nat) : Int))) rfl (by simp (disch := first | omega | (simp only [List.length_map, List.length_append, List.length_set, List.length_cons, List.length_nil]; omega)) only [go_sem, ↓reduceIte, Nat.reduceEqDiff, reduceCtorEq] <;> exact congrArg (fun z => some (u6 z)) (by first | rfl | omega | (unfold ab; omega))) ?_
   refine Rq ?_
   refine R_q (r := u6 (((u % 10 : Nat) : Int))) rfl (by simp (disch := first | omega | (simp only [List.length_map, List.length_append, List.length_set, List.length_cons, List.length_nil]; omega)) only [go_sem, ↓reduceIte, Nat.reduceEqDiff, reduceCtorEq] <;> exact congrArg (fun z => some (u6 z)) (by first | rfl | omega | (unfold ab; omega))) ?_
   refine R_q (r := u6 (((u % 10 : Nat) : Int) + 1)) rfl (by simp (disch := first | omega | (simp only [List.length_map, List.length_append, List.length_set, List.length_cons, List.length_nil]; omega)) only [go_sem, ↓reduceIte, Nat.reduceEqDiff, reduceCtorEq] <;> exact congrArg (fun z => some (u6 z)) (by first | rfl | omega | (unfold ab; omega))) ?_
   refine R_q (r := sv [UInt8.ofNat (48 + u % 10)]) rfl (by simp only [go_sem, ↓reduceIte, Nat.reduceEqDiff]; exact dig_slice (u % 10) (by omega)) ?_
   refine Rq ?_
   refine Rq ?_
   refine Rq ?_
   have tr : ∀ a b c d e f g h i j k m n o p q r s t : AV, let l := lc_rpad_ok a b c d e f g h i; trim ((8,t)::(33,s)::(32,r)::(31,q)::(30,p)::(29,o)::(28,n)::(27,m)::(26,k)::(25,j)::l) l = [(0,a),(1,b),(4,c),(5,d),(6,e),(7,f),(8,t),(12,h),(24,i)] := by intros; rfl
   refine R_nil (tr ..) ?_; clear tr
   refine then_n ?_
   refine rg rfl ?_
   refine Rq ?_
   refine R_q (r := u6 (((u / 10 : Nat) : Int))) rfl (by simp (disch := first | omega | (simp only [List.length_map, List.length_append, List.length_set, List.length_cons, List.length_nil]; omega)) only [go_sem, ↓reduceIte, Nat.reduceEqDiff, reduceCtorEq] <;> exact congrArg (fun z => some (u6 z)) (by first | rfl | omega | (unfold ab; omega))) ?_
   refine Rq ?_
   have tr : ∀ a b c d e f g h i j k m : AV, let l := lc_rpad_ok a b c d e f g h i; trim ((6,m)::(35,k)::(34,j)::l) l = [(0,a),(1,b),(4,c),(5,d),(6,m),(7,f),(8,g),(12,h),(24,i)] := by intros; rfl
   refine R_nil (tr ..) ?_; clear tr
   refine blk_n ?_
   refine then_n ?_
   exact ⟨_, _, ⟨u / 10, UInt8.ofNat (48 + u % 10) :: s, _, rfl, rfl, rfl, by omega, by (rw [otx_step (by omega)]; exact ho)⟩, by rfl, by (simp only [List.length_cons]; omega)⟩
  ·
   try simp only [decide_eq_true_eq, decide_eq_false_iff_not, decide_eq_decide, Bool.not_eq_true', Bool.not_eq_false', beq_iff_eq, beq_eq_false_iff_ne, ne_eq, Bool.and_eq_true, Bool.and_eq_false_iff, decide_not] at h2
   refine Ry ?_
   refine Rq ?_
   refine Ry ?_
   refine Rq ?_
   refine Ry ?_
   refine Rq ?_
   refine Ry ?_
   refine Rq ?_
   refine Ry ?_
   refine Rq ?_
   refine Ry ?_
   refine Rq ?_
   refine Rq ?_
   have tr : ∀ a b c d e f g h i j k m n o p q r s t : AV, let l := lc_rpad_ok a b c d e f g h i; trim ((24,t)::(23,s)::(22,r)::(21,q)::(20,p)::(19,o)::(18,n)::(17,m)::(16,k)::(15,j)::l) l = [(0,a),(1,b),(4,c),(5,d),(6,e),(7,f),(8,g),(12,h),(24,t)] := by intros; rfl
   refine R_nil (tr ..) ?_; clear tr
   refine then_n ?_
   refine cdd (fun h3 => ?_) (fun h3 => ?_)
   ·
    try simp only [decide_eq_true_eq, decide_eq_false_iff_not, decide_eq_decide, Bool.not_eq_true', Bool.not_eq_false', beq_iff_eq, beq_eq_false_iff_ne, ne_eq, Bool.and_eq_true, Bool.and_eq_false_iff, decide_not] at h3
    refine at_skip rfl ?_
    refine then_n ?_
    refine at_block rfl ?_
    refine at_seq rfl ?_
    refine rg rfl ?_
    refine Rq ?_
    refine Rq ?_
    refine R_q (r := u6 (((u % 10 : Nat) : Int))) rfl (by simp (disch := first | omega | (simp only [List.length_map, List.length_append, List.length_set, List.length_cons, List.length_nil]; omega)) only [go_sem, ↓reduceIte, Nat.reduceEqDiff, reduceCtorEq] <;> exact congrArg (fun z => some (u6 z)) (by first | rfl | omega | (unfold ab; omega))) ?_
    refine Rq ?_
    refine R_q (r := u6 (((u % 10 : Nat) : Int))) rfl (by simp (disch := first | omega | (simp only [List.length_map, List.length_append, List.length_set, List.length_cons, List.length_nil]; omega)) only [go_sem, ↓reduceIte, Nat.reduceEqDiff, reduceCtorEq] <;> exact congrArg (fun z => some (u6 z)) (by first | rfl | omega | (unfold ab; omega))) ?_
    refine R_q (r := u6 (((u % 10 : Nat) : Int) + 1)) rfl (by simp (disch := first | omega | (simp only [List.length_map, List.length_append, List.length_set, List.length_cons, List.length_nil]; omega)) only [go_sem, ↓reduceIte, Nat.reduceEqDiff, reduceCtorEq] <;> exact congrArg (fun z => some (u6 z)) (by first | rfl | omega | (unfold ab; omega))) ?_
    refine R_q (r := sv [UInt8.ofNat (48 + u % 10)]) rfl (by simp only [go_sem, ↓reduceIte, Nat.reduceEqDiff]; exact dig_slice (u % 10) (by omega)) ?_
    refine Rq ?_
    refine Rq ?_
    refine Rq ?_
    have tr : ∀ a b c d e f g h i j k m n o p q r s t : AV, let l := lc_rpad_ok a b c d e f g h i; trim ((8,t)::(33,s)::(32,r)::(31,q)::(30,p)::(29,o)::(28,n)::(27,m)::(26,k)::(25,j)::l) l = [(0,a),(1,b),(4,c),(5,d),(6,e),(7,f),(8,t),(12,h),(24,i)] := by intros; rfl
    refine R_nil (tr ..) ?_; clear tr
    refine then_n ?_
    refine rg rfl ?_
    refine Rq ?_
    refine R_q (r := u6 (((u / 10 : Nat) : Int))) rfl (by simp (disch := first | omega | (simp only [List.length_map, List.length_append, List.length_set, List.length_cons, List.length_nil]; omega)) only [go_sem, ↓reduceIte, Nat.reduceEqDiff, reduceCtorEq] <;> exact congrArg (fun z => some (u6 z)) (by first | rfl | omega | (unfold ab; omega))) ?_
    refine Rq ?_
    have tr : ∀ a b c d e f g h i j k m : AV, let l := lc_rpad_ok a b c d e f g h i; trim ((6,m)::(35,k)::(34,j)::l) l = [(0,a),(1,b),(4,c),(5,d),(6,m),(7,f),(8,g),(12,h),(24,i)] := by intros; rfl
    refine R_nil (tr ..) ?_; clear tr
    refine blk_n ?_
    refine then_n ?_
    exact ⟨_, _, ⟨u / 10, UInt8.ofNat (48 + u % 10) :: s, _, rfl, rfl, rfl, by omega, by (rw [otx_step (by omega)]; exact ho)⟩, by rfl, by (simp only [List.length_cons]; omega)⟩
   ·
    try simp only [decide_eq_true_eq, decide_eq_false_iff_not, decide_eq_decide, Bool.not_eq_true', Bool.not_eq_false', beq_iff_eq, beq_eq_false_iff_ne, ne_eq, Bool.and_eq_true, Bool.and_eq_false_iff, decide_not] at h3
    refine at_exit rfl ?_
    refine then_x ?_
    refine then_x ?_
    refine blk_x ?_
    refine then_n ?_
    refine at_seq rfl ?_
    refine rg rfl ?_
    obtain rfl : u = 0 := by omega
    rw [otx_end (by omega)] at ho
    refine Rq ?_
    refine Rq ?_
    refine Rq ?_
    refine Rq ?_
    have tr : ∀ a b c d e f g h i j k m n : AV, let l := lc_rpad_ok a b c d e f g h i; trim ((4,n)::(38,m)::(37,k)::(36,j)::l) l = [(0,a),(1,b),(4,n),(5,d),(6,e),(7,f),(8,g),(12,h),(24,i)] := by intros; rfl
    refine R_nil (tr ..) ?_; clear tr
    refine then_n ?_
    refine at_ret rfl ?_
    first | (refine fpure ?_; refine ⟨?_, rfl⟩; rw [if_pos (by omega), ← ho] <;> rfl; done) | (refine fpure ?_; refine ⟨?_, rfl⟩; rw [if_neg (by omega), ← ho] <;> rfl)
 ·
  try simp only [decide_eq_true_eq, decide_eq_false_iff_not, decide_eq_decide, Bool.not_eq_true', Bool.not_eq_false', beq_iff_eq, beq_eq_false_iff_ne, ne_eq, Bool.and_eq_true, Bool.and_eq_false_iff, decide_not] at h1
  refine at_skip rfl ?_
  refine then_n ?_
  refine at_seq rfl ?_
  refine rg rfl ?_
  rw [show n % 18446744073709551616 = ((ab n).toNat : Int) by rw [ab_pos (by omega)]; omega]
  refine Rq ?_
  refine Rq ?_
  have tr : ∀ a b c d e f g h i j k : AV, let l := lc_rpad_ok a b c d e f g h i; trim ((8,k)::(7,j)::l) l = [(0,a),(1,b),(4,c),(5,d),(6,e),(7,j),(8,k),(12,h),(24,i)] := by intros; rfl
  refine R_nil (tr ..) ?_; clear tr
  refine then_n ?_
  refine at_seq rfl ?_
  refine at_block rfl ?_
  refine loop_n rfl (fun mm kv H' => ∃ u : Nat, ∃ s : List UInt8, ∃ x24 : AV, (kv = [(6, u6 (u : Int)), (8, sv s), (24, x24)]) ∧ (mm = u + (w.toNat - s.length)) ∧ (H' = H) ∧ (u ≤ 9223372036854775808) ∧ (otx w.toNat u s = padN w.toNat (ab n).toNat)) ⟨(ab n).toNat, [], _, rfl, rfl, rfl, by omega, by exact otx_start (by omega)⟩ (by rfl) ?_
  rintro mm kv H' ⟨u, s, x24, rfl, rfl, rfl, hu, ho⟩
  have tr : ∀ a b c d e f g h i j k m : AV, upd [(0,a),(1,b),(4,c),(5,d),(6,e),(7,f),(8,g),(12,h),(24,i)] [(6,j),(8,k),(24,m)] = [(0,a),(1,b),(4,c),(5,d),(6,j),(7,f),(8,k),(12,h),(24,m)] := by intros; rfl
  refine W_to (tr ..) ?_; clear tr
  have hsl := otx_len w.toNat u s
  rw [ho] at hsl
  have hpl := pad_len w.toNat (ab n).toNat (by omega) (by omega)
  refine at_seq rfl ?_
  refine at_seq rfl ?_
  refine rg rfl ?_
  refine Rq ?_
  refine Rq ?_
  refine Rq ?_
  refine Rp_split (fun h4 => ?_) (fun h4 => ?_)
  ·
   try simp only [decide_eq_true_eq, decide_eq_false_iff_not, decide_eq_decide, Bool.not_eq_true', Bool.not_eq_false', beq_iff_eq, beq_eq_false_iff_ne, ne_eq, Bool.and_eq_true, Bool.and_eq_false_iff, decide_not] at h4
   refine Rn ?_
   refine Rn ?_
   refine Rn ?_
   refine Rn ?_
   refine Rn ?_
   refine Rn ?_
   refine Rq ?_
   have tr : ∀ a b c d e f g h i j k m n o p q r s t : AV, let l := lc_rpad_ok a b c d e f g h i; trim ((24,t)::(23,s)::(22,r)::(21,q)::(20,p)::(19,o)::(18,n)::(17,m)::(16,k)::(15,j)::l) l = [(0,a),(1,b),(4,c),(5,d),(6,e),(7,f),(8,g),(12,h),(24,t)] := by intros; rfl
   refine R_nil (tr ..) ?_; clear tr
   refine then_n ?_
   refine cdt ?_
   refine at_skip rfl ?_
   refine then_n ?_
   refine at_block rfl ?_
   refine at_seq rfl ?_
   refine rg rfl ?_
   refine Rq ?_
   refine Rq ?_
   refine R_q (r := u6 (((u % 10 : Nat) : Int))) rfl (by simp (disch := first | omega | (simp only [List.length_map, List.length_append, List.length_set, List.length_cons, List.length_nil]; omega)) only [go_sem, ↓reduceIte, Nat.reduceEqDiff, reduceCtorEq] <;> exact congrArg (fun z => some (u6 z)) (by first | rfl | omega | (unfold ab; omega))) ?_
   refine Rq ?_
   refine R_q (r := u6 (((u % 10 : Nat) : Int))) rfl (by simp (disch := first | omega | (simp only [List.length_map, List.length_append, List.length_set, List.length_cons, List.length_nil]; omega)) only [go_sem, ↓reduceIte, Nat.reduceEqDiff, reduceCtorEq] <;> exact congrArg (fun z => some (u6 z)) (by first | rfl | omega | (unfold ab; omega))) ?_
   refine R_q (r := u6 (((u % 10 : Nat) : Int) + 1)) rfl (by simp (disch := first | omega | (simp only [List.length_map, List.length_append, List.length_set, List.length_cons, List.length_nil]; omega)) only [go_sem, ↓reduceIte, Nat.reduceEqDiff, reduceCtorEq] <;> exact congrArg (fun z => some (u6 z)) (by first | rfl | omega | (unfold ab; omega))) ?_
   refine R_q (r := sv [UInt8.ofNat (48 + u % 10)]) rfl (by simp only [go_sem, ↓reduceIte, Nat.reduceEqDiff]; exact dig_slice (u % 10) (by omega)) ?_
   refine Rq ?_
   refine Rq ?_
   refine Rq ?_
   have tr : ∀ a b c d e f g h i j k m n o p q r s t : AV, let l := lc_rpad_ok a b c d e f g h i; trim ((8,t)::(33,s)::(32,r)::(31,q)::(30,p)::(29,o)::(28,n)::(27,m)::(26,k)::(25,j)::l) l = [(0,a),(1,b),(4,c),(5,d),(6,e),(7,f),(8,t),(12,h),(24,i)] := by intros; rfl
   refine R_nil (tr ..) ?_; clear tr
   refine then_n ?_
   refine rg rfl ?_
   refine Rq ?_
   refine R_q (r := u6 (((u / 10 : Nat) : Int))) rfl (by simp (disch := first | omega | (simp only [List.length_map, List.length_append, List.length_set, List.length_cons, List.length_nil]; omega)) only [go_sem, ↓reduceIte, Nat.reduceEqDiff, reduceCtorEq] <;> exact congrArg (fun z => some (u6 z)) (by first | rfl | omega | (unfold ab; omega))) ?_
   refine Rq ?_
   have tr : ∀ a b c d e f g h i j k m : AV, let l := lc_rpad_ok a b c d e f g h i; trim ((6,m)::(35,k)::(34,j)::l) l = [(0,a),(1,b),(4,c),(5,d),(6,m),(7,f),(8,g),(12,h),(24,i)] := by intros; rfl
   refine R_nil (tr ..) ?_; clear tr
   refine blk_n ?_
   refine then_n ?_
   exact ⟨_, _, ⟨u / 10, UInt8.ofNat (48 + u % 10) :: s, _, rfl, rfl, rfl, by omega, by (rw [otx_step (by omega)]; exact ho)⟩, by rfl, by (simp only [List.length_cons]; omega)⟩
  ·
   try simp only [decide_eq_true_eq, decide_eq_false_iff_not, decide_eq_decide, Bool.not_eq_true', Bool.not_eq_false', beq_iff_eq, beq_eq_false_iff_ne, ne_eq, Bool.and_eq_true, Bool.and_eq_false_iff, decide_not] at h4
   refine Ry ?_
   refine Rq ?_
   refine Ry ?_
   refine Rq ?_
   refine Ry ?_
   refine Rq ?_
   refine Ry ?_
   refine Rq ?_
   refine Ry ?_
   refine Rq ?_
   refine Ry ?_
   refine Rq ?_
   refine Rq ?_
   have tr : ∀ a b c d e f g h i j k m n o p q r s t : AV, let l := lc_rpad_ok a b c d e f g h i; trim ((24,t)::(23,s)::(22,r)::(21,q)::(20,p)::(19,o)::(18,n)::(17,m)::(16,k)::(15,j)::l) l = [(0,a),(1,b),(4,c),(5,d),(6,e),(7,f),(8,g),(12,h),(24,t)] := by intros; rfl
   refine R_nil (tr ..) ?_; clear tr
   refine then_n ?_
   refine cdd (fun h5 => ?_) (fun h5 => ?_)
   ·
    try simp only [decide_eq_true_eq, decide_eq_false_iff_not, decide_eq_decide, Bool.not_eq_true', Bool.not_eq_false', beq_iff_eq, beq_eq_false_iff_ne, ne_eq, Bool.and_eq_true, Bool.and_eq_false_iff, decide_not] at h5
    refine at_skip rfl ?_
    refine then_n ?_
    refine at_block rfl ?_
    refine at_seq rfl ?_
    refine rg rfl ?_
    refine Rq ?_
    refine Rq ?_
    refine R_q (r := u6 (((u % 10 : Nat) : Int))) rfl (by simp (disch := first | omega | (simp only [List.length_map, List.length_append, List.length_set, List.length_cons, List.length_nil]; omega)) only [go_sem, ↓reduceIte, Nat.reduceEqDiff, reduceCtorEq] <;> exact congrArg (fun z => some (u6 z)) (by first | rfl | omega | (unfold ab; omega))) ?_
    refine Rq ?_
    refine R_q (r := u6 (((u % 10 : Nat) : Int))) rfl (by simp (disch := first | omega | (simp only [List.length_map, List.length_append, List.length_set, List.length_cons, List.length_nil]; omega)) only [go_sem, ↓reduceIte, Nat.reduceEqDiff, reduceCtorEq] <;> exact congrArg (fun z => some (u6 z)) (by first | rfl | omega | (unfold ab; omega))) ?_
    refine R_q (r := u6 (((u % 10 : Nat) : Int) + 1)) rfl (by simp (disch := first | omega | (simp only [List.length_map, List.length_append, List.length_set, List.length_cons, List.length_nil]; omega)) only [go_sem, ↓reduceIte, Nat.reduceEqDiff, reduceCtorEq] <;> exact congrArg (fun z => some (u6 z)) (by first | rfl | omega | (unfold ab; omega))) ?_
    refine R_q (r := sv [UInt8.ofNat (48 + u % 10)]) rfl (by simp only [go_sem, ↓reduceIte, Nat.reduceEqDiff]; exact dig_slice (u % 10) (by omega)) ?_
    refine Rq ?_
    refine Rq ?_
    refine Rq ?_
    have tr : ∀ a b c d e f g h i j k m n o p q r s t : AV, let l := lc_rpad_ok a b c d e f g h i; trim ((8,t)::(33,s)::(32,r)::(31,q)::(30,p)::(29,o)::(28,n)::(27,m)::(26,k)::(25,j)::l) l = [(0,a),(1,b),(4,c),(5,d),(6,e),(7,f),(8,t),(12,h),(24,i)] := by intros; rfl
    refine R_nil (tr ..) ?_; clear tr
    refine then_n ?_
    refine rg rfl ?_
    refine Rq ?_
    refine R_q (r := u6 (((u / 10 : Nat) : Int))) rfl (by simp (disch := first | omega | (simp only [List.length_map, List.length_append, List.length_set, List.length_cons, List.length_nil]; omega)) only [go_sem, ↓reduceIte, Nat.reduceEqDiff, reduceCtorEq] <;> exact congrArg (fun z => some (u6 z)) (by first | rfl | omega | (unfold ab; omega))) ?_
    refine Rq ?_
    have tr : ∀ a b c d e f g h i j k m : AV, let l := lc_rpad_ok a b c d e f g h i; trim ((6,m)::(35,k)::(34,j)::l) l = [(0,a),(1,b),(4,c),(5,d),(6,m),(7,f),(8,g),(12,h),(24,i)] := by intros; rfl
    refine R_nil (tr ..) ?_; clear tr
    refine blk_n ?_
    refine then_n ?_
    exact ⟨_, _, ⟨u / 10, UInt8.ofNat (48 + u % 10) :: s, _, rfl, rfl, rfl, by omega, by (rw [otx_step (by omega)]; exact ho)⟩, by rfl, by (simp only [List.length_cons]; omega)⟩
   ·
    try simp only [decide_eq_true_eq, decide_eq_false_iff_not, decide_eq_decide, Bool.not_eq_true', Bool.not_eq_false', beq_iff_eq, beq_eq_false_iff_ne, ne_eq, Bool.and_eq_true, Bool.and_eq_false_iff, decide_not] at h5
    refine at_exit rfl ?_
    refine then_x ?_
    refine then_x ?_
    refine blk_x ?_
    refine then_n ?_
    refine at_seq rfl ?_
    refine rg rfl ?_
    obtain rfl : u = 0 := by omega
    rw [otx_end (by omega)] at ho
    refine Rq ?_
    refine Rq ?_
    refine Rq ?_
    refine Rq ?_
    have tr : ∀ a b c d e f g h i j k m n : AV, let l := lc_rpad_ok a b c d e f g h i; trim ((4,n)::(38,m)::(37,k)::(36,j)::l) l = [(0,a),(1,b),(4,n),(5,d),(6,e),(7,f),(8,g),(12,h),(24,i)] := by intros; rfl
    refine R_nil (tr ..) ?_; clear tr
    refine then_n ?_
    refine at_ret rfl ?_
    first | (refine fpure ?_; refine ⟨?_, rfl⟩; rw [if_pos (by omega), ← ho] <;> rfl; done) | (refine fpure ?_; refine ⟨?_, rfl⟩; rw [if_neg (by omega), ← ho] <;> rfl)

abbrev lc_rdec_ok (a b : AV) : Env := [(0,a),(2,b)]
theorem rdec_ok (lim : Nat) (H : Heap) (n : Int) (hn : -9223372036854775808 ≤ n ∧ n ≤ 9223372036854775807) : ACall sig lim 39 [AV.i n] H fun r H' => r = sv (txW n) ∧ H' = H := by
 refine ACall_pure (fa := fa39) rfl rfl rfl rfl ?_
 have tr : ∀ a0 : AV, env0 fa39.keep [a0] = [(0,a0),(2,.any)] := fun a0 => rfl
 refine W_to (tr _) ?_; clear tr
 refine at_seq rfl ?_
 refine rg rfl ?_
 refine Rq ?_
 have tr : ∀ a b c : AV, let l := lc_rdec_ok a b; trim ((2,c)::l) l = [(0,a),(2,c)] := by intros; rfl
 refine R_nil (tr ..) ?_; clear tr
 refine then_n ?_
 refine at_seq rfl ?_
 refine rg rfl ?_
 refine Rq ?_
 refine Rcall ?_
 refine ACall_eq (rpad_ok _ _ n hn 1 (by omega)) ?_
 rw [show ((1 : Int).toNat) = 1 from rfl, pad_one]
 refine Rq ?_
 have tr : ∀ a b c d e : AV, let l := lc_rdec_ok a b; trim ((2,e)::(4,d)::(3,c)::l) l = [(0,a),(2,e)] := by intros; rfl
 refine R_nil (tr ..) ?_; clear tr
 refine then_n ?_
 refine at_ret rfl ?_
 refine fpure ?_
 refine ⟨?_, rfl⟩
 rfl

end Go.Proofs.YtfnapmdedmbdbaaDoor
