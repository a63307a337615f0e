/-
  Texts of PointsTexts, part 9 of 10. Walks of chapter 51. The steps are written by program (walk.py).
-/
import Derived.Test.YtfnapmdedmbdbaaDoorKPointsTexts6
import Derived.Test.YtfnapmdedmbdbaaDoorKPointsTexts4
import Derived.Test.YtfnapmdedmbdbaaDoorKPointsTexts7
import Derived.Shelf.Strings.Builder1
import Derived.Shelf.Strings.BuilderK
import Derived.Lib.OthersKept
import Derived.Test.YtfnapmdedmbdbaaDoorProg
import Derived.WalkKit
import Derived.KernelRfl
section
set_option linter.unusedSimpArgs false
set_option linter.unusedVariables false
set_option maxHeartbeats 1000000
set_option maxRecDepth 20000
namespace Go.Proofs.YtfnapmdedmbdbaaDoor
open Go Go.Am
abbrev lc_dec_ok (a b : AV) : Env := [(0,a),(2,b)]
theorem dec_ok (lim : Nat) (H : Heap) (n : Int) (hn : -9223372036854775808 ≤ n ∧ n ≤ 9223372036854775807) : ACall sig lim 35 [AV.i n] H fun r H' => r = sv (txW n) ∧ H' = H := by
 refine ACall_pure (fa := fa35) rfl rfl rfl rfl ?_
 have tr : ∀ a0 : AV, env0 fa35.keep [a0] = lc_dec_ok a0 .any := fun a0 => rfl
 refine W_to (tr _) ?_; clear tr
 refine at_seq rfl ?_
 refine rg rfl ?_
 refine Rq ?_
 have tr : ∀ a b c : AV, let l := lc_dec_ok a b; trim ((2,c)::l) l = lc_dec_ok a c := by intros; rfl
 refine R_nil (tr ..) ?_; clear tr
 refine then_n ?_
 refine at_seq rfl ?_
 refine rg rfl ?_
 refine Rq ?_
 refine Rcall ?_
 refine ACall_eq (fmt_ok _ _ n hn) ?_
 refine Rq ?_
 have tr : ∀ a b c d e : AV, let l := lc_dec_ok a b; trim ((2,e)::(4,d)::(3,c)::l) l = lc_dec_ok a e := by intros; rfl
 refine R_nil (tr ..) ?_; clear tr
 refine then_n ?_
 refine at_ret rfl ?_
 refine fpure ?_
 refine ⟨?_, rfl⟩
 rfl

abbrev lc_pad_ok (a b c d e f : AV) : Env := [(0,a),(1,b),(4,c),(5,d),(6,e),(23,f)]
theorem pad_ok (lim : Nat) (H : Heap) (n : Int) (hn : 0 ≤ n ∧ n ≤ 9223372036854775807) (w : Int) (hw : 1 ≤ w ∧ w ≤ 20) : ACall sig lim 36 [AV.i n, AV.i w] H fun r H' => r = sv (padN w.toNat n.toNat) ∧ H' = H := by
 have hd := dd_len20 (n := n.toNat) (by omega)
 have hp := dd_len_pos n.toNat
 refine ACall_pure (fa := fa36) rfl rfl rfl rfl ?_
 have tr : ∀ a0 a1 : AV, env0 fa36.keep [a0, a1] = lc_pad_ok a0 a1 .any .any .any .any := fun a0 a1 => rfl
 refine W_to (tr _ _) ?_; clear tr
 refine at_seq rfl ?_
 refine rg rfl ?_
 refine Rq ?_
 have tr : ∀ a b c d e f g : AV, let l := lc_pad_ok a b c d e f; trim ((4,g)::l) l = lc_pad_ok a b g d e f := by intros; rfl
 refine R_nil (tr ..) ?_; clear tr
 refine then_n ?_
 refine at_seq rfl ?_
 refine rg rfl ?_
 refine Rq ?_
 refine Rcall ?_
 refine ACall_eq (dec_ok _ _ n (by omega)) ?_
 rw [txW_nn hn.1]
 refine Rcall ?_
 refine ACall_eq (cut_ok _ _ _) ?_
 rw [(dd_cut n.toNat).1, (dd_cut n.toNat).2]
 refine Rq ?_
 refine Rq ?_
 refine Rq ?_
 refine Rq ?_
 refine Rq ?_
 have tr : ∀ a b c d e f g h i j k m n o : AV, let l := lc_pad_ok a b c d e f; trim ((6,o)::(5,n)::(12,m)::(11,k)::(7,j)::(10,i)::(9,h)::(8,g)::l) l = lc_pad_ok a b c n o f := by intros; rfl
 refine R_nil (tr ..) ?_; clear tr
 refine then_n ?_
 refine at_seq rfl ?_
 refine rg rfl ?_
 refine Rq ?_
 refine Rq ?_
 refine Rq ?_
 refine Rq ?_
 refine Rq ?_
 refine Rq ?_
 refine Rq ?_
 refine Rcall ?_
 refine ACall_eq (rep_ok _ _ _ (by omega)) ?_
 obtain ⟨Z, hZ⟩ : ∃ Z, Z = List.replicate (max (max (min w 20) 0 - ((DD n.toNat).length : Int)) 0).toNat (48 : UInt8) := ⟨_, rfl⟩
 rw [← hZ]
 have hZl : Z.length ≤ 20 := by rw [hZ, List.length_replicate]; omega
 refine Rq ?_
 refine Rq ?_
 refine Rq ?_
 have tr : ∀ a b c d e f g h i j k m n o p q r : AV, let l := lc_pad_ok a b c d e f; trim ((5,r)::(22,q)::(21,p)::(20,o)::(19,n)::(18,m)::(17,k)::(16,j)::(15,i)::(14,h)::(13,g)::l) l = lc_pad_ok a b c r e f := by intros; rfl
 refine R_nil (tr ..) ?_; clear tr
 refine then_n ?_
 refine at_seq rfl ?_
 refine at_seq rfl ?_
 refine rg rfl ?_
 refine Rq ?_
 have tr : ∀ a b c d e f g : AV, let l := lc_pad_ok a b c d e f; trim ((23,g)::l) l = lc_pad_ok a b c d e g := by intros; rfl
 refine R_nil (tr ..) ?_; clear tr
 refine then_n ?_
 refine cdd (fun h1 => ?_) (fun h1 => ?_)
 ·
  try simp only [decide_eq_true_eq, decide_eq_false_iff_not, decide_eq_decide, Bool.not_eq_true', Bool.not_eq_false', beq_iff_eq, beq_eq_false_iff_ne, ne_eq, Bool.and_eq_true, Bool.and_eq_false_iff, decide_not] at h1
  refine at_seq rfl ?_
  refine rg rfl ?_
  refine Rq ?_
  refine Rq ?_
  refine Rq ?_
  have tr : ∀ a b c d e f g h i : AV, let l := lc_pad_ok a b c d e f; trim ((4,i)::(25,h)::(24,g)::l) l = lc_pad_ok a b i d e f := by intros; rfl
  refine R_nil (tr ..) ?_; clear tr
  refine then_n ?_
  refine at_ret rfl ?_
  refine then_r ?_
  refine fpure ?_
  refine ⟨?_, rfl⟩
  first | (exfalso; simp at *; done) | (refine congrArg sv ?_; rw [hZ]; unfold padN; refine congrArg (fun k => List.replicate k (48 : UInt8) ++ DD n.toNat) ?_; omega)
 ·
  try simp only [decide_eq_true_eq, decide_eq_false_iff_not, decide_eq_decide, Bool.not_eq_true', Bool.not_eq_false', beq_iff_eq, beq_eq_false_iff_ne, ne_eq, Bool.and_eq_true, Bool.and_eq_false_iff, decide_not] at h1
  refine at_skip rfl ?_
  refine then_n ?_
  refine at_seq rfl ?_
  refine rg rfl ?_
  refine Rq ?_
  refine Rq ?_
  have tr : ∀ a b c d e f g h : AV, let l := lc_pad_ok a b c d e f; trim ((4,h)::(26,g)::l) l = lc_pad_ok a b h d e f := by intros; rfl
  refine R_nil (tr ..) ?_; clear tr
  refine then_n ?_
  refine at_ret rfl ?_
  refine fpure ?_
  refine ⟨?_, rfl⟩
  first | (exfalso; simp at *; done) | (refine congrArg sv ?_; rw [hZ]; unfold padN; refine congrArg (fun k => List.replicate k (48 : UInt8) ++ DD n.toNat) ?_; omega)

abbrev lc_rpad_ok (a b c d e f g h i : AV) : Env := [(0,a),(1,b),(4,c),(5,d),(6,e),(7,f),(8,g),(12,h),(24,i)]
theorem rpad_ok (lim : Nat) (H : Heap) (n : Int) (hn : -9223372036854775808 ≤ n ∧ n ≤ 9223372036854775807) (w : Int) (hw : 1 ≤ w ∧ w ≤ 20) : ACall sig lim 40 [AV.i n, AV.i w] H fun r H' => r = sv ((if n < 0 then [45] else []) ++ padN w.toNat (ab n).toNat) ∧ H' = H := by
 have hb : 0 ≤ ab n ∧ ab n ≤ 9223372036854775808 := by unfold ab; split <;> omega
 refine ACall_pure (fa := fa40) rfl rfl rfl rfl ?_
 have tr : ∀ a0 a1 : AV, env0 fa40.keep [a0, a1] = lc_rpad_ok a0 a1 .any .any .any .any .any .any .any := fun a0 a1 => rfl
 refine W_to (tr _ _) ?_; clear tr
 refine at_seq rfl ?_
 refine rg rfl ?_
 refine Rq ?_
 have tr : ∀ a b c d e f g h i j : AV, let l := lc_rpad_ok a b c d e f g h i; trim ((4,j)::l) l = lc_rpad_ok a b j d e f g h i := by intros; rfl
 refine R_nil (tr ..) ?_; clear tr
 refine then_n ?_
 refine at_seq rfl ?_
 refine rg rfl ?_
 refine Rq ?_
 refine Rq ?_
 refine Rq ?_
 refine Rq ?_
 have tr : ∀ a b c d e f g h i j k m n : AV, let l := lc_rpad_ok a b c d e f g h i; trim ((6,n)::(5,m)::(10,k)::(9,j)::l) l = lc_rpad_ok a b c m n f g h i := by intros; rfl
 refine R_nil (tr ..) ?_; clear tr
 refine then_n ?_
 refine at_seq rfl ?_
 refine at_seq rfl ?_
 refine rg rfl ?_
 refine Rq ?_
 refine Rq ?_
 have tr : ∀ a b c d e f g h i j k : AV, let l := lc_rpad_ok a b c d e f g h i; trim ((12,k)::(11,j)::l) l = lc_rpad_ok a b c d e f g k i := by intros; rfl
 refine R_nil (tr ..) ?_; clear tr
 refine then_n ?_
 refine cdd (fun h1 => ?_) (fun h1 => ?_)
 ·
  try simp only [decide_eq_true_eq, decide_eq_false_iff_not, decide_eq_decide, Bool.not_eq_true', Bool.not_eq_false', beq_iff_eq, beq_eq_false_iff_ne, ne_eq, Bool.and_eq_true, Bool.and_eq_false_iff, decide_not] at h1
  refine rg rfl ?_
  refine Rq ?_
  refine R_q (r := u6 (((ab n).toNat : Int))) rfl (by simp (disch := first | omega | (simp only [List.length_map, List.length_append, List.length_set, List.length_cons, List.length_nil]; omega)) only [go_sem, ↓reduceIte, Nat.reduceEqDiff, reduceCtorEq] <;> exact congrArg (fun z => some (u6 z)) (by first | rfl | omega | (unfold ab; omega))) ?_
  refine Rq ?_
  refine Rq ?_
  have tr : ∀ a b c d e f g h i j k m n : AV, let l := lc_rpad_ok a b c d e f g h i; trim ((6,n)::(5,m)::(14,k)::(13,j)::l) l = lc_rpad_ok a b c m n f g h i := by intros; rfl
  refine R_nil (tr ..) ?_; clear tr
  refine then_n ?_
  refine at_seq rfl ?_
  refine rg rfl ?_
  skip
  refine Rq ?_
  refine Rq ?_
  have tr : ∀ a b c d e f g h i j k : AV, let l := lc_rpad_ok a b c d e f g h i; trim ((8,k)::(7,j)::l) l = lc_rpad_ok a b c d e j k h i := by intros; rfl
  refine R_nil (tr ..) ?_; clear tr
  refine then_n ?_
  refine at_seq rfl ?_
  refine at_block rfl ?_
  refine loop_n rfl (fun mm kv H' => ∃ u : Nat, ∃ s : List UInt8, ∃ x24 : AV, (kv = [(6, u6 (u : Int)), (8, sv s), (24, x24)]) ∧ (mm = u + (w.toNat - s.length)) ∧ (H' = H) ∧ (u ≤ 9223372036854775808) ∧ (otx w.toNat u s = padN w.toNat (ab n).toNat)) ⟨(ab n).toNat, [], _, rfl, rfl, rfl, by omega, by exact otx_start (by omega)⟩ (by rfl) ?_
  rintro mm kv H' ⟨u, s, x24, rfl, rfl, rfl, hu, ho⟩
  have tr : ∀ a b c d e f g h i j k m : AV, upd (lc_rpad_ok a b c d e f g h i) [(6,j),(8,k),(24,m)] = lc_rpad_ok a b c d j f k h m := by intros; rfl
  refine W_to (tr ..) ?_; clear tr
  have hsl := otx_len w.toNat u s
  rw [ho] at hsl
  have hpl := pad_len w.toNat (ab n).toNat (by omega) (by omega)
  refine at_seq rfl ?_
  refine at_seq rfl ?_
  refine rg rfl ?_
  refine Rq ?_
  refine Rq ?_
  refine Rq ?_
  refine Rp_split (fun h2 => ?_) (fun h2 => ?_)
  ·
   try simp only [decide_eq_true_eq, decide_eq_false_iff_not, decide_eq_decide, Bool.not_eq_true', Bool.not_eq_false', beq_iff_eq, beq_eq_false_iff_ne, ne_eq, Bool.and_eq_true, Bool.and_eq_false_iff, decide_not] at h2
   refine Rn ?_
   refine Rn ?_
   refine Rn ?_
   refine Rn ?_
   refine Rn ?_
   refine Rn ?_
   refine Rq ?_
   have tr : ∀ a b c d e f g h i j k m n o p q r s t : AV, let l := lc_rpad_ok a b c d e f g h i; trim ((24,t)::(23,s)::(22,r)::(21,q)::(20,p)::(19,o)::(18,n)::(17,m)::(16,k)::(15,j)::l) l = lc_rpad_ok a b c d e f g h t := by intros; rfl
   refine R_nil (tr ..) ?_; clear tr
   refine then_n ?_
   refine cdt ?_
   refine at_skip rfl ?_
   refine then_n ?_
   refine at_block rfl ?_
   refine at_seq rfl ?_
   refine rg rfl ?_
   refine Rq ?_
   refine Rq ?_
   refine R_q (r := u6 (((u % 10 : Nat) : Int))) rfl (by simp (disch := first | omega | (simp only [List.length_map, List.length_append, List.length_set, List.length_cons, List.length_nil]; omega)) only [go_sem, ↓reduceIte, Nat.reduceEqDiff, reduceCtorEq] <;> exact congrArg (fun z => some (u6 z)) (by first | rfl | omega | (unfold ab; omega))) ?_
   refine Rq ?_
   refine R_q (r := u6 (((u % 10 : Nat) : Int))) rfl (by simp (disch := first | omega | (simp only [List.length_map, List.length_append, List.length_set, List.length_cons, List.length_nil]; omega)) only [go_sem, ↓reduceIte, Nat.reduceEqDiff, reduceCtorEq] <;> exact congrArg (fun z => some (u6 z)) (by first | rfl | omega | (unfold ab; omega))) ?_
   refine R_q (r := u6 (((u % 10 : Nat) : Int) + 1)) rfl (by simp (disch := first | omega | (simp only [List.length_map, List.length_append, List.length_set, List.length_cons, List.length_nil]; omega)) only [go_sem, ↓reduceIte, Nat.reduceEqDiff, reduceCtorEq] <;> exact congrArg (fun z => some (u6 z)) (by first | rfl | omega | (unfold ab; omega))) ?_
   refine R_q (r := sv [UInt8.ofNat (48 + u % 10)]) rfl (by simp only [go_sem, ↓reduceIte, Nat.reduceEqDiff]; exact dig_slice (u % 10) (by omega)) ?_
   refine Rq ?_
   refine Rq ?_
   refine Rq ?_
   have tr : ∀ a b c d e f g h i j k m n o p q r s t : AV, let l := lc_rpad_ok a b c d e f g h i; trim ((8,t)::(33,s)::(32,r)::(31,q)::(30,p)::(29,o)::(28,n)::(27,m)::(26,k)::(25,j)::l) l = lc_rpad_ok a b c d e f t h i := by intros; rfl
   refine R_nil (tr ..) ?_; clear tr
   refine then_n ?_
   refine rg rfl ?_
   refine Rq ?_
   refine R_q (r := u6 (((u / 10 : Nat) : Int))) rfl (by simp (disch := first | omega | (simp only [List.length_map, List.length_append, List.length_set, List.length_cons, List.length_nil]; omega)) only [go_sem, ↓reduceIte, Nat.reduceEqDiff, reduceCtorEq] <;> exact congrArg (fun z => some (u6 z)) (by first | rfl | omega | (unfold ab; omega))) ?_
   refine Rq ?_
   have tr : ∀ a b c d e f g h i j k m : AV, let l := lc_rpad_ok a b c d e f g h i; trim ((6,m)::(35,k)::(34,j)::l) l = lc_rpad_ok a b c d m f g h i := by intros; rfl
   refine R_nil (tr ..) ?_; clear tr
   refine blk_n ?_
   refine then_n ?_
   exact ⟨_, _, ⟨u / 10, UInt8.ofNat (48 + u % 10) :: s, _, rfl, rfl, rfl, by omega, by (rw [otx_step (by omega)]; exact ho)⟩, by rfl, by (simp only [List.length_cons]; omega)⟩
  ·
   try simp only [decide_eq_true_eq, decide_eq_false_iff_not, decide_eq_decide, Bool.not_eq_true', Bool.not_eq_false', beq_iff_eq, beq_eq_false_iff_ne, ne_eq, Bool.and_eq_true, Bool.and_eq_false_iff, decide_not] at h2
   refine Ry ?_
   refine Rq ?_
   refine Ry ?_
   refine Rq ?_
   refine Ry ?_
   refine Rq ?_
   refine Ry ?_
   refine Rq ?_
   refine Ry ?_
   refine Rq ?_
   refine Ry ?_
   refine Rq ?_
   refine Rq ?_
   have tr : ∀ a b c d e f g h i j k m n o p q r s t : AV, let l := lc_rpad_ok a b c d e f g h i; trim ((24,t)::(23,s)::(22,r)::(21,q)::(20,p)::(19,o)::(18,n)::(17,m)::(16,k)::(15,j)::l) l = lc_rpad_ok a b c d e f g h t := by intros; rfl
   refine R_nil (tr ..) ?_; clear tr
   refine then_n ?_
   refine cdd (fun h3 => ?_) (fun h3 => ?_)
   ·
    try simp only [decide_eq_true_eq, decide_eq_false_iff_not, decide_eq_decide, Bool.not_eq_true', Bool.not_eq_false', beq_iff_eq, beq_eq_false_iff_ne, ne_eq, Bool.and_eq_true, Bool.and_eq_false_iff, decide_not] at h3
    refine at_skip rfl ?_
    refine then_n ?_
    refine at_block rfl ?_
    refine at_seq rfl ?_
    refine rg rfl ?_
    refine Rq ?_
    refine Rq ?_
    refine R_q (r := u6 (((u % 10 : Nat) : Int))) rfl (by simp (disch := first | omega | (simp only [List.length_map, List.length_append, List.length_set, List.length_cons, List.length_nil]; omega)) only [go_sem, ↓reduceIte, Nat.reduceEqDiff, reduceCtorEq] <;> exact congrArg (fun z => some (u6 z)) (by first | rfl | omega | (unfold ab; omega))) ?_
    refine Rq ?_
    refine R_q (r := u6 (((u % 10 : Nat) : Int))) rfl (by simp (disch := first | omega | (simp only [List.length_map, List.length_append, List.length_set, List.length_cons, List.length_nil]; omega)) only [go_sem, ↓reduceIte, Nat.reduceEqDiff, reduceCtorEq] <;> exact congrArg (fun z => some (u6 z)) (by first | rfl | omega | (unfold ab; omega))) ?_
    refine R_q (r := u6 (((u % 10 : Nat) : Int) + 1)) rfl (by simp (disch := first | omega | (simp only [List.length_map, List.length_append, List.length_set, List.length_cons, List.length_nil]; omega)) only [go_sem, ↓reduceIte, Nat.reduceEqDiff, reduceCtorEq] <;> exact congrArg (fun z => some (u6 z)) (by first | rfl | omega | (unfold ab; omega))) ?_
    refine R_q (r := sv [UInt8.ofNat (48 + u % 10)]) rfl (by simp only [go_sem, ↓reduceIte, Nat.reduceEqDiff]; exact dig_slice (u % 10) (by omega)) ?_
    refine Rq ?_
    refine Rq ?_
    refine Rq ?_
    have tr : ∀ a b c d e f g h i j k m n o p q r s t : AV, let l := lc_rpad_ok a b c d e f g h i; trim ((8,t)::(33,s)::(32,r)::(31,q)::(30,p)::(29,o)::(28,n)::(27,m)::(26,k)::(25,j)::l) l = lc_rpad_ok a b c d e f t h i := by intros; rfl
    refine R_nil (tr ..) ?_; clear tr
    refine then_n ?_
    refine rg rfl ?_
    refine Rq ?_
    refine R_q (r := u6 (((u / 10 : Nat) : Int))) rfl (by simp (disch := first | omega | (simp only [List.length_map, List.length_append, List.length_set, List.length_cons, List.length_nil]; omega)) only [go_sem, ↓reduceIte, Nat.reduceEqDiff, reduceCtorEq] <;> exact congrArg (fun z => some (u6 z)) (by first | rfl | omega | (unfold ab; omega))) ?_
    refine Rq ?_
    have tr : ∀ a b c d e f g h i j k m : AV, let l := lc_rpad_ok a b c d e f g h i; trim ((6,m)::(35,k)::(34,j)::l) l = lc_rpad_ok a b c d m f g h i := by intros; rfl
    refine R_nil (tr ..) ?_; clear tr
    refine blk_n ?_
    refine then_n ?_
    exact ⟨_, _, ⟨u / 10, UInt8.ofNat (48 + u % 10) :: s, _, rfl, rfl, rfl, by omega, by (rw [otx_step (by omega)]; exact ho)⟩, by rfl, by (simp only [List.length_cons]; omega)⟩
   ·
    try simp only [decide_eq_true_eq, decide_eq_false_iff_not, decide_eq_decide, Bool.not_eq_true', Bool.not_eq_false', beq_iff_eq, beq_eq_false_iff_ne, ne_eq, Bool.and_eq_true, Bool.and_eq_false_iff, decide_not] at h3
    refine at_exit rfl ?_
    refine then_x ?_
    refine then_x ?_
    refine blk_x ?_
    refine then_n ?_
    refine at_seq rfl ?_
    refine rg rfl ?_
    obtain rfl : u = 0 := by omega
    rw [otx_end (by omega)] at ho
    refine Rq ?_
    refine Rq ?_
    refine Rq ?_
    refine Rq ?_
    have tr : ∀ a b c d e f g h i j k m n : AV, let l := lc_rpad_ok a b c d e f g h i; trim ((4,n)::(38,m)::(37,k)::(36,j)::l) l = lc_rpad_ok a b n d e f g h i := by intros; rfl
    refine R_nil (tr ..) ?_; clear tr
    refine then_n ?_
    refine at_ret rfl ?_
    first | (refine fpure ?_; refine ⟨?_, rfl⟩; rw [if_pos (by omega), ← ho] <;> rfl; done) | (refine fpure ?_; refine ⟨?_, rfl⟩; rw [if_neg (by omega), ← ho] <;> rfl)
 ·
  try simp only [decide_eq_true_eq, decide_eq_false_iff_not, decide_eq_decide, Bool.not_eq_true', Bool.not_eq_false', beq_iff_eq, beq_eq_false_iff_ne, ne_eq, Bool.and_eq_true, Bool.and_eq_false_iff, decide_not] at h1
  refine at_skip rfl ?_
  refine then_n ?_
  refine at_seq rfl ?_
  refine rg rfl ?_
  rw [show n % 18446744073709551616 = ((ab n).toNat : Int) by rw [ab_pos (by omega)]; omega]
  refine Rq ?_
  refine Rq ?_
  have tr : ∀ a b c d e f g h i j k : AV, let l := lc_rpad_ok a b c d e f g h i; trim ((8,k)::(7,j)::l) l = lc_rpad_ok a b c d e j k h i := by intros; rfl
  refine R_nil (tr ..) ?_; clear tr
  refine then_n ?_
  refine at_seq rfl ?_
  refine at_block rfl ?_
  refine loop_n rfl (fun mm kv H' => ∃ u : Nat, ∃ s : List UInt8, ∃ x24 : AV, (kv = [(6, u6 (u : Int)), (8, sv s), (24, x24)]) ∧ (mm = u + (w.toNat - s.length)) ∧ (H' = H) ∧ (u ≤ 9223372036854775808) ∧ (otx w.toNat u s = padN w.toNat (ab n).toNat)) ⟨(ab n).toNat, [], _, rfl, rfl, rfl, by omega, by exact otx_start (by omega)⟩ (by rfl) ?_
  rintro mm kv H' ⟨u, s, x24, rfl, rfl, rfl, hu, ho⟩
  have tr : ∀ a b c d e f g h i j k m : AV, upd (lc_rpad_ok a b c d e f g h i) [(6,j),(8,k),(24,m)] = lc_rpad_ok a b c d j f k h m := by intros; rfl
  refine W_to (tr ..) ?_; clear tr
  have hsl := otx_len w.toNat u s
  rw [ho] at hsl
  have hpl := pad_len w.toNat (ab n).toNat (by omega) (by omega)
  refine at_seq rfl ?_
  refine at_seq rfl ?_
  refine rg rfl ?_
  refine Rq ?_
  refine Rq ?_
  refine Rq ?_
  refine Rp_split (fun h4 => ?_) (fun h4 => ?_)
  ·
   try simp only [decide_eq_true_eq, decide_eq_false_iff_not, decide_eq_decide, Bool.not_eq_true', Bool.not_eq_false', beq_iff_eq, beq_eq_false_iff_ne, ne_eq, Bool.and_eq_true, Bool.and_eq_false_iff, decide_not] at h4
   refine Rn ?_
   refine Rn ?_
   refine Rn ?_
   refine Rn ?_
   refine Rn ?_
   refine Rn ?_
   refine Rq ?_
   have tr : ∀ a b c d e f g h i j k m n o p q r s t : AV, let l := lc_rpad_ok a b c d e f g h i; trim ((24,t)::(23,s)::(22,r)::(21,q)::(20,p)::(19,o)::(18,n)::(17,m)::(16,k)::(15,j)::l) l = lc_rpad_ok a b c d e f g h t := by intros; rfl
   refine R_nil (tr ..) ?_; clear tr
   refine then_n ?_
   refine cdt ?_
   refine at_skip rfl ?_
   refine then_n ?_
   refine at_block rfl ?_
   refine at_seq rfl ?_
   refine rg rfl ?_
   refine Rq ?_
   refine Rq ?_
   refine R_q (r := u6 (((u % 10 : Nat) : Int))) rfl (by simp (disch := first | omega | (simp only [List.length_map, List.length_append, List.length_set, List.length_cons, List.length_nil]; omega)) only [go_sem, ↓reduceIte, Nat.reduceEqDiff, reduceCtorEq] <;> exact congrArg (fun z => some (u6 z)) (by first | rfl | omega | (unfold ab; omega))) ?_
   refine Rq ?_
   refine R_q (r := u6 (((u % 10 : Nat) : Int))) rfl (by simp (disch := first | omega | (simp only [List.length_map, List.length_append, List.length_set, List.length_cons, List.length_nil]; omega)) only [go_sem, ↓reduceIte, Nat.reduceEqDiff, reduceCtorEq] <;> exact congrArg (fun z => some (u6 z)) (by first | rfl | omega | (unfold ab; omega))) ?_
   refine R_q (r := u6 (((u % 10 : Nat) : Int) + 1)) rfl (by simp (disch := first | omega | (simp only [List.length_map, List.length_append, List.length_set, List.length_cons, List.length_nil]; omega)) only [go_sem, ↓reduceIte, Nat.reduceEqDiff, reduceCtorEq] <;> exact congrArg (fun z => some (u6 z)) (by first | rfl | omega | (unfold ab; omega))) ?_
   refine R_q (r := sv [UInt8.ofNat (48 + u % 10)]) rfl (by simp only [go_sem, ↓reduceIte, Nat.reduceEqDiff]; exact dig_slice (u % 10) (by omega)) ?_
   refine Rq ?_
   refine Rq ?_
   refine Rq ?_
   have tr : ∀ a b c d e f g h i j k m n o p q r s t : AV, let l := lc_rpad_ok a b c d e f g h i; trim ((8,t)::(33,s)::(32,r)::(31,q)::(30,p)::(29,o)::(28,n)::(27,m)::(26,k)::(25,j)::l) l = lc_rpad_ok a b c d e f t h i := by intros; rfl
   refine R_nil (tr ..) ?_; clear tr
   refine then_n ?_
   refine rg rfl ?_
   refine Rq ?_
   refine R_q (r := u6 (((u / 10 : Nat) : Int))) rfl (by simp (disch := first | omega | (simp only [List.length_map, List.length_append, List.length_set, List.length_cons, List.length_nil]; omega)) only [go_sem, ↓reduceIte, Nat.reduceEqDiff, reduceCtorEq] <;> exact congrArg (fun z => some (u6 z)) (by first | rfl | omega | (unfold ab; omega))) ?_
   refine Rq ?_
   have tr : ∀ a b c d e f g h i j k m : AV, let l := lc_rpad_ok a b c d e f g h i; trim ((6,m)::(35,k)::(34,j)::l) l = lc_rpad_ok a b c d m f g h i := by intros; rfl
   refine R_nil (tr ..) ?_; clear tr
   refine blk_n ?_
   refine then_n ?_
   exact ⟨_, _, ⟨u / 10, UInt8.ofNat (48 + u % 10) :: s, _, rfl, rfl, rfl, by omega, by (rw [otx_step (by omega)]; exact ho)⟩, by rfl, by (simp only [List.length_cons]; omega)⟩
  ·
   try simp only [decide_eq_true_eq, decide_eq_false_iff_not, decide_eq_decide, Bool.not_eq_true', Bool.not_eq_false', beq_iff_eq, beq_eq_false_iff_ne, ne_eq, Bool.and_eq_true, Bool.and_eq_false_iff, decide_not] at h4
   refine Ry ?_
   refine Rq ?_
   refine Ry ?_
   refine Rq ?_
   refine Ry ?_
   refine Rq ?_
   refine Ry ?_
   refine Rq ?_
   refine Ry ?_
   refine Rq ?_
   refine Ry ?_
   refine Rq ?_
   refine Rq ?_
   have tr : ∀ a b c d e f g h i j k m n o p q r s t : AV, let l := lc_rpad_ok a b c d e f g h i; trim ((24,t)::(23,s)::(22,r)::(21,q)::(20,p)::(19,o)::(18,n)::(17,m)::(16,k)::(15,j)::l) l = lc_rpad_ok a b c d e f g h t := by intros; rfl
   refine R_nil (tr ..) ?_; clear tr
   refine then_n ?_
   refine cdd (fun h5 => ?_) (fun h5 => ?_)
   ·
    try simp only [decide_eq_true_eq, decide_eq_false_iff_not, decide_eq_decide, Bool.not_eq_true', Bool.not_eq_false', beq_iff_eq, beq_eq_false_iff_ne, ne_eq, Bool.and_eq_true, Bool.and_eq_false_iff, decide_not] at h5
    refine at_skip rfl ?_
    refine then_n ?_
    refine at_block rfl ?_
    refine at_seq rfl ?_
    refine rg rfl ?_
    refine Rq ?_
    refine Rq ?_
    refine R_q (r := u6 (((u % 10 : Nat) : Int))) rfl (by simp (disch := first | omega | (simp only [List.length_map, List.length_append, List.length_set, List.length_cons, List.length_nil]; omega)) only [go_sem, ↓reduceIte, Nat.reduceEqDiff, reduceCtorEq] <;> exact congrArg (fun z => some (u6 z)) (by first | rfl | omega | (unfold ab; omega))) ?_
    refine Rq ?_
    refine R_q (r := u6 (((u % 10 : Nat) : Int))) rfl (by simp (disch := first | omega | (simp only [List.length_map, List.length_append, List.length_set, List.length_cons, List.length_nil]; omega)) only [go_sem, ↓reduceIte, Nat.reduceEqDiff, reduceCtorEq] <;> exact congrArg (fun z => some (u6 z)) (by first | rfl | omega | (unfold ab; omega))) ?_
    refine R_q (r := u6 (((u % 10 : Nat) : Int) + 1)) rfl (by simp (disch := first | omega | (simp only [List.length_map, List.length_append, List.length_set, List.length_cons, List.length_nil]; omega)) only [go_sem, ↓reduceIte, Nat.reduceEqDiff, reduceCtorEq] <;> exact congrArg (fun z => some (u6 z)) (by first | rfl | omega | (unfold ab; omega))) ?_
    refine R_q (r := sv [UInt8.ofNat (48 + u % 10)]) rfl (by simp only [go_sem, ↓reduceIte, Nat.reduceEqDiff]; exact dig_slice (u % 10) (by omega)) ?_
    refine Rq ?_
    refine Rq ?_
    refine Rq ?_
    have tr : ∀ a b c d e f g h i j k m n o p q r s t : AV, let l := lc_rpad_ok a b c d e f g h i; trim ((8,t)::(33,s)::(32,r)::(31,q)::(30,p)::(29,o)::(28,n)::(27,m)::(26,k)::(25,j)::l) l = lc_rpad_ok a b c d e f t h i := by intros; rfl
    refine R_nil (tr ..) ?_; clear tr
    refine then_n ?_
    refine rg rfl ?_
    refine Rq ?_
    refine R_q (r := u6 (((u / 10 : Nat) : Int))) rfl (by simp (disch := first | omega | (simp only [List.length_map, List.length_append, List.length_set, List.length_cons, List.length_nil]; omega)) only [go_sem, ↓reduceIte, Nat.reduceEqDiff, reduceCtorEq] <;> exact congrArg (fun z => some (u6 z)) (by first | rfl | omega | (unfold ab; omega))) ?_
    refine Rq ?_
    have tr : ∀ a b c d e f g h i j k m : AV, let l := lc_rpad_ok a b c d e f g h i; trim ((6,m)::(35,k)::(34,j)::l) l = lc_rpad_ok a b c d m f g h i := by intros; rfl
    refine R_nil (tr ..) ?_; clear tr
    refine blk_n ?_
    refine then_n ?_
    exact ⟨_, _, ⟨u / 10, UInt8.ofNat (48 + u % 10) :: s, _, rfl, rfl, rfl, by omega, by (rw [otx_step (by omega)]; exact ho)⟩, by rfl, by (simp only [List.length_cons]; omega)⟩
   ·
    try simp only [decide_eq_true_eq, decide_eq_false_iff_not, decide_eq_decide, Bool.not_eq_true', Bool.not_eq_false', beq_iff_eq, beq_eq_false_iff_ne, ne_eq, Bool.and_eq_true, Bool.and_eq_false_iff, decide_not] at h5
    refine at_exit rfl ?_
    refine then_x ?_
    refine then_x ?_
    refine blk_x ?_
    refine then_n ?_
    refine at_seq rfl ?_
    refine rg rfl ?_
    obtain rfl : u = 0 := by omega
    rw [otx_end (by omega)] at ho
    refine Rq ?_
    refine Rq ?_
    refine Rq ?_
    refine Rq ?_
    have tr : ∀ a b c d e f g h i j k m n : AV, let l := lc_rpad_ok a b c d e f g h i; trim ((4,n)::(38,m)::(37,k)::(36,j)::l) l = lc_rpad_ok a b n d e f g h i := by intros; rfl
    refine R_nil (tr ..) ?_; clear tr
    refine then_n ?_
    refine at_ret rfl ?_
    first | (refine fpure ?_; refine ⟨?_, rfl⟩; rw [if_pos (by omega), ← ho] <;> rfl; done) | (refine fpure ?_; refine ⟨?_, rfl⟩; rw [if_neg (by omega), ← ho] <;> rfl)

abbrev lc_rdec_ok (a b : AV) : Env := [(0,a),(2,b)]
theorem rdec_ok (lim : Nat) (H : Heap) (n : Int) (hn : -9223372036854775808 ≤ n ∧ n ≤ 9223372036854775807) : ACall sig lim 39 [AV.i n] H fun r H' => r = sv (txW n) ∧ H' = H := by
 refine ACall_pure (fa := fa39) rfl rfl rfl rfl ?_
 have tr : ∀ a0 : AV, env0 fa39.keep [a0] = lc_rdec_ok a0 .any := fun a0 => rfl
 refine W_to (tr _) ?_; clear tr
 refine at_seq rfl ?_
 refine rg rfl ?_
 refine Rq ?_
 have tr : ∀ a b c : AV, let l := lc_rdec_ok a b; trim ((2,c)::l) l = lc_rdec_ok a c := by intros; rfl
 refine R_nil (tr ..) ?_; clear tr
 refine then_n ?_
 refine at_seq rfl ?_
 refine rg rfl ?_
 refine Rq ?_
 refine Rcall ?_
 refine ACall_eq (rpad_ok _ _ n hn 1 (by omega)) ?_
 rw [show ((1 : Int).toNat) = 1 from rfl, pad_one]
 refine Rq ?_
 have tr : ∀ a b c d e : AV, let l := lc_rdec_ok a b; trim ((2,e)::(4,d)::(3,c)::l) l = lc_rdec_ok a e := by intros; rfl
 refine R_nil (tr ..) ?_; clear tr
 refine then_n ?_
 refine at_ret rfl ?_
 refine fpure ?_
 refine ⟨?_, rfl⟩
 rfl

end Go.Proofs.YtfnapmdedmbdbaaDoor
end
section
set_option linter.unusedSimpArgs false
set_option linter.unusedVariables false
set_option maxHeartbeats 1000000
set_option maxRecDepth 20000
namespace Go.Proofs.YtfnapmdedmbdbaaDoor
open Go Go.Am
abbrev lc_prate_ok (a b c d e f g h i j k m : AV) : Env := [(0,a),(1,b),(2,c),(4,d),(5,e),(6,f),(7,g),(8,h),(9,i),(10,j),(26,k),(46,m)]
theorem prate_ok (lim : Nat) (H : Heap) (z : St) (b : Int) (hb : -9223372036854775808 ≤ b ∧ b ≤ 9223372036854775807) : ACall sig lim 15 [stA z, AV.i b] H fun r H' => r = .tup [sv (rtS z b).1, AV.i (rtS z b).2] ∧ H' = H := by
 refine ACall_pure (fa := fa15) rfl rfl rfl rfl ?_
 have tr : ∀ a0 a1 : AV, env0 fa15.keep [a0, a1] = lc_prate_ok a0 a1 .any .any .any .any .any .any .any .any .any .any := fun a0 a1 => rfl
 refine W_to (tr _ _) ?_; clear tr
 refine at_seq rfl ?_
 refine rg rfl ?_
 refine R_box rfl (by simp (disch := first | omega | (simp only [List.length_map, List.length_append, List.length_set, List.length_cons, List.length_nil]; omega)) only [go_sem, ↓reduceIte, Nat.reduceEqDiff, reduceCtorEq] <;> rfl) rfl rfl ?_
 refine Rq ?_
 refine Rq ?_
 have tr : ∀ a b c d e f g h i j k m n o p : AV, let l := lc_prate_ok a b c d e f g h i j k m; trim ((5,p)::(4,o)::(2,n)::l) l = lc_prate_ok a b n o p f g h i j k m := by intros; rfl
 refine R_nil (tr ..) ?_; clear tr
 refine then_n ?_
 refine at_seq rfl ?_
 refine rg rfl ?_
 refine Rq ?_
 refine Rcall ?_
 refine ACall_eq (rate_ok _ _ _) ?_
 refine Rq ?_
 refine Rq ?_
 refine Rq ?_
 refine Rq ?_
 refine Rq ?_
 refine Rq ?_
 refine Rq ?_
 have tr : ∀ a b c d e f g h i j k m n o p q r s t u v : AV, let l := lc_prate_ok a b c d e f g h i j k m; trim ((8,v)::(7,u)::(6,t)::(16,s)::(15,r)::(14,q)::(11,p)::(13,o)::(12,n)::l) l = lc_prate_ok a b c d e t u v i j k m := by intros; rfl
 refine R_nil (tr ..) ?_; clear tr
 refine then_n ?_
 refine at_seq rfl ?_
 refine at_seq rfl ?_
 refine rg rfl ?_
 refine Rq ?_
 refine Rq ?_
 refine Rq ?_
 refine Rp_split (fun h1 => ?_) (fun h1 => ?_)
 ·
  try simp only [decide_eq_true_eq, decide_eq_false_iff_not, decide_eq_decide, Bool.not_eq_true', Bool.not_eq_false', beq_iff_eq, beq_eq_false_iff_ne, ne_eq, Bool.and_eq_true, Bool.and_eq_false_iff, decide_not] at h1
  refine Rn ?_
  refine Rn ?_
  refine Rq ?_
  refine Rq ?_
  refine Rn ?_
  refine Rn ?_
  refine Rq ?_
  have tr : ∀ a b c d e f g h i j k m n o p q r s t u v w : AV, let l := lc_prate_ok a b c d e f g h i j k m; trim ((26,w)::(25,v)::(24,u)::(23,t)::(22,s)::(21,r)::(20,q)::(19,p)::(18,o)::(17,n)::l) l = lc_prate_ok a b c d e f g h i j w m := by intros; rfl
  refine R_nil (tr ..) ?_; clear tr
  refine then_n ?_
  refine cdt ?_
  refine at_seq rfl ?_
  refine rg rfl ?_
  refine Rq ?_
  refine Rq ?_
  have tr : ∀ a b c d e f g h i j k m n o : AV, let l := lc_prate_ok a b c d e f g h i j k m; trim ((5,o)::(4,n)::l) l = lc_prate_ok a b c n o f g h i j k m := by intros; rfl
  refine R_nil (tr ..) ?_; clear tr
  refine then_n ?_
  refine at_ret rfl ?_
  refine then_r ?_
  first | (refine fpure ?_; refine ⟨?_, rfl⟩; rw [rtS_n (fun h => by first | exact absurd h.1 (by assumption) | (have h2 := h.2; omega))] <;> rfl; done) | (refine fpure ?_; refine ⟨?_, rfl⟩; rw [rtS_y hok, rtx_m (by omega)]; refine congrArg (fun l => AV.tup [sv l, AV.i 0]) ?_; simp; done) | (refine fpure ?_; refine ⟨?_, rfl⟩; rw [rtS_y hok, rtx_p (by omega)]; refine congrArg (fun l => AV.tup [sv l, AV.i 0]) ?_; simp; done)
 ·
  try simp only [decide_eq_true_eq, decide_eq_false_iff_not, decide_eq_decide, Bool.not_eq_true', Bool.not_eq_false', beq_iff_eq, beq_eq_false_iff_ne, ne_eq, Bool.and_eq_true, Bool.and_eq_false_iff, decide_not] at h1
  refine Ry ?_
  refine Rq ?_
  refine Ry ?_
  refine Rq ?_
  refine Rq ?_
  refine Rq ?_
  refine Rp_split (fun h2 => ?_) (fun h2 => ?_)
  ·
   try simp only [decide_eq_true_eq, decide_eq_false_iff_not, decide_eq_decide, Bool.not_eq_true', Bool.not_eq_false', beq_iff_eq, beq_eq_false_iff_ne, ne_eq, Bool.and_eq_true, Bool.and_eq_false_iff, decide_not] at h2
   refine Rn ?_
   refine Rn ?_
   refine Rq ?_
   have tr : ∀ a b c d e f g h i j k m n o p q r s t u v w : AV, let l := lc_prate_ok a b c d e f g h i j k m; trim ((26,w)::(25,v)::(24,u)::(23,t)::(22,s)::(21,r)::(20,q)::(19,p)::(18,o)::(17,n)::l) l = lc_prate_ok a b c d e f g h i j w m := by intros; rfl
   refine R_nil (tr ..) ?_; clear tr
   refine then_n ?_
   refine cdt ?_
   refine at_seq rfl ?_
   refine rg rfl ?_
   refine Rq ?_
   refine Rq ?_
   have tr : ∀ a b c d e f g h i j k m n o : AV, let l := lc_prate_ok a b c d e f g h i j k m; trim ((5,o)::(4,n)::l) l = lc_prate_ok a b c n o f g h i j k m := by intros; rfl
   refine R_nil (tr ..) ?_; clear tr
   refine then_n ?_
   refine at_ret rfl ?_
   refine then_r ?_
   first | (refine fpure ?_; refine ⟨?_, rfl⟩; rw [rtS_n (fun h => by first | exact absurd h.1 (by assumption) | (have h2 := h.2; omega))] <;> rfl; done) | (refine fpure ?_; refine ⟨?_, rfl⟩; rw [rtS_y hok, rtx_m (by omega)]; refine congrArg (fun l => AV.tup [sv l, AV.i 0]) ?_; simp; done) | (refine fpure ?_; refine ⟨?_, rfl⟩; rw [rtS_y hok, rtx_p (by omega)]; refine congrArg (fun l => AV.tup [sv l, AV.i 0]) ?_; simp; done)
  ·
   try simp only [decide_eq_true_eq, decide_eq_false_iff_not, decide_eq_decide, Bool.not_eq_true', Bool.not_eq_false', beq_iff_eq, beq_eq_false_iff_ne, ne_eq, Bool.and_eq_true, Bool.and_eq_false_iff, decide_not] at h2
   refine Ry ?_
   refine Rq ?_
   refine Ry ?_
   refine Rq ?_
   refine Rq ?_
   have tr : ∀ a b c d e f g h i j k m n o p q r s t u v w : AV, let l := lc_prate_ok a b c d e f g h i j k m; trim ((26,w)::(25,v)::(24,u)::(23,t)::(22,s)::(21,r)::(20,q)::(19,p)::(18,o)::(17,n)::l) l = lc_prate_ok a b c d e f g h i j w m := by intros; rfl
   refine R_nil (tr ..) ?_; clear tr
   refine then_n ?_
   refine cdd (fun h3 => ?_) (fun h3 => ?_)
   ·
    try simp only [decide_eq_true_eq, decide_eq_false_iff_not, decide_eq_decide, Bool.not_eq_true', Bool.not_eq_false', beq_iff_eq, beq_eq_false_iff_ne, ne_eq, Bool.and_eq_true, Bool.and_eq_false_iff, decide_not] at h3
    refine at_seq rfl ?_
    refine rg rfl ?_
    refine Rq ?_
    refine Rq ?_
    have tr : ∀ a b c d e f g h i j k m n o : AV, let l := lc_prate_ok a b c d e f g h i j k m; trim ((5,o)::(4,n)::l) l = lc_prate_ok a b c n o f g h i j k m := by intros; rfl
    refine R_nil (tr ..) ?_; clear tr
    refine then_n ?_
    refine at_ret rfl ?_
    refine then_r ?_
    first | (refine fpure ?_; refine ⟨?_, rfl⟩; rw [rtS_n (fun h => by first | exact absurd h.1 (by assumption) | (have h2 := h.2; omega))] <;> rfl; done) | (refine fpure ?_; refine ⟨?_, rfl⟩; rw [rtS_y hok, rtx_m (by omega)]; refine congrArg (fun l => AV.tup [sv l, AV.i 0]) ?_; simp; done) | (refine fpure ?_; refine ⟨?_, rfl⟩; rw [rtS_y hok, rtx_p (by omega)]; refine congrArg (fun l => AV.tup [sv l, AV.i 0]) ?_; simp; done)
   ·
    try simp only [decide_eq_true_eq, decide_eq_false_iff_not, decide_eq_decide, Bool.not_eq_true', Bool.not_eq_false', beq_iff_eq, beq_eq_false_iff_ne, ne_eq, Bool.and_eq_true, Bool.and_eq_false_iff, decide_not] at h3
    refine at_skip rfl ?_
    refine then_n ?_
    refine at_seq rfl ?_
    refine rg rfl ?_
    have hok : okR z b := ⟨by assumption, by omega⟩
    rw [rtN_y hok.1, rtD_y hok.1]
    have h1 := rxn_rng hok.1
    have h2 := rxd_rng hok.1
    have h3 := scal_rng h1 hok.2
    have hg4 := rq_rng hok
    obtain ⟨T, hT⟩ : ∃ T, T = rxn z * (b * 1000) := ⟨_, rfl⟩
    rw [← hT] at h3
    have hg5 := rq_at hT
    refine Rq ?_
    refine Rq ?_
    refine Rq ?_
    refine R_q (r := AV.i (T)) rfl (by simp (disch := first | omega | (simp only [List.length_map, List.length_append, List.length_set, List.length_cons, List.length_nil]; omega)) only [go_sem, ↓reduceIte, Nat.reduceEqDiff, reduceCtorEq] <;> exact congrArg (fun z => some (AV.i z)) (by first | exact hT.symm | omega)) ?_
    refine Rq ?_
    have tr : ∀ a b c d e f g h i j k m n o p q r : AV, let l := lc_prate_ok a b c d e f g h i j k m; trim ((6,r)::(30,q)::(29,p)::(28,o)::(27,n)::l) l = lc_prate_ok a b c d e r g h i j k m := by intros; rfl
    refine R_nil (tr ..) ?_; clear tr
    refine then_n ?_
    refine at_seq rfl ?_
    refine rg rfl ?_
    refine Rq ?_
    refine Rq ?_
    refine Rq ?_
    refine Rq ?_
    refine Rq ?_
    refine Rq ?_
    refine Rq ?_
    refine Rq ?_
    refine Rq ?_
    refine R_q (r := AV.i (rq z b)) rfl (by simp (disch := first | omega | (simp only [List.length_map, List.length_append, List.length_set, List.length_cons, List.length_nil]; omega)) only [go_sem, ↓reduceIte, Nat.reduceEqDiff, reduceCtorEq] <;> exact congrArg (fun z => some (AV.i z)) (by first | exact q_wrap (by unfold ab; split <;> omega) rfl hg5 hg4 | exact q_wrap (by unfold ab; split <;> omega) (by omega) hg5 hg4)) ?_
    refine Rq ?_
    have tr : ∀ a b c d e f g h i j k m n o p q r s t u v w x : AV, let l := lc_prate_ok a b c d e f g h i j k m; trim ((9,x)::(40,w)::(39,v)::(38,u)::(37,t)::(36,s)::(35,r)::(34,q)::(33,p)::(32,o)::(31,n)::l) l = lc_prate_ok a b c d e f g h x j k m := by intros; rfl
    refine R_nil (tr ..) ?_; clear tr
    refine then_n ?_
    refine at_seq rfl ?_
    refine rg rfl ?_
    refine Rq ?_
    have tr : ∀ a b c d e f g h i j k m n : AV, let l := lc_prate_ok a b c d e f g h i j k m; trim ((10,n)::l) l = lc_prate_ok a b c d e f g h i n k m := by intros; rfl
    refine R_nil (tr ..) ?_; clear tr
    refine then_n ?_
    refine at_seq rfl ?_
    refine at_seq rfl ?_
    refine rg rfl ?_
    refine Rq ?_
    refine Rq ?_
    refine Rq ?_
    refine Rp_split (fun h4 => ?_) (fun h4 => ?_)
    ·
     try simp only [decide_eq_true_eq, decide_eq_false_iff_not, decide_eq_decide, Bool.not_eq_true', Bool.not_eq_false', beq_iff_eq, beq_eq_false_iff_ne, ne_eq, Bool.and_eq_true, Bool.and_eq_false_iff, decide_not] at h4
     refine Ry ?_
     refine Rq ?_
     refine Ry ?_
     refine Rq ?_
     refine Rq ?_
     have tr : ∀ a b c d e f g h i j k m n o p q r s : AV, let l := lc_prate_ok a b c d e f g h i j k m; trim ((46,s)::(45,r)::(44,q)::(43,p)::(42,o)::(41,n)::l) l = lc_prate_ok a b c d e f g h i j k s := by intros; rfl
     refine R_nil (tr ..) ?_; clear tr
     refine then_n ?_
     refine cdd (fun h5 => ?_) (fun h5 => ?_)
     ·
      try simp only [decide_eq_true_eq, decide_eq_false_iff_not, decide_eq_decide, Bool.not_eq_true', Bool.not_eq_false', beq_iff_eq, beq_eq_false_iff_ne, ne_eq, Bool.and_eq_true, Bool.and_eq_false_iff, decide_not] at h5
      refine rg rfl ?_
      refine Rq ?_
      have tr : ∀ a b c d e f g h i j k m n : AV, let l := lc_prate_ok a b c d e f g h i j k m; trim ((10,n)::l) l = lc_prate_ok a b c d e f g h i n k m := by intros; rfl
      refine R_nil (tr ..) ?_; clear tr
      refine then_n ?_
      refine at_seq rfl ?_
      refine rg rfl ?_
      have hq1 := dd_len20 (n := (rq z b / 1000).toNat) (by omega)
      have hq2 := pad_len3 (n := (rq z b % 1000).toNat) (by omega)
      refine Rq ?_
      refine Rq ?_
      refine Rq ?_
      refine Rcall ?_
      refine ACall_eq (dec_ok _ _ (rq z b / 1000) (by omega)) ?_
      rw [txW_nn (by omega)]
      refine Rq ?_
      refine Rq ?_
      refine Rq ?_
      refine Rq ?_
      refine Rcall ?_
      refine ACall_eq (pad_ok _ _ (rq z b % 1000) (by omega) 3 (by omega)) ?_
      rw [show ((3 : Int).toNat) = 3 from rfl]
      refine Rq ?_
      refine Rq ?_
      refine Rq ?_
      have tr : ∀ a b c d e f g h i j k m n o p q r s t u v w x y : AV, let l := lc_prate_ok a b c d e f g h i j k m; trim ((5,y)::(4,x)::(56,w)::(55,v)::(54,u)::(53,t)::(52,s)::(51,r)::(50,q)::(49,p)::(48,o)::(47,n)::l) l = lc_prate_ok a b c x y f g h i j k m := by intros; rfl
      refine R_nil (tr ..) ?_; clear tr
      refine then_n ?_
      refine at_ret rfl ?_
      first | (refine fpure ?_; refine ⟨?_, rfl⟩; rw [rtS_n (fun h => by first | exact absurd h.1 (by assumption) | (have h2 := h.2; omega))] <;> rfl; done) | (refine fpure ?_; refine ⟨?_, rfl⟩; rw [rtS_y hok, rtx_m (by omega)]; refine congrArg (fun l => AV.tup [sv l, AV.i 0]) ?_; simp; done) | (refine fpure ?_; refine ⟨?_, rfl⟩; rw [rtS_y hok, rtx_p (by omega)]; refine congrArg (fun l => AV.tup [sv l, AV.i 0]) ?_; simp; done)
     ·
      try simp only [decide_eq_true_eq, decide_eq_false_iff_not, decide_eq_decide, Bool.not_eq_true', Bool.not_eq_false', beq_iff_eq, beq_eq_false_iff_ne, ne_eq, Bool.and_eq_true, Bool.and_eq_false_iff, decide_not] at h5
      refine at_skip rfl ?_
      refine then_n ?_
      refine at_seq rfl ?_
      refine rg rfl ?_
      have hq1 := dd_len20 (n := (rq z b / 1000).toNat) (by omega)
      have hq2 := pad_len3 (n := (rq z b % 1000).toNat) (by omega)
      refine Rq ?_
      refine Rq ?_
      refine Rq ?_
      refine Rcall ?_
      refine ACall_eq (dec_ok _ _ (rq z b / 1000) (by omega)) ?_
      rw [txW_nn (by omega)]
      refine Rq ?_
      refine Rq ?_
      refine Rq ?_
      refine Rq ?_
      refine Rcall ?_
      refine ACall_eq (pad_ok _ _ (rq z b % 1000) (by omega) 3 (by omega)) ?_
      rw [show ((3 : Int).toNat) = 3 from rfl]
      refine Rq ?_
      refine Rq ?_
      refine Rq ?_
      have tr : ∀ a b c d e f g h i j k m n o p q r s t u v w x y : AV, let l := lc_prate_ok a b c d e f g h i j k m; trim ((5,y)::(4,x)::(56,w)::(55,v)::(54,u)::(53,t)::(52,s)::(51,r)::(50,q)::(49,p)::(48,o)::(47,n)::l) l = lc_prate_ok a b c x y f g h i j k m := by intros; rfl
      refine R_nil (tr ..) ?_; clear tr
      refine then_n ?_
      refine at_ret rfl ?_
      first | (refine fpure ?_; refine ⟨?_, rfl⟩; rw [rtS_n (fun h => by first | exact absurd h.1 (by assumption) | (have h2 := h.2; omega))] <;> rfl; done) | (refine fpure ?_; refine ⟨?_, rfl⟩; rw [rtS_y hok, rtx_m (by omega)]; refine congrArg (fun l => AV.tup [sv l, AV.i 0]) ?_; simp; done) | (refine fpure ?_; refine ⟨?_, rfl⟩; rw [rtS_y hok, rtx_p (by omega)]; refine congrArg (fun l => AV.tup [sv l, AV.i 0]) ?_; simp; done)
    ·
     try simp only [decide_eq_true_eq, decide_eq_false_iff_not, decide_eq_decide, Bool.not_eq_true', Bool.not_eq_false', beq_iff_eq, beq_eq_false_iff_ne, ne_eq, Bool.and_eq_true, Bool.and_eq_false_iff, decide_not] at h4
     refine Rn ?_
     refine Rn ?_
     refine Rq ?_
     have tr : ∀ a b c d e f g h i j k m n o p q r s : AV, let l := lc_prate_ok a b c d e f g h i j k m; trim ((46,s)::(45,r)::(44,q)::(43,p)::(42,o)::(41,n)::l) l = lc_prate_ok a b c d e f g h i j k s := by intros; rfl
     refine R_nil (tr ..) ?_; clear tr
     refine then_n ?_
     refine cdf ?_
     refine at_skip rfl ?_
     refine then_n ?_
     refine at_seq rfl ?_
     refine rg rfl ?_
     have hq1 := dd_len20 (n := (rq z b / 1000).toNat) (by omega)
     have hq2 := pad_len3 (n := (rq z b % 1000).toNat) (by omega)
     refine Rq ?_
     refine Rq ?_
     refine Rq ?_
     refine Rcall ?_
     refine ACall_eq (dec_ok _ _ (rq z b / 1000) (by omega)) ?_
     rw [txW_nn (by omega)]
     refine Rq ?_
     refine Rq ?_
     refine Rq ?_
     refine Rq ?_
     refine Rcall ?_
     refine ACall_eq (pad_ok _ _ (rq z b % 1000) (by omega) 3 (by omega)) ?_
     rw [show ((3 : Int).toNat) = 3 from rfl]
     refine Rq ?_
     refine Rq ?_
     refine Rq ?_
     have tr : ∀ a b c d e f g h i j k m n o p q r s t u v w x y : AV, let l := lc_prate_ok a b c d e f g h i j k m; trim ((5,y)::(4,x)::(56,w)::(55,v)::(54,u)::(53,t)::(52,s)::(51,r)::(50,q)::(49,p)::(48,o)::(47,n)::l) l = lc_prate_ok a b c x y f g h i j k m := by intros; rfl
     refine R_nil (tr ..) ?_; clear tr
     refine then_n ?_
     refine at_ret rfl ?_
     first | (refine fpure ?_; refine ⟨?_, rfl⟩; rw [rtS_n (fun h => by first | exact absurd h.1 (by assumption) | (have h2 := h.2; omega))] <;> rfl; done) | (refine fpure ?_; refine ⟨?_, rfl⟩; rw [rtS_y hok, rtx_m (by omega)]; refine congrArg (fun l => AV.tup [sv l, AV.i 0]) ?_; simp; done) | (refine fpure ?_; refine ⟨?_, rfl⟩; rw [rtS_y hok, rtx_p (by omega)]; refine congrArg (fun l => AV.tup [sv l, AV.i 0]) ?_; simp; done)

abbrev lc_rprate_ok (a b c d e f g h i j k m : AV) : Env := [(0,a),(1,b),(2,c),(4,d),(5,e),(6,f),(7,g),(8,h),(9,i),(20,j),(27,k),(40,m)]
theorem rprate_ok (lim : Nat) (H : Heap) (z : St) (b : Int) (hb : -9223372036854775808 ≤ b ∧ b ≤ 9223372036854775807) : ACall sig lim 18 [stA z, AV.i b] H fun r H' => r = .tup [sv (rtS z b).1, AV.i (rtS z b).2] ∧ H' = H := by
 refine ACall_pure (fa := fa18) rfl rfl rfl rfl ?_
 have tr : ∀ a0 a1 : AV, env0 fa18.keep [a0, a1] = lc_rprate_ok a0 a1 .any .any .any .any .any .any .any .any .any .any := fun a0 a1 => rfl
 refine W_to (tr _ _) ?_; clear tr
 refine at_seq rfl ?_
 refine rg rfl ?_
 refine R_box rfl (by simp (disch := first | omega | (simp only [List.length_map, List.length_append, List.length_set, List.length_cons, List.length_nil]; omega)) only [go_sem, ↓reduceIte, Nat.reduceEqDiff, reduceCtorEq] <;> rfl) rfl rfl ?_
 refine Rq ?_
 refine Rq ?_
 have tr : ∀ a b c d e f g h i j k m n o p : AV, let l := lc_rprate_ok a b c d e f g h i j k m; trim ((5,p)::(4,o)::(2,n)::l) l = lc_rprate_ok a b n o p f g h i j k m := by intros; rfl
 refine R_nil (tr ..) ?_; clear tr
 refine then_n ?_
 refine at_seq rfl ?_
 refine at_seq rfl ?_
 refine rg rfl ?_
 refine Rq ?_
 refine Rcall ?_
 refine ACall_eq (valid_ok _ _ _) ?_
 refine Rq ?_
 refine Rq ?_
 refine Rp_split (fun h1 => ?_) (fun h1 => ?_)
 ·
  try simp only [decide_eq_true_eq, decide_eq_false_iff_not, decide_eq_decide, Bool.not_eq_true', Bool.not_eq_false', beq_iff_eq, beq_eq_false_iff_ne, ne_eq, Bool.and_eq_true, Bool.and_eq_false_iff, decide_not] at h1
  refine Rn ?_
  refine Rn ?_
  refine Rq ?_
  refine Rq ?_
  refine Rn ?_
  refine Rn ?_
  refine Rq ?_
  have tr : ∀ a b c d e f g h i j k m n o p q r s t u v w x : AV, let l := lc_rprate_ok a b c d e f g h i j k m; trim ((20,x)::(19,w)::(18,v)::(17,u)::(16,t)::(15,s)::(14,r)::(13,q)::(12,p)::(11,o)::(10,n)::l) l = lc_rprate_ok a b c d e f g h i x k m := by intros; rfl
  refine R_nil (tr ..) ?_; clear tr
  refine then_n ?_
  refine cdt ?_
  refine at_seq rfl ?_
  refine rg rfl ?_
  refine Rq ?_
  refine Rq ?_
  have tr : ∀ a b c d e f g h i j k m n o : AV, let l := lc_rprate_ok a b c d e f g h i j k m; trim ((5,o)::(4,n)::l) l = lc_rprate_ok a b c n o f g h i j k m := by intros; rfl
  refine R_nil (tr ..) ?_; clear tr
  refine then_n ?_
  refine at_ret rfl ?_
  refine then_r ?_
  first | (refine fpure ?_; refine ⟨?_, rfl⟩; rw [rtS_n (fun h => by first | exact absurd h.1 (by assumption) | (have h2 := h.2; omega))] <;> rfl; done) | (refine fpure ?_; refine ⟨?_, rfl⟩; rw [rtS_y hok, rtx_m (by omega)]; refine congrArg (fun l => AV.tup [sv l, AV.i 0]) ?_; simp; done) | (refine fpure ?_; refine ⟨?_, rfl⟩; rw [rtS_y hok, rtx_p (by omega)]; refine congrArg (fun l => AV.tup [sv l, AV.i 0]) ?_; simp; done)
 ·
  try simp only [decide_eq_true_eq, decide_eq_false_iff_not, decide_eq_decide, Bool.not_eq_true', Bool.not_eq_false', beq_iff_eq, beq_eq_false_iff_ne, ne_eq, Bool.and_eq_true, Bool.and_eq_false_iff, decide_not] at h1
  refine Ry ?_
  refine Rq ?_
  refine Ry ?_
  refine Rq ?_
  refine Rq ?_
  refine Rq ?_
  refine Rp_split (fun h2 => ?_) (fun h2 => ?_)
  ·
   try simp only [decide_eq_true_eq, decide_eq_false_iff_not, decide_eq_decide, Bool.not_eq_true', Bool.not_eq_false', beq_iff_eq, beq_eq_false_iff_ne, ne_eq, Bool.and_eq_true, Bool.and_eq_false_iff, decide_not] at h2
   refine Rn ?_
   refine Rn ?_
   refine Rq ?_
   have tr : ∀ a b c d e f g h i j k m n o p q r s t u v w x : AV, let l := lc_rprate_ok a b c d e f g h i j k m; trim ((20,x)::(19,w)::(18,v)::(17,u)::(16,t)::(15,s)::(14,r)::(13,q)::(12,p)::(11,o)::(10,n)::l) l = lc_rprate_ok a b c d e f g h i x k m := by intros; rfl
   refine R_nil (tr ..) ?_; clear tr
   refine then_n ?_
   refine cdt ?_
   refine at_seq rfl ?_
   refine rg rfl ?_
   refine Rq ?_
   refine Rq ?_
   have tr : ∀ a b c d e f g h i j k m n o : AV, let l := lc_rprate_ok a b c d e f g h i j k m; trim ((5,o)::(4,n)::l) l = lc_rprate_ok a b c n o f g h i j k m := by intros; rfl
   refine R_nil (tr ..) ?_; clear tr
   refine then_n ?_
   refine at_ret rfl ?_
   refine then_r ?_
   first | (refine fpure ?_; refine ⟨?_, rfl⟩; rw [rtS_n (fun h => by first | exact absurd h.1 (by assumption) | (have h2 := h.2; omega))] <;> rfl; done) | (refine fpure ?_; refine ⟨?_, rfl⟩; rw [rtS_y hok, rtx_m (by omega)]; refine congrArg (fun l => AV.tup [sv l, AV.i 0]) ?_; simp; done) | (refine fpure ?_; refine ⟨?_, rfl⟩; rw [rtS_y hok, rtx_p (by omega)]; refine congrArg (fun l => AV.tup [sv l, AV.i 0]) ?_; simp; done)
  ·
   try simp only [decide_eq_true_eq, decide_eq_false_iff_not, decide_eq_decide, Bool.not_eq_true', Bool.not_eq_false', beq_iff_eq, beq_eq_false_iff_ne, ne_eq, Bool.and_eq_true, Bool.and_eq_false_iff, decide_not] at h2
   refine Ry ?_
   refine Rq ?_
   refine Ry ?_
   refine Rq ?_
   refine Rq ?_
   have tr : ∀ a b c d e f g h i j k m n o p q r s t u v w x : AV, let l := lc_rprate_ok a b c d e f g h i j k m; trim ((20,x)::(19,w)::(18,v)::(17,u)::(16,t)::(15,s)::(14,r)::(13,q)::(12,p)::(11,o)::(10,n)::l) l = lc_rprate_ok a b c d e f g h i x k m := by intros; rfl
   refine R_nil (tr ..) ?_; clear tr
   refine then_n ?_
   refine cdd (fun h3 => ?_) (fun h3 => ?_)
   ·
    try simp only [decide_eq_true_eq, decide_eq_false_iff_not, decide_eq_decide, Bool.not_eq_true', Bool.not_eq_false', beq_iff_eq, beq_eq_false_iff_ne, ne_eq, Bool.and_eq_true, Bool.and_eq_false_iff, decide_not] at h3
    refine at_seq rfl ?_
    refine rg rfl ?_
    refine Rq ?_
    refine Rq ?_
    have tr : ∀ a b c d e f g h i j k m n o : AV, let l := lc_rprate_ok a b c d e f g h i j k m; trim ((5,o)::(4,n)::l) l = lc_rprate_ok a b c n o f g h i j k m := by intros; rfl
    refine R_nil (tr ..) ?_; clear tr
    refine then_n ?_
    refine at_ret rfl ?_
    refine then_r ?_
    first | (refine fpure ?_; refine ⟨?_, rfl⟩; rw [rtS_n (fun h => by first | exact absurd h.1 (by assumption) | (have h2 := h.2; omega))] <;> rfl; done) | (refine fpure ?_; refine ⟨?_, rfl⟩; rw [rtS_y hok, rtx_m (by omega)]; refine congrArg (fun l => AV.tup [sv l, AV.i 0]) ?_; simp; done) | (refine fpure ?_; refine ⟨?_, rfl⟩; rw [rtS_y hok, rtx_p (by omega)]; refine congrArg (fun l => AV.tup [sv l, AV.i 0]) ?_; simp; done)
   ·
    try simp only [decide_eq_true_eq, decide_eq_false_iff_not, decide_eq_decide, Bool.not_eq_true', Bool.not_eq_false', beq_iff_eq, beq_eq_false_iff_ne, ne_eq, Bool.and_eq_true, Bool.and_eq_false_iff, decide_not] at h3
    refine at_skip rfl ?_
    refine then_n ?_
    refine at_seq rfl ?_
    refine rg rfl ?_
    have hok : okR z b := ⟨by assumption, by omega⟩
    have h1 := rxn_rng hok.1
    have h2 := rxd_rng hok.1
    have h3 := scal_rng h1 hok.2
    have hg4 := rq_rng hok
    obtain ⟨T, hT⟩ : ∃ T, T = rxn z * (b * 1000) := ⟨_, rfl⟩
    rw [← hT] at h3
    have hg5 := rq_at hT
    refine Rq ?_
    refine Rcall ?_
    refine ACall_eq (rrate_ok _ _ _ hok.1) ?_
    refine Rq ?_
    refine Rq ?_
    refine Rq ?_
    refine Rq ?_
    refine Rq ?_
    have tr : ∀ a b c d e f g h i j k m n o p q r s t : AV, let l := lc_rprate_ok a b c d e f g h i j k m; trim ((7,t)::(6,s)::(25,r)::(24,q)::(21,p)::(23,o)::(22,n)::l) l = lc_rprate_ok a b c d e s t h i j k m := by intros; rfl
    refine R_nil (tr ..) ?_; clear tr
    refine then_n ?_
    refine at_seq rfl ?_
    refine rg rfl ?_
    refine Rq ?_
    have tr : ∀ a b c d e f g h i j k m n : AV, let l := lc_rprate_ok a b c d e f g h i j k m; trim ((8,n)::l) l = lc_rprate_ok a b c d e f g n i j k m := by intros; rfl
    refine R_nil (tr ..) ?_; clear tr
    refine then_n ?_
    refine at_seq rfl ?_
    refine at_seq rfl ?_
    refine rg rfl ?_
    refine Rq ?_
    refine Rq ?_
    have tr : ∀ a b c d e f g h i j k m n o : AV, let l := lc_rprate_ok a b c d e f g h i j k m; trim ((27,o)::(26,n)::l) l = lc_rprate_ok a b c d e f g h i j o m := by intros; rfl
    refine R_nil (tr ..) ?_; clear tr
    refine then_n ?_
    refine cdd (fun h4 => ?_) (fun h4 => ?_)
    ·
     try simp only [decide_eq_true_eq, decide_eq_false_iff_not, decide_eq_decide, Bool.not_eq_true', Bool.not_eq_false', beq_iff_eq, beq_eq_false_iff_ne, ne_eq, Bool.and_eq_true, Bool.and_eq_false_iff, decide_not] at h4
     refine rg rfl ?_
     refine Rq ?_
     refine Rq ?_
     refine Rq ?_
     refine Rq ?_
     have tr : ∀ a b c d e f g h i j k m n o p q : AV, let l := lc_rprate_ok a b c d e f g h i j k m; trim ((6,q)::(8,p)::(29,o)::(28,n)::l) l = lc_rprate_ok a b c d e q g p i j k m := by intros; rfl
     refine R_nil (tr ..) ?_; clear tr
     refine then_n ?_
     refine at_seq rfl ?_
     refine rg rfl ?_
     refine Rq ?_
     refine Rq ?_
     refine Rq ?_
     refine Rq ?_
     refine Rq ?_
     refine Rq ?_
     refine Rq ?_
     refine Rq ?_
     refine R_q (r := AV.i (rq z b)) rfl (by simp (disch := first | omega | (simp only [List.length_map, List.length_append, List.length_set, List.length_cons, List.length_nil]; omega)) only [go_sem, ↓reduceIte, Nat.reduceEqDiff, reduceCtorEq] <;> exact congrArg (fun z => some (AV.i z)) (by first | exact q_wrap (by unfold ab; split <;> omega) rfl hg5 hg4 | exact q_wrap (by unfold ab; split <;> omega) (by omega) hg5 hg4)) ?_
     refine Rq ?_
     have tr : ∀ a b c d e f g h i j k m n o p q r s t u v w : AV, let l := lc_rprate_ok a b c d e f g h i j k m; trim ((9,w)::(38,v)::(37,u)::(36,t)::(35,s)::(34,r)::(33,q)::(32,p)::(31,o)::(30,n)::l) l = lc_rprate_ok a b c d e f g h w j k m := by intros; rfl
     refine R_nil (tr ..) ?_; clear tr
     refine then_n ?_
     refine at_seq rfl ?_
     refine at_seq rfl ?_
     refine rg rfl ?_
     refine Rq ?_
     refine Rq ?_
     have tr : ∀ a b c d e f g h i j k m n o : AV, let l := lc_rprate_ok a b c d e f g h i j k m; trim ((40,o)::(39,n)::l) l = lc_rprate_ok a b c d e f g h i j k o := by intros; rfl
     refine R_nil (tr ..) ?_; clear tr
     refine then_n ?_
     refine cdd (fun h5 => ?_) (fun h5 => ?_)
     ·
      try simp only [decide_eq_true_eq, decide_eq_false_iff_not, decide_eq_decide, Bool.not_eq_true', Bool.not_eq_false', beq_iff_eq, beq_eq_false_iff_ne, ne_eq, Bool.and_eq_true, Bool.and_eq_false_iff, decide_not] at h5
      refine rg rfl ?_
      refine Rq ?_
      have tr : ∀ a b c d e f g h i j k m n : AV, let l := lc_rprate_ok a b c d e f g h i j k m; trim ((8,n)::l) l = lc_rprate_ok a b c d e f g n i j k m := by intros; rfl
      refine R_nil (tr ..) ?_; clear tr
      refine then_n ?_
      refine at_seq rfl ?_
      refine rg rfl ?_
      have hq1 := dd_len20 (n := (rq z b / 1000).toNat) (by omega)
      have hq2 := pad_len3 (n := (rq z b % 1000).toNat) (by omega)
      refine Rq ?_
      refine Rq ?_
      refine Rq ?_
      refine Rcall ?_
      refine ACall_eq (rdec_ok _ _ (rq z b / 1000) (by omega)) ?_
      rw [txW_nn (by omega)]
      refine Rq ?_
      refine Rq ?_
      refine Rq ?_
      refine Rq ?_
      refine Rcall ?_
      refine ACall_eq (rpad_ok _ _ (rq z b % 1000) (by omega) 3 (by omega)) ?_
      rw [if_neg (by omega), List.nil_append, ab_pos (by omega)]
      rw [show ((3 : Int).toNat) = 3 from rfl]
      refine Rq ?_
      refine Rq ?_
      refine Rq ?_
      have tr : ∀ a b c d e f g h i j k m n o p q r s t u v w x y : AV, let l := lc_rprate_ok a b c d e f g h i j k m; trim ((5,y)::(4,x)::(50,w)::(49,v)::(48,u)::(47,t)::(46,s)::(45,r)::(44,q)::(43,p)::(42,o)::(41,n)::l) l = lc_rprate_ok a b c x y f g h i j k m := by intros; rfl
      refine R_nil (tr ..) ?_; clear tr
      refine then_n ?_
      refine at_ret rfl ?_
      first | (refine fpure ?_; refine ⟨?_, rfl⟩; rw [rtS_n (fun h => by first | exact absurd h.1 (by assumption) | (have h2 := h.2; omega))] <;> rfl; done) | (refine fpure ?_; refine ⟨?_, rfl⟩; rw [rtS_y hok, rtx_m (by omega)]; refine congrArg (fun l => AV.tup [sv l, AV.i 0]) ?_; simp; done) | (refine fpure ?_; refine ⟨?_, rfl⟩; rw [rtS_y hok, rtx_p (by omega)]; refine congrArg (fun l => AV.tup [sv l, AV.i 0]) ?_; simp; done)
     ·
      try simp only [decide_eq_true_eq, decide_eq_false_iff_not, decide_eq_decide, Bool.not_eq_true', Bool.not_eq_false', beq_iff_eq, beq_eq_false_iff_ne, ne_eq, Bool.and_eq_true, Bool.and_eq_false_iff, decide_not] at h5
      refine at_skip rfl ?_
      refine then_n ?_
      refine at_seq rfl ?_
      refine rg rfl ?_
      have hq1 := dd_len20 (n := (rq z b / 1000).toNat) (by omega)
      have hq2 := pad_len3 (n := (rq z b % 1000).toNat) (by omega)
      refine Rq ?_
      refine Rq ?_
      refine Rq ?_
      refine Rcall ?_
      refine ACall_eq (rdec_ok _ _ (rq z b / 1000) (by omega)) ?_
      rw [txW_nn (by omega)]
      refine Rq ?_
      refine Rq ?_
      refine Rq ?_
      refine Rq ?_
      refine Rcall ?_
      refine ACall_eq (rpad_ok _ _ (rq z b % 1000) (by omega) 3 (by omega)) ?_
      rw [if_neg (by omega), List.nil_append, ab_pos (by omega)]
      rw [show ((3 : Int).toNat) = 3 from rfl]
      refine Rq ?_
      refine Rq ?_
      refine Rq ?_
      have tr : ∀ a b c d e f g h i j k m n o p q r s t u v w x y : AV, let l := lc_rprate_ok a b c d e f g h i j k m; trim ((5,y)::(4,x)::(50,w)::(49,v)::(48,u)::(47,t)::(46,s)::(45,r)::(44,q)::(43,p)::(42,o)::(41,n)::l) l = lc_rprate_ok a b c x y f g h i j k m := by intros; rfl
      refine R_nil (tr ..) ?_; clear tr
      refine then_n ?_
      refine at_ret rfl ?_
      first | (refine fpure ?_; refine ⟨?_, rfl⟩; rw [rtS_n (fun h => by first | exact absurd h.1 (by assumption) | (have h2 := h.2; omega))] <;> rfl; done) | (refine fpure ?_; refine ⟨?_, rfl⟩; rw [rtS_y hok, rtx_m (by omega)]; refine congrArg (fun l => AV.tup [sv l, AV.i 0]) ?_; simp; done) | (refine fpure ?_; refine ⟨?_, rfl⟩; rw [rtS_y hok, rtx_p (by omega)]; refine congrArg (fun l => AV.tup [sv l, AV.i 0]) ?_; simp; done)
    ·
     try simp only [decide_eq_true_eq, decide_eq_false_iff_not, decide_eq_decide, Bool.not_eq_true', Bool.not_eq_false', beq_iff_eq, beq_eq_false_iff_ne, ne_eq, Bool.and_eq_true, Bool.and_eq_false_iff, decide_not] at h4
     refine at_skip rfl ?_
     refine then_n ?_
     refine at_seq rfl ?_
     refine rg rfl ?_
     refine Rq ?_
     refine Rq ?_
     refine Rq ?_
     refine Rq ?_
     refine Rq ?_
     refine Rq ?_
     refine Rq ?_
     refine Rq ?_
     refine R_q (r := AV.i (rq z b)) rfl (by simp (disch := first | omega | (simp only [List.length_map, List.length_append, List.length_set, List.length_cons, List.length_nil]; omega)) only [go_sem, ↓reduceIte, Nat.reduceEqDiff, reduceCtorEq] <;> exact congrArg (fun z => some (AV.i z)) (by first | exact q_wrap (by unfold ab; split <;> omega) rfl hg5 hg4 | exact q_wrap (by unfold ab; split <;> omega) (by omega) hg5 hg4)) ?_
     refine Rq ?_
     have tr : ∀ a b c d e f g h i j k m n o p q r s t u v w : AV, let l := lc_rprate_ok a b c d e f g h i j k m; trim ((9,w)::(38,v)::(37,u)::(36,t)::(35,s)::(34,r)::(33,q)::(32,p)::(31,o)::(30,n)::l) l = lc_rprate_ok a b c d e f g h w j k m := by intros; rfl
     refine R_nil (tr ..) ?_; clear tr
     refine then_n ?_
     refine at_seq rfl ?_
     refine at_seq rfl ?_
     refine rg rfl ?_
     refine Rq ?_
     refine Rq ?_
     have tr : ∀ a b c d e f g h i j k m n o : AV, let l := lc_rprate_ok a b c d e f g h i j k m; trim ((40,o)::(39,n)::l) l = lc_rprate_ok a b c d e f g h i j k o := by intros; rfl
     refine R_nil (tr ..) ?_; clear tr
     refine then_n ?_
     refine cdd (fun h6 => ?_) (fun h6 => ?_)
     ·
      try simp only [decide_eq_true_eq, decide_eq_false_iff_not, decide_eq_decide, Bool.not_eq_true', Bool.not_eq_false', beq_iff_eq, beq_eq_false_iff_ne, ne_eq, Bool.and_eq_true, Bool.and_eq_false_iff, decide_not] at h6
      refine rg rfl ?_
      refine Rq ?_
      have tr : ∀ a b c d e f g h i j k m n : AV, let l := lc_rprate_ok a b c d e f g h i j k m; trim ((8,n)::l) l = lc_rprate_ok a b c d e f g n i j k m := by intros; rfl
      refine R_nil (tr ..) ?_; clear tr
      refine then_n ?_
      refine at_seq rfl ?_
      refine rg rfl ?_
      have hq1 := dd_len20 (n := (rq z b / 1000).toNat) (by omega)
      have hq2 := pad_len3 (n := (rq z b % 1000).toNat) (by omega)
      refine Rq ?_
      refine Rq ?_
      refine Rq ?_
      refine Rcall ?_
      refine ACall_eq (rdec_ok _ _ (rq z b / 1000) (by omega)) ?_
      rw [txW_nn (by omega)]
      refine Rq ?_
      refine Rq ?_
      refine Rq ?_
      refine Rq ?_
      refine Rcall ?_
      refine ACall_eq (rpad_ok _ _ (rq z b % 1000) (by omega) 3 (by omega)) ?_
      rw [if_neg (by omega), List.nil_append, ab_pos (by omega)]
      rw [show ((3 : Int).toNat) = 3 from rfl]
      refine Rq ?_
      refine Rq ?_
      refine Rq ?_
      have tr : ∀ a b c d e f g h i j k m n o p q r s t u v w x y : AV, let l := lc_rprate_ok a b c d e f g h i j k m; trim ((5,y)::(4,x)::(50,w)::(49,v)::(48,u)::(47,t)::(46,s)::(45,r)::(44,q)::(43,p)::(42,o)::(41,n)::l) l = lc_rprate_ok a b c x y f g h i j k m := by intros; rfl
      refine R_nil (tr ..) ?_; clear tr
      refine then_n ?_
      refine at_ret rfl ?_
      first | (refine fpure ?_; refine ⟨?_, rfl⟩; rw [rtS_n (fun h => by first | exact absurd h.1 (by assumption) | (have h2 := h.2; omega))] <;> rfl; done) | (refine fpure ?_; refine ⟨?_, rfl⟩; rw [rtS_y hok, rtx_m (by omega)]; refine congrArg (fun l => AV.tup [sv l, AV.i 0]) ?_; simp; done) | (refine fpure ?_; refine ⟨?_, rfl⟩; rw [rtS_y hok, rtx_p (by omega)]; refine congrArg (fun l => AV.tup [sv l, AV.i 0]) ?_; simp; done)
     ·
      try simp only [decide_eq_true_eq, decide_eq_false_iff_not, decide_eq_decide, Bool.not_eq_true', Bool.not_eq_false', beq_iff_eq, beq_eq_false_iff_ne, ne_eq, Bool.and_eq_true, Bool.and_eq_false_iff, decide_not] at h6
      refine at_skip rfl ?_
      refine then_n ?_
      refine at_seq rfl ?_
      refine rg rfl ?_
      have hq1 := dd_len20 (n := (rq z b / 1000).toNat) (by omega)
      have hq2 := pad_len3 (n := (rq z b % 1000).toNat) (by omega)
      refine Rq ?_
      refine Rq ?_
      refine Rq ?_
      refine Rcall ?_
      refine ACall_eq (rdec_ok _ _ (rq z b / 1000) (by omega)) ?_
      rw [txW_nn (by omega)]
      refine Rq ?_
      refine Rq ?_
      refine Rq ?_
      refine Rq ?_
      refine Rcall ?_
      refine ACall_eq (rpad_ok _ _ (rq z b % 1000) (by omega) 3 (by omega)) ?_
      rw [if_neg (by omega), List.nil_append, ab_pos (by omega)]
      rw [show ((3 : Int).toNat) = 3 from rfl]
      refine Rq ?_
      refine Rq ?_
      refine Rq ?_
      have tr : ∀ a b c d e f g h i j k m n o p q r s t u v w x y : AV, let l := lc_rprate_ok a b c d e f g h i j k m; trim ((5,y)::(4,x)::(50,w)::(49,v)::(48,u)::(47,t)::(46,s)::(45,r)::(44,q)::(43,p)::(42,o)::(41,n)::l) l = lc_rprate_ok a b c x y f g h i j k m := by intros; rfl
      refine R_nil (tr ..) ?_; clear tr
      refine then_n ?_
      refine at_ret rfl ?_
      first | (refine fpure ?_; refine ⟨?_, rfl⟩; rw [rtS_n (fun h => by first | exact absurd h.1 (by assumption) | (have h2 := h.2; omega))] <;> rfl; done) | (refine fpure ?_; refine ⟨?_, rfl⟩; rw [rtS_y hok, rtx_m (by omega)]; refine congrArg (fun l => AV.tup [sv l, AV.i 0]) ?_; simp; done) | (refine fpure ?_; refine ⟨?_, rfl⟩; rw [rtS_y hok, rtx_p (by omega)]; refine congrArg (fun l => AV.tup [sv l, AV.i 0]) ?_; simp; done)

end Go.Proofs.YtfnapmdedmbdbaaDoor
end
section
set_option linter.unusedSimpArgs false
set_option linter.unusedVariables false
set_option maxHeartbeats 1000000
set_option maxRecDepth 20000
namespace Go.Proofs.YtfnapmdedmbdbaaDoor
open Go Go.Am
abbrev lc_rtext_ok (a b c d e f g h i j k m n o p q r s t u v w : AV) : Env := [(0,a),(1,b),(4,c),(5,d),(6,e),(7,f),(8,g),(9,h),(10,i),(12,j),(15,k),(16,m),(17,n),(18,o),(19,p),(32,q),(39,r),(46,s),(70,t),(71,u),(72,v),(73,w)]
theorem rtext_ok (lim : Nat) (H : Heap) (zs : List St) (ns : List (List UInt8)) (hz : ∀ u, rgS (gz zs u)) (hn : ∀ t, (nmG ns t).length ≤ 9223372036854775807) (hn2 : ns.length ≤ 100) : ACall sig lim 25 [stsAV zs, nmsAV ns] H fun r H' => r = .tup [sv (txtS zs ns).1, AV.i (txtS zs ns).2] ∧ H' = H := by
 refine ACall_pure (fa := fa25) rfl rfl rfl rfl ?_
 have tr : ∀ a0 a1 : AV, env0 fa25.keep [a0, a1] = lc_rtext_ok a0 a1 .any .any .any .any .any .any .any .any .any .any .any .any .any .any .any .any .any .any .any .any := fun a0 a1 => rfl
 refine W_to (tr _ _) ?_; clear tr
 refine at_seq rfl ?_
 refine rg rfl ?_
 refine Rq ?_
 refine Rq ?_
 have tr : ∀ a b c d e f g h i j k m n o p q r s t u v w x y : AV, let l := lc_rtext_ok a b c d e f g h i j k m n o p q r s t u v w; trim ((5,y)::(4,x)::l) l = lc_rtext_ok a b x y e f g h i j k m n o p q r s t u v w := by intros; rfl
 refine R_nil (tr ..) ?_; clear tr
 refine then_n ?_
 refine at_seq rfl ?_
 refine at_seq rfl ?_
 refine rg rfl ?_
 refine Rq ?_
 refine Rq ?_
 refine Rq ?_
 have tr : ∀ a b c d e f g h i j k m n o p q r s t u v w x y z : AV, let l := lc_rtext_ok a b c d e f g h i j k m n o p q r s t u v w; trim ((15,z)::(14,y)::(13,x)::l) l = lc_rtext_ok a b c d e f g h i j z m n o p q r s t u v w := by intros; rfl
 refine R_nil (tr ..) ?_; clear tr
 refine then_n ?_
 refine cdd (fun h1 => ?_) (fun h1 => ?_)
 ·
  try simp only [decide_eq_true_eq, decide_eq_false_iff_not, decide_eq_decide, Bool.not_eq_true', Bool.not_eq_false', beq_iff_eq, beq_eq_false_iff_ne, ne_eq, Bool.and_eq_true, Bool.and_eq_false_iff, decide_not] at h1
  refine at_seq rfl ?_
  refine rg rfl ?_
  refine Rq ?_
  refine Rq ?_
  have tr : ∀ a b c d e f g h i j k m n o p q r s t u v w x y : AV, let l := lc_rtext_ok a b c d e f g h i j k m n o p q r s t u v w; trim ((5,y)::(4,x)::l) l = lc_rtext_ok a b x y e f g h i j k m n o p q r s t u v w := by intros; rfl
  refine R_nil (tr ..) ?_; clear tr
  refine then_n ?_
  refine at_ret rfl ?_
  refine then_r ?_
  first | (refine fpure ?_; refine ⟨?_, rfl⟩; rw [txtS_9 (by omega)] <;> rfl; done) | (refine fpure ?_; refine ⟨?_, rfl⟩; rw [txtS_e (u := u) (by omega) (by omega) hf (rwE_1 (by omega)) (by decide)] <;> rfl; done) | (refine fpure ?_; refine ⟨?_, rfl⟩; rw [txtS_e (u := u) (by omega) (by omega) hf (rwE_5 (by omega) (by assumption)) (by decide)] <;> rfl; done) | (refine fpure ?_; refine ⟨?_, rfl⟩; rw [txtS_e (u := u) (by omega) (by omega) hf (rwE_r (by omega) (by assumption)) (by assumption)] <;> rfl; done) | (refine fpure ?_; refine ⟨?_, rfl⟩; rw [txtS_y (by omega) hf, hs] <;> rfl; done)
 ·
  try simp only [decide_eq_true_eq, decide_eq_false_iff_not, decide_eq_decide, Bool.not_eq_true', Bool.not_eq_false', beq_iff_eq, beq_eq_false_iff_ne, ne_eq, Bool.and_eq_true, Bool.and_eq_false_iff, decide_not] at h1
  refine at_skip rfl ?_
  refine then_n ?_
  refine at_seq rfl ?_
  refine rg rfl ?_
  refine Rq ?_
  have tr : ∀ a b c d e f g h i j k m n o p q r s t u v w x : AV, let l := lc_rtext_ok a b c d e f g h i j k m n o p q r s t u v w; trim ((6,x)::l) l = lc_rtext_ok a b c d x f g h i j k m n o p q r s t u v w := by intros; rfl
  refine R_nil (tr ..) ?_; clear tr
  refine then_n ?_
  refine at_seq rfl ?_
  refine at_seq rfl ?_
  refine rg rfl ?_
  refine Rq ?_
  refine Rq ?_
  refine Rq ?_
  have tr : ∀ a b c d e f g h i j k m n o p q r s t u v w x y z : AV, let l := lc_rtext_ok a b c d e f g h i j k m n o p q r s t u v w; trim ((18,z)::(17,y)::(16,x)::l) l = lc_rtext_ok a b c d e f g h i j k x y z p q r s t u v w := by intros; rfl
  refine R_nil (tr ..) ?_; clear tr
  refine then_n ?_
  refine at_block rfl ?_
  refine loop_n rfl (fun mm kv H' => ∃ u : Nat, ∃ s : List UInt8, ∃ X : Heap, ∃ x4 x5 x7 x8 x9 x10 x12 x19 x32 x39 x46 x70 x71 x72 x73 : AV, (kv = [(4, x4), (5, x5), (6, sv s), (7, x7), (8, x8), (9, x9), (10, x10), (12, x12), (18, AV.i (u : Int)), (19, x19), (32, x32), (39, x39), (46, x46), (70, x70), (71, x71), (72, x72), (73, x73)]) ∧ (mm = zs.length - u) ∧ (H' = H ++ X) ∧ (u ≤ zs.length) ∧ (ferr (erT ns zs) u = 0) ∧ (s = accX ns zs u)) ⟨0, [], [], _, _, _, _, _, _, _, _, _, _, _, _, _, _, _, rfl, rfl, by simp, by omega, by rfl, by rfl⟩ (by rfl) ?_
  rintro mm kv HO ⟨u, s, X, x4, x5, x7, x8, x9, x10, x12, x19, x32, x39, x46, x70, x71, x72, x73, rfl, rfl, hX, hu, hf, hs⟩
  have tr : ∀ a b c d e f g h i j k m n o p q r s t u v w x y z A B C D E F G H I J K L M N : AV, upd (lc_rtext_ok a b c d e f g h i j k m n o p q r s t u v w) [(4,x),(5,y),(6,z),(7,A),(8,B),(9,C),(10,D),(12,E),(18,F),(19,G),(32,H),(39,I),(46,J),(70,K),(71,L),(72,M),(73,N)] = lc_rtext_ok a b x y z A B C D E k m n F G H I J K L M N := by intros; rfl
  refine W_to (tr ..) ?_; clear tr
  subst hX
  have hal := accX_len hz u (by omega) hf
  rw [← hs] at hal
  refine at_seq rfl ?_
  refine rg rfl ?_
  refine Rq ?_
  have tr : ∀ a b c d e f g h i j k m n o p q r s t u v w x : AV, let l := lc_rtext_ok a b c d e f g h i j k m n o p q r s t u v w; trim ((19,x)::l) l = lc_rtext_ok a b c d e f g h i j k m n o x q r s t u v w := by intros; rfl
  refine R_nil (tr ..) ?_; clear tr
  refine then_n ?_
  refine at_seq rfl ?_
  refine cdd (fun h2 => ?_) (fun h2 => ?_)
  ·
   try simp only [decide_eq_true_eq, decide_eq_false_iff_not, decide_eq_decide, Bool.not_eq_true', Bool.not_eq_false', beq_iff_eq, beq_eq_false_iff_ne, ne_eq, Bool.and_eq_true, Bool.and_eq_false_iff, decide_not] at h2
   refine at_skip rfl ?_
   refine then_n ?_
   refine at_seq rfl ?_
   refine at_block rfl ?_
   refine at_seq rfl ?_
   refine rg rfl ?_
   refine Rq ?_
   refine Rq ?_
   refine Rq ?_
   refine R_alloc (by simp (disch := first | omega | (simp only [List.length_map, List.length_append, List.length_set, List.length_cons, List.length_nil]; omega)) only [go_sem, ↓reduceIte, Nat.reduceEqDiff, reduceCtorEq] <;> rfl) rfl (by simp only [List.map_cons, List.map_nil]; rfl) ?_
   refine Rq ?_
   refine R_store ty23 (by simp (disch := first | omega | (simp only [List.length_map, List.length_append, List.length_set, List.length_cons, List.length_nil]; omega)) only [go_sem, ↓reduceIte, Nat.reduceEqDiff, reduceCtorEq] <;> rfl) (by simp (disch := first | omega | (simp only [List.length_map, List.length_append, List.length_set, List.length_cons, List.length_nil]; omega)) only [go_sem, ↓reduceIte, Nat.reduceEqDiff, reduceCtorEq] <;> rfl) (by simp (disch := first | omega | (simp only [List.length_map, List.length_append, List.length_set, List.length_cons, List.length_nil]; omega)) only [go_sem, ↓reduceIte, Nat.reduceEqDiff, reduceCtorEq] <;> rfl) (by simp) (by rfl) (by simp (disch := first | omega | (simp only [List.length_map, List.length_append, List.length_set, List.length_cons, List.length_nil]; omega)) only [go_sem, ↓reduceIte, Nat.reduceEqDiff, reduceCtorEq] <;> rfl) ?_
   have tr : ∀ a b c d e f g h i j k m n o p q r s t u v w x y z A B : AV, let l := lc_rtext_ok a b c d e f g h i j k m n o p q r s t u v w; trim ((7,B)::(8,A)::(22,z)::(21,y)::(20,x)::l) l = lc_rtext_ok a b c d e B A h i j k m n o p q r s t u v w := by intros; rfl
   refine R_nil (tr ..) ?_; clear tr
   refine then_n ?_
   refine at_seq rfl ?_
   refine at_seq rfl ?_
   refine rg rfl ?_
   refine Rq ?_
   refine Rq ?_
   refine Rq ?_
   refine Rq ?_
   refine Rp_split (fun h3 => ?_) (fun h3 => ?_)
   ·
    try simp only [decide_eq_true_eq, decide_eq_false_iff_not, decide_eq_decide, Bool.not_eq_true', Bool.not_eq_false', beq_iff_eq, beq_eq_false_iff_ne, ne_eq, Bool.and_eq_true, Bool.and_eq_false_iff, decide_not] at h3
    refine Rn ?_
    refine Rn ?_
    refine Rn ?_
    refine Rn ?_
    refine Rn ?_
    refine Rq ?_
    have tr : ∀ a b c d e f g h i j k m n o p q r s t u v w x y z A B C D E F G : AV, let l := lc_rtext_ok a b c d e f g h i j k m n o p q r s t u v w; trim ((32,G)::(31,F)::(30,E)::(29,D)::(28,C)::(27,B)::(26,A)::(25,z)::(24,y)::(23,x)::l) l = lc_rtext_ok a b c d e f g h i j k m n o p G r s t u v w := by intros; rfl
    refine R_nil (tr ..) ?_; clear tr
    refine then_n ?_
    refine cdt ?_
    refine at_seq rfl ?_
    refine rg rfl ?_
    refine Rq ?_
    refine Rq ?_
    have tr : ∀ a b c d e f g h i j k m n o p q r s t u v w x y : AV, let l := lc_rtext_ok a b c d e f g h i j k m n o p q r s t u v w; trim ((5,y)::(4,x)::l) l = lc_rtext_ok a b x y e f g h i j k m n o p q r s t u v w := by intros; rfl
    refine R_nil (tr ..) ?_; clear tr
    refine then_n ?_
    refine at_ret rfl ?_
    refine then_r ?_
    refine blk_r ?_
    refine then_r ?_
    refine then_r ?_
    refine blk_r ?_
    refine then_r ?_
    first | (refine fpure ?_; refine ⟨?_, rfl⟩; rw [txtS_9 (by omega)] <;> rfl; done) | (refine fpure ?_; refine ⟨?_, rfl⟩; rw [txtS_e (u := u) (by omega) (by omega) hf (rwE_1 (by omega)) (by decide)] <;> rfl; done) | (refine fpure ?_; refine ⟨?_, rfl⟩; rw [txtS_e (u := u) (by omega) (by omega) hf (rwE_5 (by omega) (by assumption)) (by decide)] <;> rfl; done) | (refine fpure ?_; refine ⟨?_, rfl⟩; rw [txtS_e (u := u) (by omega) (by omega) hf (rwE_r (by omega) (by assumption)) (by assumption)] <;> rfl; done) | (refine fpure ?_; refine ⟨?_, rfl⟩; rw [txtS_y (by omega) hf, hs] <;> rfl; done)
   ·
    try simp only [decide_eq_true_eq, decide_eq_false_iff_not, decide_eq_decide, Bool.not_eq_true', Bool.not_eq_false', beq_iff_eq, beq_eq_false_iff_ne, ne_eq, Bool.and_eq_true, Bool.and_eq_false_iff, decide_not] at h3
    refine Ry ?_
    refine Rq ?_
    refine Ry ?_
    refine Rq ?_
    refine Ry ?_
    refine Rq ?_
    refine Ry ?_
    refine Rq ?_
    refine Ry ?_
    refine Rq ?_
    refine Rq ?_
    have tr : ∀ a b c d e f g h i j k m n o p q r s t u v w x y z A B C D E F G : AV, let l := lc_rtext_ok a b c d e f g h i j k m n o p q r s t u v w; trim ((32,G)::(31,F)::(30,E)::(29,D)::(28,C)::(27,B)::(26,A)::(25,z)::(24,y)::(23,x)::l) l = lc_rtext_ok a b c d e f g h i j k m n o p G r s t u v w := by intros; rfl
    refine R_nil (tr ..) ?_; clear tr
    refine then_n ?_
    refine cdd (fun h4 => ?_) (fun h4 => ?_)
    ·
     try simp only [decide_eq_true_eq, decide_eq_false_iff_not, decide_eq_decide, Bool.not_eq_true', Bool.not_eq_false', beq_iff_eq, beq_eq_false_iff_ne, ne_eq, Bool.and_eq_true, Bool.and_eq_false_iff, decide_not] at h4
     refine at_seq rfl ?_
     refine rg rfl ?_
     refine Rq ?_
     refine Rq ?_
     have tr : ∀ a b c d e f g h i j k m n o p q r s t u v w x y : AV, let l := lc_rtext_ok a b c d e f g h i j k m n o p q r s t u v w; trim ((5,y)::(4,x)::l) l = lc_rtext_ok a b x y e f g h i j k m n o p q r s t u v w := by intros; rfl
     refine R_nil (tr ..) ?_; clear tr
     refine then_n ?_
     refine at_ret rfl ?_
     refine then_r ?_
     refine blk_r ?_
     refine then_r ?_
     refine then_r ?_
     refine blk_r ?_
     refine then_r ?_
     first | (refine fpure ?_; refine ⟨?_, rfl⟩; rw [txtS_9 (by omega)] <;> rfl; done) | (refine fpure ?_; refine ⟨?_, rfl⟩; rw [txtS_e (u := u) (by omega) (by omega) hf (rwE_1 (by omega)) (by decide)] <;> rfl; done) | (refine fpure ?_; refine ⟨?_, rfl⟩; rw [txtS_e (u := u) (by omega) (by omega) hf (rwE_5 (by omega) (by assumption)) (by decide)] <;> rfl; done) | (refine fpure ?_; refine ⟨?_, rfl⟩; rw [txtS_e (u := u) (by omega) (by omega) hf (rwE_r (by omega) (by assumption)) (by assumption)] <;> rfl; done) | (refine fpure ?_; refine ⟨?_, rfl⟩; rw [txtS_y (by omega) hf, hs] <;> rfl; done)
    ·
     try simp only [decide_eq_true_eq, decide_eq_false_iff_not, decide_eq_decide, Bool.not_eq_true', Bool.not_eq_false', beq_iff_eq, beq_eq_false_iff_ne, ne_eq, Bool.and_eq_true, Bool.and_eq_false_iff, decide_not] at h4
     refine at_skip rfl ?_
     refine then_n ?_
     refine at_seq rfl ?_
     refine at_seq rfl ?_
     refine rg rfl ?_
     refine Rq ?_
     refine Rq ?_
     refine Rq ?_
     refine Rq ?_
     refine R_q (r := sv (nmG ns (gz zs u).tm)) rfl (by simp (disch := first | omega | (simp only [List.length_map, List.length_append, List.length_set, List.length_cons, List.length_nil]; omega)) only [go_sem, ↓reduceIte, Nat.reduceEqDiff, reduceCtorEq] <;> rfl) ?_
     refine Rcall ?_
     refine ACall_eq (name_ok48 _ _ (bs (nmG ns (gz zs u).tm)) (by rw [bs_size]; exact hn _)) ?_
     refine Rq ?_
     have tr : ∀ a b c d e f g h i j k m n o p q r s t u v w x y z A B C D : AV, let l := lc_rtext_ok a b c d e f g h i j k m n o p q r s t u v w; trim ((39,D)::(38,C)::(37,B)::(36,A)::(35,z)::(34,y)::(33,x)::l) l = lc_rtext_ok a b c d e f g h i j k m n o p q D s t u v w := by intros; rfl
     refine R_nil (tr ..) ?_; clear tr
     refine then_n ?_
     refine cdd (fun h5 => ?_) (fun h5 => ?_)
     ·
      try simp only [decide_eq_true_eq, decide_eq_false_iff_not, decide_eq_decide, Bool.not_eq_true', Bool.not_eq_false', beq_iff_eq, beq_eq_false_iff_ne, ne_eq, Bool.and_eq_true, Bool.and_eq_false_iff, decide_not] at h5
      refine at_seq rfl ?_
      refine rg rfl ?_
      refine Rq ?_
      refine Rq ?_
      have tr : ∀ a b c d e f g h i j k m n o p q r s t u v w x y : AV, let l := lc_rtext_ok a b c d e f g h i j k m n o p q r s t u v w; trim ((5,y)::(4,x)::l) l = lc_rtext_ok a b x y e f g h i j k m n o p q r s t u v w := by intros; rfl
      refine R_nil (tr ..) ?_; clear tr
      refine then_n ?_
      refine at_ret rfl ?_
      refine then_r ?_
      refine blk_r ?_
      refine then_r ?_
      refine then_r ?_
      refine blk_r ?_
      refine then_r ?_
      first | (refine fpure ?_; refine ⟨?_, rfl⟩; rw [txtS_9 (by omega)] <;> rfl; done) | (refine fpure ?_; refine ⟨?_, rfl⟩; rw [txtS_e (u := u) (by omega) (by omega) hf (rwE_1 (by omega)) (by decide)] <;> rfl; done) | (refine fpure ?_; refine ⟨?_, rfl⟩; rw [txtS_e (u := u) (by omega) (by omega) hf (rwE_5 (by omega) (by assumption)) (by decide)] <;> rfl; done) | (refine fpure ?_; refine ⟨?_, rfl⟩; rw [txtS_e (u := u) (by omega) (by omega) hf (rwE_r (by omega) (by assumption)) (by assumption)] <;> rfl; done) | (refine fpure ?_; refine ⟨?_, rfl⟩; rw [txtS_y (by omega) hf, hs] <;> rfl; done)
     ·
      try simp only [decide_eq_true_eq, decide_eq_false_iff_not, decide_eq_decide, Bool.not_eq_true', Bool.not_eq_false', beq_iff_eq, beq_eq_false_iff_ne, ne_eq, Bool.and_eq_true, Bool.and_eq_false_iff, decide_not] at h5
      refine at_skip rfl ?_
      refine then_n ?_
      refine at_seq rfl ?_
      refine rg rfl ?_
      refine Rq ?_
      refine Rcall ?_
      refine ACall_eq (rprate_ok _ _ (gz zs u) 6 (by omega)) ?_
      refine Rq ?_
      refine Rq ?_
      refine Rq ?_
      refine Rq ?_
      refine Rq ?_
      have tr : ∀ a b c d e f g h i j k m n o p q r s t u v w x y z A B C D : AV, let l := lc_rtext_ok a b c d e f g h i j k m n o p q r s t u v w; trim ((10,D)::(9,C)::(44,B)::(43,A)::(40,z)::(42,y)::(41,x)::l) l = lc_rtext_ok a b c d e f g C D j k m n o p q r s t u v w := by intros; rfl
      refine R_nil (tr ..) ?_; clear tr
      refine then_n ?_
      refine at_seq rfl ?_
      refine at_seq rfl ?_
      refine rg rfl ?_
      refine Rq ?_
      refine Rq ?_
      have tr : ∀ a b c d e f g h i j k m n o p q r s t u v w x y : AV, let l := lc_rtext_ok a b c d e f g h i j k m n o p q r s t u v w; trim ((46,y)::(45,x)::l) l = lc_rtext_ok a b c d e f g h i j k m n o p q r y t u v w := by intros; rfl
      refine R_nil (tr ..) ?_; clear tr
      refine then_n ?_
      refine cdd (fun h6 => ?_) (fun h6 => ?_)
      ·
       try simp only [decide_eq_true_eq, decide_eq_false_iff_not, decide_eq_decide, Bool.not_eq_true', Bool.not_eq_false', beq_iff_eq, beq_eq_false_iff_ne, ne_eq, Bool.and_eq_true, Bool.and_eq_false_iff, decide_not] at h6
       refine at_seq rfl ?_
       refine rg rfl ?_
       refine Rq ?_
       refine Rq ?_
       refine Rq ?_
       have tr : ∀ a b c d e f g h i j k m n o p q r s t u v w x y z : AV, let l := lc_rtext_ok a b c d e f g h i j k m n o p q r s t u v w; trim ((5,z)::(4,y)::(47,x)::l) l = lc_rtext_ok a b y z e f g h i j k m n o p q r s t u v w := by intros; rfl
       refine R_nil (tr ..) ?_; clear tr
       refine then_n ?_
       refine at_ret rfl ?_
       refine then_r ?_
       refine blk_r ?_
       refine then_r ?_
       refine then_r ?_
       refine blk_r ?_
       refine then_r ?_
       first | (refine fpure ?_; refine ⟨?_, rfl⟩; rw [txtS_9 (by omega)] <;> rfl; done) | (refine fpure ?_; refine ⟨?_, rfl⟩; rw [txtS_e (u := u) (by omega) (by omega) hf (rwE_1 (by omega)) (by decide)] <;> rfl; done) | (refine fpure ?_; refine ⟨?_, rfl⟩; rw [txtS_e (u := u) (by omega) (by omega) hf (rwE_5 (by omega) (by assumption)) (by decide)] <;> rfl; done) | (refine fpure ?_; refine ⟨?_, rfl⟩; rw [txtS_e (u := u) (by omega) (by omega) hf (rwE_r (by omega) (by assumption)) (by assumption)] <;> rfl; done) | (refine fpure ?_; refine ⟨?_, rfl⟩; rw [txtS_y (by omega) hf, hs] <;> rfl; done)
      ·
       try simp only [decide_eq_true_eq, decide_eq_false_iff_not, decide_eq_decide, Bool.not_eq_true', Bool.not_eq_false', beq_iff_eq, beq_eq_false_iff_ne, ne_eq, Bool.and_eq_true, Bool.and_eq_false_iff, decide_not] at h6
       refine at_skip rfl ?_
       refine then_n ?_
       refine at_seq rfl ?_
       refine rd rfl rfl ?_
       have hnl := name_small (l := nmG ns (gz zs u).tm) (by assumption)
       have htu := txW_len (n := (u : Int) + 1) (by omega)
       have hrs := rt_small (z := gz zs u) (by assumption)
       refine Qq ?_
       refine Qq ?_
       refine Qq ?_
       refine Qcall ?_
       refine ACall_eq (rdec_ok _ _ ((u : Int) + 1) (by omega)) ?_
       refine ⟨rfl, ?_⟩
       refine Qq ?_
       refine Qq ?_
       refine Qq ?_
       refine Qq ?_
       refine Qq ?_
       refine Q_q (r := sv (nmG ns (gz zs u).tm)) rfl (by simp (disch := first | omega | (simp only [List.length_map, List.length_append, List.length_set, List.length_cons, List.length_nil]; omega)) only [go_sem, ↓reduceIte, Nat.reduceEqDiff, reduceCtorEq] <;> rfl) ?_
       refine Qq ?_
       refine Qq ?_
       refine Qq ?_
       refine Q_nil ?_
       have tr : ∀ a b c d e f g h i j k m n o p q r s t u v w x y z A B C D E F G H I J : AV, let l := lc_rtext_ok a b c d e f g h i j k m n o p q r s t u v w; trim ((6,J)::(59,I)::(58,H)::(57,G)::(56,F)::(55,E)::(54,D)::(53,C)::(52,B)::(51,A)::(50,z)::(49,y)::(48,x)::l) l = lc_rtext_ok a b c d J f g h i j k m n o p q r s t u v w := by intros; rfl
       refine R_nil (tr ..) ?_; clear tr
       refine then_n ?_
       refine at_seq rfl ?_
       refine at_seq rfl ?_
       refine rg rfl ?_
       refine Rq ?_
       refine Rq ?_
       refine Rq ?_
       refine Rq ?_
       refine Rq ?_
       refine Rq ?_
       refine Rq ?_
       refine Rq ?_
       refine Rq ?_
       refine Rq ?_
       refine R_buildSlice (bs76 _ _ _ _ _ _ _ _ (gz zs u) (by simp (disch := first | omega | (simp only [List.length_map, List.length_append, List.length_set, List.length_cons, List.length_nil]; omega)) only [go_sem, ↓reduceIte, Nat.reduceEqDiff, reduceCtorEq] <;> rfl) (by simp (disch := first | omega | (simp only [List.length_map, List.length_append, List.length_set, List.length_cons, List.length_nil]; omega)) only [go_sem, ↓reduceIte, Nat.reduceEqDiff, reduceCtorEq] <;> rfl) (by simp (disch := first | omega | (simp only [List.length_map, List.length_append, List.length_set, List.length_cons, List.length_nil]; omega)) only [go_sem, ↓reduceIte, Nat.reduceEqDiff, reduceCtorEq] <;> rfl) (by simp (disch := first | omega | (simp only [List.length_map, List.length_append, List.length_set, List.length_cons, List.length_nil]; omega)) only [go_sem, ↓reduceIte, Nat.reduceEqDiff, reduceCtorEq] <;> rfl) (by simp (disch := first | omega | (simp only [List.length_map, List.length_append, List.length_set, List.length_cons, List.length_nil]; omega)) only [go_sem, ↓reduceIte, Nat.reduceEqDiff, reduceCtorEq] <;> rfl)) ?_
       refine Rq ?_
       refine Rq ?_
       have tr : ∀ a b c d e f g h i j k m n o p q r s t u v w x y z A B C D E F G H I J : AV, let l := lc_rtext_ok a b c d e f g h i j k m n o p q r s t u v w; trim ((72,J)::(71,I)::(70,H)::(69,G)::(68,F)::(67,E)::(66,D)::(65,C)::(64,B)::(63,A)::(62,z)::(61,y)::(60,x)::l) l = lc_rtext_ok a b c d e f g h i j k m n o p q r s H I J w := by intros; rfl
       refine R_nil (tr ..) ?_; clear tr
       refine then_n ?_
       refine at_block rfl ?_
       refine loop_n rfl (fun mm kv H' => ∃ j : Nat, ∃ s2 : List UInt8, ∃ x12 x73 : AV, (kv = [(6, sv s2), (12, x12), (72, AV.i (j : Int)), (73, x73)]) ∧ (mm = 5 - j) ∧ (H' = H ++ X ++ [some (stL (gz zs u))] ++ [some [AV.i (gz zs u).pl, AV.i (gz zs u).wn, AV.i (gz zs u).sh, AV.i (gz zs u).ls, AV.i (gz zs u).pt]]) ∧ (j ≤ 5) ∧ (s2 = accX ns zs u ++ (rwA ns (gz zs u) u ++ rwB (gz zs u) j))) ⟨0, s ++ (txW ((u : Int) + 1) ++ [32] ++ nmG ns (gz zs u).tm), _, _, rfl, rfl, rfl, by omega, by (rw [hs, rwB, rwA]; simp only [List.append_assoc, List.append_nil])⟩ (by rfl) ?_
       rintro mm kv H' ⟨j, s2, x12, x73, rfl, rfl, rfl, hj, hs2⟩
       have tr : ∀ a b c d e f g h i j k m n o p q r s t u v w x y z A : AV, upd (lc_rtext_ok a b c d e f g h i j k m n o p q r s t u v w) [(6,x),(12,y),(72,z),(73,A)] = lc_rtext_ok a b c d x f g h i y k m n o p q r s t u z A := by intros; rfl
       refine W_to (tr ..) ?_; clear tr
       have hbl := rwB_len (hz u) j
       have hal2 := rwA_len (ns := ns) (z := gz zs u) (u := u) (by omega) (by assumption)
       have hsl2 : s2.length = (accX ns zs u).length + ((rwA ns (gz zs u) u).length + (rwB (gz zs u) j).length) := by rw [hs2]; simp only [List.length_append]
       rw [← hs] at hsl2
       have htx := txW_len (hz u j)
       refine at_seq rfl ?_
       refine rg rfl ?_
       refine Rq ?_
       have tr : ∀ a b c d e f g h i j k m n o p q r s t u v w x : AV, let l := lc_rtext_ok a b c d e f g h i j k m n o p q r s t u v w; trim ((73,x)::l) l = lc_rtext_ok a b c d e f g h i j k m n o p q r s t u v x := by intros; rfl
       refine R_nil (tr ..) ?_; clear tr
       refine then_n ?_
       refine at_seq rfl ?_
       refine cdd (fun h7 => ?_) (fun h7 => ?_)
       ·
        try simp only [decide_eq_true_eq, decide_eq_false_iff_not, decide_eq_decide, Bool.not_eq_true', Bool.not_eq_false', beq_iff_eq, beq_eq_false_iff_ne, ne_eq, Bool.and_eq_true, Bool.and_eq_false_iff, decide_not] at h7
        refine at_skip rfl ?_
        refine then_n ?_
        refine at_seq rfl ?_
        refine at_block rfl ?_
        refine at_seq rfl ?_
        refine rg rfl ?_
        refine Rq ?_
        refine R_q (r := AV.i (n5 (gz zs u) j)) rfl (by simp (disch := first | omega | (simp only [List.length_map, List.length_append, List.length_set, List.length_cons, List.length_nil]; omega)) only [go_sem, ↓reduceIte, Nat.reduceEqDiff, reduceCtorEq] <;> (rw [hg2]; exact n5_get (gz zs u) j (by omega))) ?_
        refine Rq ?_
        have tr : ∀ a b c d e f g h i j k m n o p q r s t u v w x y z : AV, let l := lc_rtext_ok a b c d e f g h i j k m n o p q r s t u v w; trim ((12,z)::(75,y)::(74,x)::l) l = lc_rtext_ok a b c d e f g h i z k m n o p q r s t u v w := by intros; rfl
        refine R_nil (tr ..) ?_; clear tr
        refine then_n ?_
        refine rg rfl ?_
        refine Rq ?_
        refine Rq ?_
        refine Rcall ?_
        refine ACall_eq (rdec_ok _ _ (n5 (gz zs u) j) (hz u j)) ?_
        refine Rq ?_
        refine Rq ?_
        refine Rq ?_
        have tr : ∀ a b c d e f g h i j k m n o p q r s t u v w x y z A B C : AV, let l := lc_rtext_ok a b c d e f g h i j k m n o p q r s t u v w; trim ((6,C)::(80,B)::(79,A)::(78,z)::(77,y)::(76,x)::l) l = lc_rtext_ok a b c d C f g h i j k m n o p q r s t u v w := by intros; rfl
        refine R_nil (tr ..) ?_; clear tr
        refine blk_n ?_
        refine then_n ?_
        refine rg rfl ?_
        refine Rq ?_
        refine Rq ?_
        have tr : ∀ a b c d e f g h i j k m n o p q r s t u v w x y : AV, let l := lc_rtext_ok a b c d e f g h i j k m n o p q r s t u v w; trim ((72,y)::(81,x)::l) l = lc_rtext_ok a b c d e f g h i j k m n o p q r s t u y w := by intros; rfl
        refine R_nil (tr ..) ?_; clear tr
        refine then_n ?_
        exact ⟨_, _, ⟨j + 1, s2 ++ ([32] ++ txW (n5 (gz zs u) j)), _, _, rfl, rfl, rfl, by omega, by (rw [hs2, rwB]; simp only [List.append_assoc])⟩, by rfl, by omega⟩
       ·
        try simp only [decide_eq_true_eq, decide_eq_false_iff_not, decide_eq_decide, Bool.not_eq_true', Bool.not_eq_false', beq_iff_eq, beq_eq_false_iff_ne, ne_eq, Bool.and_eq_true, Bool.and_eq_false_iff, decide_not] at h7
        refine at_exit rfl ?_
        refine then_x ?_
        refine then_x ?_
        refine blk_x ?_
        refine then_n ?_
        refine rg rfl ?_
        refine Rq ?_
        refine Rq ?_
        refine Rq ?_
        refine Rq ?_
        refine Rq ?_
        refine Rq ?_
        have tr : ∀ a b c d e f g h i j k m n o p q r s t u v w x y z A B C : AV, let l := lc_rtext_ok a b c d e f g h i j k m n o p q r s t u v w; trim ((6,C)::(86,B)::(85,A)::(84,z)::(83,y)::(82,x)::l) l = lc_rtext_ok a b c d C f g h i j k m n o p q r s t u v w := by intros; rfl
        refine R_nil (tr ..) ?_; clear tr
        refine blk_n ?_
        refine then_n ?_
        refine rg rfl ?_
        refine Rq ?_
        refine Rq ?_
        have tr : ∀ a b c d e f g h i j k m n o p q r s t u v w x y : AV, let l := lc_rtext_ok a b c d e f g h i j k m n o p q r s t u v w; trim ((18,y)::(87,x)::l) l = lc_rtext_ok a b c d e f g h i j k m n y p q r s t u v w := by intros; rfl
        refine R_nil (tr ..) ?_; clear tr
        refine then_n ?_
        exact ⟨_, _, ⟨u + 1, s2 ++ ([32] ++ (rtS (gz zs u) 6).1 ++ [10]), X ++ [some (stL (gz zs u)), some [AV.i (gz zs u).pl, AV.i (gz zs u).wn, AV.i (gz zs u).sh, AV.i (gz zs u).ls, AV.i (gz zs u).pt]], _, _, _, _, _, _, _, _, _, _, _, _, _, _, _, rfl, rfl, by (first | (simp; done) | (simp; rfl)), by omega, by exact ferr_ok hf ((rwE_r (by omega) (by assumption)).trans (by assumption)), by (obtain rfl : j = 5 := (by omega); rw [hs2, accX, rwX]; simp only [List.append_assoc])⟩, by rfl, by omega⟩
  ·
   try simp only [decide_eq_true_eq, decide_eq_false_iff_not, decide_eq_decide, Bool.not_eq_true', Bool.not_eq_false', beq_iff_eq, beq_eq_false_iff_ne, ne_eq, Bool.and_eq_true, Bool.and_eq_false_iff, decide_not] at h2
   refine at_exit rfl ?_
   refine then_x ?_
   refine then_x ?_
   refine blk_x ?_
   refine then_n ?_
   refine at_seq rfl ?_
   refine rg rfl ?_
   obtain rfl : u = zs.length := by omega
   refine Rq ?_
   refine Rq ?_
   refine Rq ?_
   have tr : ∀ a b c d e f g h i j k m n o p q r s t u v w x y z : AV, let l := lc_rtext_ok a b c d e f g h i j k m n o p q r s t u v w; trim ((5,z)::(4,y)::(88,x)::l) l = lc_rtext_ok a b y z e f g h i j k m n o p q r s t u v w := by intros; rfl
   refine R_nil (tr ..) ?_; clear tr
   refine then_n ?_
   refine at_ret rfl ?_
   first | (refine fpure ?_; refine ⟨?_, rfl⟩; rw [txtS_9 (by omega)] <;> rfl; done) | (refine fpure ?_; refine ⟨?_, rfl⟩; rw [txtS_e (u := u) (by omega) (by omega) hf (rwE_1 (by omega)) (by decide)] <;> rfl; done) | (refine fpure ?_; refine ⟨?_, rfl⟩; rw [txtS_e (u := u) (by omega) (by omega) hf (rwE_5 (by omega) (by assumption)) (by decide)] <;> rfl; done) | (refine fpure ?_; refine ⟨?_, rfl⟩; rw [txtS_e (u := u) (by omega) (by omega) hf (rwE_r (by omega) (by assumption)) (by assumption)] <;> rfl; done) | (refine fpure ?_; refine ⟨?_, rfl⟩; rw [txtS_y (by omega) hf, hs] <;> rfl; done)

end Go.Proofs.YtfnapmdedmbdbaaDoor
end
section
namespace Go.Proofs.YtfnapmdedmbdbaaDoor
open Go Go.Am
set_option maxRecDepth 100000
theorem awake51 (lim : Nat) (H : Heap) : acall sig 400 lim 10 [] H = some (.v (.bool true), H) := by kernel_rfl
end Go.Proofs.YtfnapmdedmbdbaaDoor
end
section
set_option linter.unusedVariables false
namespace Go.Proofs.YtfnapmdedmbdbaaDoor
open Go Go.RowKit Go.Shelf
noncomputable def i68 : TypeInfo := (Tryd.prog.info? 68).get (by kernel_rfl)
theorem info68 : Tryd.prog.info? 68 = some i68 := by kernel_rfl
theorem size68 : i68.size = 2 := by kernel_rfl
noncomputable def i5 : TypeInfo := (Tryd.prog.info? 5).get (by kernel_rfl)
theorem info5 : Tryd.prog.info? 5 = some i5 := by kernel_rfl
set_option maxHeartbeats 1000000 in
set_option maxRecDepth 100000 in
theorem copyCheck_used (b : Nat) (w : World) (h0 : w.cell? ⟨b, 0, none⟩ = some (.pointer (some ⟨b, 0, none⟩))) :
    Calls Tryd.prog 60 #[.pointer (some ⟨b, 0, none⟩)] w fun e w' => e = .returned (.tuple #[]) ∧ w' = w := by
  go_enter Tryd.func60, Tryd.ntmps60
  go_wp2
  rw [Lib.run_neq_ptr_same w _ Tryd.underlying65 info68]
  go_wp2
  go_end0
  exact ⟨rfl, rfl⟩
set_option maxHeartbeats 1000000 in
set_option maxRecDepth 100000 in
theorem copyCheck_fresh (b : Nat) (w : World) (h0 : w.cell? ⟨b, 0, none⟩ = some (.pointer none)) (hsh : w.shape? b = some (68, 2)) (hfz : w.frozen? ⟨b, 0, none⟩ = false) :
    Calls Tryd.prog 60 #[.pointer (some ⟨b, 0, none⟩)] w fun e w' => e = .returned (.tuple #[]) ∧ w' = w.setCell ⟨b, 0, none⟩ (.pointer (some ⟨b, 0, none⟩)) := by
  go_enter Tryd.func60, Tryd.ntmps60
  go_wp2
  rw [Lib.run_to_unsafe w ⟨b, 0, none⟩ Tryd.underlying65 Tryd.underlying116 info68 (by rw [size68]; decide) hsh (Nat.zero_lt_succ 1)]
  simp only [Result.andThen]
  rw [Oper.upon_value]
  go_wp2
  rw [run_callFunc_extern Tryd.func81 (by kernel_rfl) (by kernel_rfl) (by kernel_rfl) (e := Extern.AbiNoEscape.same) (by kernel_rfl)]
  rw [Lib.run_noEscape]
  simp only [Result.andThen]
  rw [Oper.upon_value]
  go_wp2
  rw [Lib.run_from_unsafe w ⟨b, 0, none⟩ Tryd.underlying116 Tryd.underlying65 info68 hsh (by kernel_rfl)]
  simp only [Result.andThen]
  rw [Oper.upon_value]
  go_wp2
  go_end0
  exact ⟨rfl, rfl⟩
theorem copyCheck_is (B b : Nat) (bs : List Value) (w : World) (h : Lib.IsBuilder 68 5 B b bs w) :
    Calls Tryd.prog 60 #[.pointer (some ⟨b, 0, none⟩)] w fun e w' => e = .returned (.tuple #[]) ∧ (Lib.BuilderAt 68 5 B b (.pointer (some ⟨b, 0, none⟩)) bs w' ∧ Below B w w' ∧ Lib.OthersKept 5 (some b) w w') := by
  rcases h with h | h
  · refine (copyCheck_fresh b w h.cell0 h.shape h.frozen0).mono ?_
    rintro e w' ⟨rfl, rfl⟩
    exact ⟨rfl, h.used _, (Below.refl B w).setCell (p := ⟨b, 0, none⟩) h.1 _, (Lib.OthersKept.refl _ _ w).setCell ⟨b, 0, none⟩ rfl _⟩
  · refine (copyCheck_used b w h.cell0).mono ?_
    rintro e w' ⟨rfl, rfl⟩
    exact ⟨rfl, h, Below.refl B _, Lib.OthersKept.refl _ _ _⟩
theorem own_kind {w : World} {B : Nat} {e : TypeId} {v : Value} {n : Nat} {xs : List Value} (h : w.ownsRow B e 1 v n xs) : ∀ g, v.ownBlock = some g → ∃ c fz, w.heap[g]? = some (.cells c e fz) :=
  Lib.ownsRowF_kind (World.ownsRowF_of h)
set_option maxHeartbeats 2000000 in
set_option maxRecDepth 100000 in
theorem write_is (B b : Nat) (bs : List Value) (s : ByteArray) (w : World) (h : Lib.IsBuilder 68 5 B b bs w) (hlen : bs.length + s.size ≤ 140737488355328) (hBw : B ≤ w.heap.size) :
    Calls Tryd.prog 46 #[.pointer (some ⟨b, 0, none⟩), .string s] w fun e w' => e = .returned (.tuple #[.int .i64 s.size, .nilIface]) ∧ (Lib.BuilderAt 68 5 B b (.pointer (some ⟨b, 0, none⟩)) (bs ++ Lib.strCells s) w' ∧ Below B w w' ∧ Lib.OthersKept 5 (some b) w w') := by
  have e60 : ∀ args w, (callFunc 60 args).run Tryd.prog w = .ok (.enter 60 args) w := enters_of Tryd.func60 (by kernel_rfl) rfl
  go_enter Tryd.func46, Tryd.ntmps46
  go_wp2_with (go_at_fn 60; refine (copyCheck_is B b bs _ h).mono ?_)
  rintro e w1 ⟨rfl, h1, hb1, hk1⟩
  obtain ⟨hB, v, hbk, hown, hne⟩ := h1
  have c0 : w1.cell? ⟨b, 0, none⟩ = some (.pointer (some ⟨b, 0, none⟩)) := by rw [Lib.cell_of_heap hbk]; rfl
  have c1 : w1.cell? ⟨b, 1, none⟩ = some v := by rw [Lib.cell_of_heap hbk]; rfl
  go_wp2_with (at_builtin; refine Lib.wpList_append_own_string _ rfl _ _ 66 9 rfl B 5 i5 Tryd.underlying66 Tryd.underlying9 info5 (by kernel_rfl) (by kernel_rfl) (by kernel_rfl) _ _ _ rfl hown s rfl ?c3 ?c4 ?c5 ?_)
  case c3 => unfold maxLen; omega
  case c4 => omega
  case c5 => have := hb1.size; omega
  intro v' w2 hown' hgrow _
  have hlt : b < w1.heap.size := by
    rcases Nat.lt_or_ge b w1.heap.size with h' | h'
    · exact h'
    · simp [Array.getElem?_eq_none h'] at hbk
  have hb2 : w2.heap[b]? = some (.cells #[.pointer (some ⟨b, 0, none⟩), v] 68 (0, 0)) := by
    rw [hgrow.block b hlt (fun e => hne e.symm)]
    exact hbk
  have d0 : w2.cell? ⟨b, 0, none⟩ = some (.pointer (some ⟨b, 0, none⟩)) := by rw [Lib.cell_of_heap hb2]; rfl
  have d1 : w2.cell? ⟨b, 1, none⟩ = some v := by rw [Lib.cell_of_heap hb2]; rfl
  have f1 : w2.frozen? ⟨b, 1, none⟩ = false := Lib.frozen_of_heap hb2 1
  obtain ⟨ao, n', cap, rfl⟩ : ∃ ao n' cap, v' = .slice ao n' cap := by
    rcases hown'.2 with ⟨hv, _⟩ | ⟨g, cap, cur, hv, _⟩
    · exact ⟨_, _, _, hv⟩
    · exact ⟨_, _, _, hv⟩
  go_wp2
  go_ret2
  refine ⟨rfl, ?_, ?_, (hk1.grown hgrow (own_kind hown)).setCell ⟨b, 1, none⟩ rfl _⟩
  · exact Lib.BuilderAt.put (T := 68) (e := 5) hB hb2 (bs' := bs ++ Lib.strCells s) (by simpa [Lib.strCells_length] using hown') (by decide)
  · exact (hb1.grown hgrow (by have := hb1.size; omega) (fun k hk => (hown.lt k hk).1)).setCell (p := ⟨b, 1, none⟩) hB _
end Go.Proofs.YtfnapmdedmbdbaaDoor
end
section
set_option linter.unusedVariables false
namespace Go.Proofs.YtfnapmdedmbdbaaDoor
open Go Go.Am Go.RowKit
abbrev HT (w : World) : Prop := ∀ w1 : World, (∀ k, k < w.heap.size → w1.heap[k]? = w.heap[k]?) → Tb w1
theorem HT.below {w w' : World} (h : HT w) (hb : Below w.heap.size w w') : HT w' := fun w1 h1 => h w1 fun k hk => (h1 k (Nat.lt_of_lt_of_le hk hb.size)).trans (hb.block k hk)
theorem dl1 {w : World} {x : AV} {v : Value} (h : Den [] (fun k => k < w.heap.size) w x v) : DL [] (fun k => k < w.heap.size) w [x] #[v] :=
  ⟨rfl, fun j x' y hx hy => by
    rcases j with _ | j
    · obtain rfl := Option.some.inj hx
      obtain rfl : v = y := by simpa using hy
      exact h
    · simp at hx⟩
theorem dl2 {w : World} {x y : AV} {v u : Value} (h : Den [] (fun k => k < w.heap.size) w x v) (h2 : Den [] (fun k => k < w.heap.size) w y u) : DL [] (fun k => k < w.heap.size) w [x, y] #[v, u] :=
  ⟨rfl, fun j x' y' hx hy => by
    rcases j with _ | _ | j
    · obtain rfl := Option.some.inj hx
      obtain rfl : v = y' := by simpa using hy
      exact h
    · obtain rfl := Option.some.inj hx
      obtain rfl : u = y' := by simpa using hy
      exact h2
    · simp at hx⟩
theorem den_v {φ : Phi} {I : Nat → Prop} {w : World} {x y : Value} (h : Den φ I w (.v x) y) : y = x := by cases h; rfl
theorem den_t2 {φ : Phi} {I : Nat → Prop} {w : World} {x y : Value} {v : Value} (h : Den φ I w (.tup [.v x, .v y]) v) : v = .tuple #[x, y] := by
  cases h with
  | tup l cs hs hD =>
    obtain ⟨l⟩ := cs
    match l, hs with
    | [a, b], _ =>
      obtain rfl := den_v (hD 0 (.v x) a rfl rfl)
      obtain rfl := den_v (hD 1 (.v y) b rfl rfl)
      rfl
theorem dec_c (w : World) (hT : HT w) (n : Int) (hn : -9223372036854775808 ≤ n ∧ n ≤ 9223372036854775807) : Calls Tryd.prog 35 #[.int .i64 n] w fun e w' => e = .returned (.string (bs (txW n))) ∧ Below w.heap.size w w' := by
  obtain ⟨k, r, H', h, hr, _⟩ := dec_ok 0 [] n hn
  subst hr
  exact (calls_of_acall sig_ok rfl h (dl1 (.v _)) hT).mono fun e w' ⟨x, I', h1, h2, h3⟩ => ⟨by rw [h1, den_v h2], h3⟩
theorem name_c (w : World) (hT : HT w) (l : List UInt8) (hl : l.length ≤ 9223372036854775807) : Calls Tryd.prog 45 #[.string (bs l)] w fun e w' => e = .returned (.bool (nameS (bs l))) ∧ Below w.heap.size w w' := by
  obtain ⟨k, r, H', h, hr, _⟩ := name_ok45 0 [] (bs l) (by rw [bs_size]; exact hl)
  subst hr
  exact (calls_of_acall sig_ok rfl h (dl1 (.v _)) hT).mono fun e w' ⟨x, I', h1, h2, h3⟩ => ⟨by rw [h1, den_v h2], h3⟩
def stV (z : St) : Array Value := #[.int .i64 z.tm, .int .i64 z.pl, .int .i64 z.wn, .int .i64 z.sh, .int .i64 z.ls, .int .i64 z.pt, .int .i64 z.rf, .int .i64 z.bf, .int .i64 z.ra, .int .i64 z.ba]
theorem den_stz {φ : Phi} {I : Nat → Prop} {w : World} (z : St) : Den φ I w (stA z) (.agg (stV z)) :=
  .agg _ _ rfl fun j x y hx hy => by
    rcases j with _ | _ | _ | _ | _ | _ | _ | _ | _ | _ | j
    all_goals first
      | (simp [stL] at hx; done)
      | (obtain rfl := Option.some.inj hx; obtain rfl := Option.some.inj hy; exact .v _)
theorem rate_c (w : World) (hT : HT w) (z : St) : Calls Tryd.prog 15 #[.agg (stV z), .int .i64 6] w fun e w' => e = .returned (.tuple #[.string (bs (rtS z 6).1), .int .i64 (rtS z 6).2]) ∧ Below w.heap.size w w' := by
  obtain ⟨k, r, H', h, hr, _⟩ := prate_ok 0 [] z 6 (by omega)
  subst hr
  exact (calls_of_acall sig_ok rfl h (dl2 (den_stz z) (.v _)) hT).mono fun e w' ⟨x, I', h1, h2, h3⟩ => ⟨by rw [h1, den_t2 h2], h3⟩
theorem awake_c (w : World) (hT : HT w) : Calls Tryd.prog 10 #[] w fun e w' => e = .returned (.bool true) ∧ Below w.heap.size w w' :=
  (calls_of_acall sig_ok rfl (awake51 0 []) ⟨rfl, fun j x y hx => by simp at hx⟩ hT).mono fun e w' ⟨x, I', h1, h2, h3⟩ => ⟨by rw [h1, den_v h2], h3⟩
theorem sl_of {φ : Phi} {I : Nat → Prop} {w : World} {n : Nat} {l : List AV} {v : Value} (h : Den φ I w (.sl n l) v) :
    ∃ p c, v = .slice p n c ∧ n ≤ c ∧ c ≤ maxLen ∧ (0 < n → ∃ b o, p = some ⟨b, o, none⟩ ∧ I b ∧ ∃ Y : Nat → Value, (∀ (j : Nat) (x : AV), l[j]? = some x → w.cell? ⟨b, o + j, none⟩ = some (Y j)) ∧ ∀ (j : Nat) (x : AV), l[j]? = some x → Den φ I w x (Y j)) := by
  cases h with
  | sl0 l p => exact ⟨_, _, rfl, Nat.le_refl _, Nat.zero_le _, fun h => absurd h (Nat.lt_irrefl _)⟩
  | sl n l c a Y hn hc ha hI hY hD =>
    obtain ⟨b, o, s⟩ := a
    obtain rfl : s = none := ha
    exact ⟨_, _, rfl, hn, hc, fun _ => ⟨b, o, rfl, hI, Y, hY, hD⟩⟩
def lay (zs : List St) (ns : List (List UInt8)) (p q : Option Addr) (w : World) : Prop :=
  (0 < zs.length → ∃ b o, p = some ⟨b, o, none⟩ ∧ b < w.heap.size ∧ ∀ u, u < zs.length → ∀ k x, (stV (gz zs u))[k]? = some x → w.cell? ⟨b, o + (u * 10 + k), none⟩ = some x) ∧
  (0 < ns.length → ∃ b o, q = some ⟨b, o, none⟩ ∧ b < w.heap.size ∧ ∀ t : Int, 0 ≤ t → t < ns.length → w.cell? ⟨b, o + t.toNat, none⟩ = some (.string (bs (nmG ns t))))
theorem lay_of {w : World} {zs : List St} {ns : List (List UInt8)} {v u : Value} (h : Den [] (fun k => k < w.heap.size) w (stsAV zs) v) (h2 : Den [] (fun k => k < w.heap.size) w (nmsAV ns) u) :
    ∃ p c q d, v = .slice p zs.length c ∧ u = .slice q ns.length d ∧ zs.length ≤ c ∧ ns.length ≤ d ∧ lay zs ns p q w := by
  obtain ⟨p, c, rfl, hc, hcm, hp⟩ := sl_of h
  obtain ⟨q, d, rfl, hd, hdm, hq⟩ := sl_of h2
  refine ⟨p, c, q, d, rfl, rfl, hc, hd, fun h0 => ?_, fun h0 => ?_⟩
  · obtain ⟨b, o, rfl, hI, Y, hY, hD⟩ := hp h0
    refine ⟨b, o, rfl, hI, fun u hu k x hx => ?_⟩
    have hk : k < 10 := by
      rcases Nat.lt_or_ge k 10 with h' | h'
      · exact h'
      · rw [Array.getElem?_eq_none (by simpa [stV] using h')] at hx; cases hx
    have hf := flatZ_get zs u k hu hk
    have hx' : (stL (gz zs u))[k]? = some (.v x) := by
      have h : k = 0 ∨ k = 1 ∨ k = 2 ∨ k = 3 ∨ k = 4 ∨ k = 5 ∨ k = 6 ∨ k = 7 ∨ k = 8 ∨ k = 9 := by omega
      rcases h with rfl | rfl | rfl | rfl | rfl | rfl | rfl | rfl | rfl | rfl <;> (obtain rfl := Option.some.inj hx; rfl)
    rw [hx'] at hf
    rw [hY _ _ hf, den_v (hD _ _ hf)]
  · obtain ⟨b, o, rfl, hI, Y, hY, hD⟩ := hq h0
    refine ⟨b, o, rfl, hI, fun t h1 h2 => ?_⟩
    have hf := ld_nm (ns := ns) (t := t) (by omega) h2
    rw [hY _ _ hf, den_v (hD _ _ hf)]
theorem cell_below {B : Nat} {w w' : World} (hb : Below B w w') {b o : Nat} (h : b < B) : w'.cell? ⟨b, o, none⟩ = w.cell? ⟨b, o, none⟩ := by
  unfold World.cell?
  rw [hb.block b h]
theorem lay.below {zs : List St} {ns : List (List UInt8)} {p q : Option Addr} {w w' : World} (h : lay zs ns p q w) (hb : Below w.heap.size w w') : lay zs ns p q w' := by
  refine ⟨fun h0 => ?_, fun h0 => ?_⟩
  · obtain ⟨b, o, rfl, hI, h⟩ := h.1 h0
    exact ⟨b, o, rfl, Nat.lt_of_lt_of_le hI hb.size, fun u hu k x hx => (cell_below hb hI).trans (h u hu k x hx)⟩
  · obtain ⟨b, o, rfl, hI, h⟩ := h.2 h0
    exact ⟨b, o, rfl, Nat.lt_of_lt_of_le hI hb.size, fun t h1 h2 => (cell_below hb hI).trans (h t h1 h2)⟩
end Go.Proofs.YtfnapmdedmbdbaaDoor
end
section
namespace Go.Proofs
open Go.Shelf
def Tryd.lays169_ren : Go.Shelf.Ren := ⟨fun | 169 => 47 | n => n, fun | 70 => 65 | 9 => 9 | 0 => 0 | 72 => 68 | 37 => 66 | 127 => 93 | 3 => 3 | 5 => 5 | n => n, fun | n => n⟩
theorem Tryd.lays169 : Go.Proofs.Lays.n169 Tryd.prog Tryd.lays169_ren := {
  mixed := by kernel_rfl
  f169 := Tryd.func47.trans (congrArg some (by kernel_rfl))
  t0 := Tryd.underlying0
  a0 := Tryd.isAgg0
  z0 := Tryd.sizeOf0
  v0 := Tryd.zeroValue0
  t3 := Tryd.underlying3
  a3 := Tryd.isAgg3
  z3 := Tryd.sizeOf3
  v3 := Tryd.zeroValue3
  t9 := Tryd.underlying9
  a9 := Tryd.isAgg9
  z9 := Tryd.sizeOf9
  v9 := Tryd.zeroValue9
  t37 := Tryd.underlying66
  a37 := Tryd.isAgg66
  z37 := Tryd.sizeOf66
  v37 := Tryd.zeroValue66
  t70 := Tryd.underlying65
  a70 := Tryd.isAgg65
  z70 := Tryd.sizeOf65
  v70 := Tryd.zeroValue65
  t72 := Tryd.underlying68
  a72 := Tryd.isAgg68
  z72 := Tryd.sizeOf68
  v72 := Tryd.zeroValue68
  t127 := Tryd.underlying93
  a127 := Tryd.isAgg93
  z127 := Tryd.sizeOf93
  v127 := Tryd.zeroValue93 }
theorem Tryd.Builder_Extra_169 : Builder.Extra Tryd.prog Tryd.lays169_ren := {
  sizeBuilder := by kernel_rfl
  liesBuilder := by kernel_rfl
  t5 := Tryd.underlying5
  a5 := Tryd.isAgg5
  z5 := Tryd.sizeOf5
  v5 := Tryd.zeroValue5
  infoByte := by kernel_rfl
  cellsByte := by kernel_rfl
  sizeByte := by kernel_rfl
  neB5 := by decide }
open Go.RowKit in
/-- (*strings.Builder).String: "String returns the accumulated string.": WHATEVER THE BUILDER HOLDS. (LAID: no walk: one application.) -/
theorem Tryd.Builder_String_any (B b : Nat) (l : List UInt8) (w : World) (h : Lib.IsBuilder 68 5 B b (Lib.byteCells l) w) (hBw : B ≤ w.heap.size) :
    Calls Tryd.prog 47 #[.pointer (some ⟨b, 0, none⟩)] w fun e w' => e = .returned (.string ⟨l.toArray⟩) ∧ Below B w w' := Any.Builder_String_any Tryd.lays169 Tryd.Builder_Extra_169 B b l w h hBw

end Go.Proofs
end
