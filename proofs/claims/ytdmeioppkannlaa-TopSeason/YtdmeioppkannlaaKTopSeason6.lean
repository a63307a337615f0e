/-
  Texts of TopSeason, part 7 of 16. TopSeason: chapters 49, 51 to 53 at this program. Turned by program from built texts (season.py).
-/
import Derived.Test.YtdmeioppkannlaaKTopSeason5
import Derived.KernelRfl
import Derived.Shelf.SlSortCmp.WholeK
import Derived.Test.YtdmeioppkannlaaProg
import Derived.Shelf.SlLaysE0
import Derived.Shelf.SlicesE.Clone
import Derived.Shelf.RegionOpenPlain
import Derived.WalkKit
import Derived.Deep.LoopGhost
import Derived.Lib.Walk
import Derived.Lib.SliceRun
import Derived.Laws.Externs
section
set_option linter.unusedSimpArgs false
set_option linter.unusedVariables false
set_option maxHeartbeats 1000000
set_option maxRecDepth 20000
namespace Go.Proofs.Ytdmeioppkannlaa.C
open Go Go.Am
abbrev lc_word_ok (a b c d : AV) : Env := [(0,a),(2,b),(3,c),(5,d)]
theorem word_ok (lim : Nat) (H : Heap) (n : Int) (hn : -9223372036854775808 ≤ n ∧ n ≤ 9223372036854775807) : ACall sig lim 57 [AV.i n] H fun r H' => r = .tup [u6 (ab n), .v (.bool (decide (n < 0)))] ∧ H' = H := by
 refine ACall_pure (fa := fa57) rfl rfl rfl rfl ?_
 have tr : ∀ a0 : AV, env0 fa57.keep [a0] = lc_word_ok a0 .any .any .any := fun a0 => rfl
 refine W_to (tr _) ?_; clear tr
 refine at_seq rfl ?_
 refine rg rfl ?_
 refine Rq ?_
 refine Rq ?_
 have tr : ∀ a b c d e f : AV, let l := lc_word_ok a b c d; trim ((3,f)::(2,e)::l) l = lc_word_ok a e f d := by intros; rfl
 refine R_nil (tr ..) ?_; clear tr
 refine then_n ?_
 refine at_seq rfl ?_
 refine at_seq rfl ?_
 refine rg rfl ?_
 refine Rq ?_
 refine Rq ?_
 have tr : ∀ a b c d e f : AV, let l := lc_word_ok a b c d; trim ((5,f)::(4,e)::l) l = lc_word_ok a b c f := by intros; rfl
 refine R_nil (tr ..) ?_; clear tr
 refine then_n ?_
 refine cdd (fun h1 => ?_) (fun h1 => ?_)
 ·
  try simp only [decide_eq_true_eq, decide_eq_false_iff_not, decide_eq_decide, Bool.not_eq_true', Bool.not_eq_false', beq_iff_eq, beq_eq_false_iff_ne, ne_eq, Bool.and_eq_true, Bool.and_eq_false_iff, decide_not] at h1
  refine at_seq rfl ?_
  refine rg rfl ?_
  refine Rq ?_
  refine Rq ?_
  refine Rq ?_
  refine Rq ?_
  refine Rq ?_
  have tr : ∀ a b c d e f g h i : AV, let l := lc_word_ok a b c d; trim ((3,i)::(2,h)::(8,g)::(7,f)::(6,e)::l) l = lc_word_ok a h i d := by intros; rfl
  refine R_nil (tr ..) ?_; clear tr
  refine then_n ?_
  refine at_ret rfl ?_
  refine then_r ?_
  refine fpure ?_
  refine ⟨?_, rfl⟩
  first | (rw [ab_neg (by omega)]; exact tup2 (by omega) (by simp; omega)) | (rw [ab_pos (by omega)]; exact tup2 (by omega) (by simp; omega))
 ·
  try simp only [decide_eq_true_eq, decide_eq_false_iff_not, decide_eq_decide, Bool.not_eq_true', Bool.not_eq_false', beq_iff_eq, beq_eq_false_iff_ne, ne_eq, Bool.and_eq_true, Bool.and_eq_false_iff, decide_not] at h1
  refine at_skip rfl ?_
  refine then_n ?_
  refine at_seq rfl ?_
  refine rg rfl ?_
  refine Rq ?_
  refine Rq ?_
  refine Rq ?_
  refine Rq ?_
  have tr : ∀ a b c d e f g h : AV, let l := lc_word_ok a b c d; trim ((3,h)::(2,g)::(10,f)::(9,e)::l) l = lc_word_ok a g h d := by intros; rfl
  refine R_nil (tr ..) ?_; clear tr
  refine then_n ?_
  refine at_ret rfl ?_
  refine fpure ?_
  refine ⟨?_, rfl⟩
  first | (rw [ab_neg (by omega)]; exact tup2 (by omega) (by simp; omega)) | (rw [ab_pos (by omega)]; exact tup2 (by omega) (by simp; omega))

abbrev lc_made_ok (a b c d e f g h i : AV) : Env := [(0,a),(1,b),(2,c),(6,d),(7,e),(8,f),(10,g),(12,h),(27,i)]
theorem made_ok (lim : Nat) (H : Heap) (h l : Int) (hh : 0 ≤ h ∧ h ≤ 18446744073709551615) (hl : 0 ≤ l ∧ l ≤ 18446744073709551615) (neg : Bool) : ACall sig lim 59 [u6 h, u6 l, .v (.bool neg)] H fun r H' => r = .tup [wv (fS (sg neg (h * 18446744073709551616 + l))).1, .v (.bool (fS (sg neg (h * 18446744073709551616 + l))).2)] ∧ H' = H := by
 refine ACall_pure (fa := fa59) rfl rfl rfl rfl ?_
 have tr : ∀ a0 a1 a2 : AV, env0 fa59.keep [a0, a1, a2] = lc_made_ok a0 a1 a2 .any .any .any .any .any .any := fun a0 a1 a2 => rfl
 refine W_to (tr _ _ _) ?_; clear tr
 refine at_seq rfl ?_
 refine rg rfl ?_
 refine R_alloc (by simp (disch := first | omega | (simp only [List.length_map, List.length_append, List.length_set, List.length_cons, List.length_nil]; omega)) only [go_sem, ↓reduceIte, Nat.reduceEqDiff, reduceCtorEq] <;> rfl) rfl (by simp only [List.map_cons, List.map_nil]; rfl) ?_
 refine Rq ?_
 have tr : ∀ a b c d e f g h i j k : AV, let l := lc_made_ok a b c d e f g h i; trim ((7,k)::(6,j)::l) l = lc_made_ok a b c j k f g h i := by intros; rfl
 refine R_nil (tr ..) ?_; clear tr
 refine then_n ?_
 refine at_seq rfl ?_
 refine at_seq rfl ?_
 refine rg rfl ?_
 refine Rq ?_
 refine Rq ?_
 have tr : ∀ a b c d e f g h i j k : AV, let l := lc_made_ok a b c d e f g h i; trim ((10,k)::(9,j)::l) l = lc_made_ok a b c d e f k h i := by intros; rfl
 refine R_nil (tr ..) ?_; clear tr
 refine then_n ?_
 refine cdd (fun h1 => ?_) (fun h1 => ?_)
 ·
  try simp only [decide_eq_true_eq, decide_eq_false_iff_not, decide_eq_decide, Bool.not_eq_true', Bool.not_eq_false', beq_iff_eq, beq_eq_false_iff_ne, ne_eq, Bool.and_eq_true, Bool.and_eq_false_iff, decide_not] at h1
  refine at_seq rfl ?_
  refine at_seq rfl ?_
  refine rg rfl ?_
  refine Rq ?_
  refine Rq ?_
  have tr : ∀ a b c d e f g h i j k : AV, let l := lc_made_ok a b c d e f g h i; trim ((12,k)::(11,j)::l) l = lc_made_ok a b c d e f g k i := by intros; rfl
  refine R_nil (tr ..) ?_; clear tr
  refine then_n ?_
  refine cdd (fun h2 => ?_) (fun h2 => ?_)
  ·
   try simp only [decide_eq_true_eq, decide_eq_false_iff_not, decide_eq_decide, Bool.not_eq_true', Bool.not_eq_false', beq_iff_eq, beq_eq_false_iff_ne, ne_eq, Bool.and_eq_true, Bool.and_eq_false_iff, decide_not] at h2
   refine at_seq rfl ?_
   refine rg rfl ?_
   refine Rq ?_
   refine R_store ty112 (by simp (disch := first | omega | (simp only [List.length_map, List.length_append, List.length_set, List.length_cons, List.length_nil]; omega)) only [go_sem, ↓reduceIte, Nat.reduceEqDiff, reduceCtorEq] <;> rfl) (by simp (disch := first | omega | (simp only [List.length_map, List.length_append, List.length_set, List.length_cons, List.length_nil]; omega)) only [go_sem, ↓reduceIte, Nat.reduceEqDiff, reduceCtorEq] <;> rfl) (by simp (disch := first | omega | (simp only [List.length_map, List.length_append, List.length_set, List.length_cons, List.length_nil]; omega)) only [go_sem, ↓reduceIte, Nat.reduceEqDiff, reduceCtorEq] <;> rfl) (by simp) (by rfl) (by simp (disch := first | omega | (simp only [List.length_map, List.length_append, List.length_set, List.length_cons, List.length_nil]; omega)) only [go_sem, ↓reduceIte, Nat.reduceEqDiff, reduceCtorEq] <;> rfl) ?_
   refine Rq ?_
   have tr : ∀ a b c d e f g h i j k : AV, let l := lc_made_ok a b c d e f g h i; trim ((7,k)::(13,j)::l) l = lc_made_ok a b c d k f g h i := by intros; rfl
   refine R_nil (tr ..) ?_; clear tr
   refine then_n ?_
   refine at_ret rfl ?_
   refine then_r ?_
   refine then_r ?_
   first | (refine fin_pure (rs := [.cell 6 112, .tmp 7]) rfl (by simp (disch := first | omega | (simp only [List.length_map, List.length_append, List.length_set, List.length_cons, List.length_nil]; omega)) only [go_sem, ↓reduceIte, Nat.reduceEqDiff, reduceCtorEq] <;> rfl) (by simp (disch := first | omega | (simp only [List.length_map, List.length_append, List.length_set, List.length_cons, List.length_nil]; omega)) only [go_sem, ↓reduceIte, Nat.reduceEqDiff, reduceCtorEq] <;> rfl) ?_; refine ⟨?_, rfl⟩; rw [sg_f (by assumption), fS_y (by unfold Fw; omega)]; exact tupW (by omega) (by omega) rfl; done) | (refine fin_pure (rs := [.cell 6 112, .tmp 7]) rfl (by simp (disch := first | omega | (simp only [List.length_map, List.length_append, List.length_set, List.length_cons, List.length_nil]; omega)) only [go_sem, ↓reduceIte, Nat.reduceEqDiff, reduceCtorEq] <;> rfl) (by simp (disch := first | omega | (simp only [List.length_map, List.length_append, List.length_set, List.length_cons, List.length_nil]; omega)) only [go_sem, ↓reduceIte, Nat.reduceEqDiff, reduceCtorEq] <;> rfl) ?_; refine ⟨?_, rfl⟩; rw [sg_f (by assumption), fS_n (by unfold Fw; omega)]; exact tupW (by omega) (by omega) rfl; done) | (refine fin_pure (rs := [.cell 6 112, .tmp 7]) rfl (by simp (disch := first | omega | (simp only [List.length_map, List.length_append, List.length_set, List.length_cons, List.length_nil]; omega)) only [go_sem, ↓reduceIte, Nat.reduceEqDiff, reduceCtorEq] <;> rfl) (by simp (disch := first | omega | (simp only [List.length_map, List.length_append, List.length_set, List.length_cons, List.length_nil]; omega)) only [go_sem, ↓reduceIte, Nat.reduceEqDiff, reduceCtorEq] <;> rfl) ?_; refine ⟨?_, rfl⟩; rw [sg_t (by assumption), fS_y (by unfold Fw; omega)]; exact tupW (by omega) (by omega) rfl; done) | (refine fin_pure (rs := [.cell 6 112, .tmp 7]) rfl (by simp (disch := first | omega | (simp only [List.length_map, List.length_append, List.length_set, List.length_cons, List.length_nil]; omega)) only [go_sem, ↓reduceIte, Nat.reduceEqDiff, reduceCtorEq] <;> rfl) (by simp (disch := first | omega | (simp only [List.length_map, List.length_append, List.length_set, List.length_cons, List.length_nil]; omega)) only [go_sem, ↓reduceIte, Nat.reduceEqDiff, reduceCtorEq] <;> rfl) ?_; refine ⟨?_, rfl⟩; rw [sg_t (by assumption), fS_n (by unfold Fw; omega)]; exact tupW (by omega) (by omega) rfl; done)
  ·
   try simp only [decide_eq_true_eq, decide_eq_false_iff_not, decide_eq_decide, Bool.not_eq_true', Bool.not_eq_false', beq_iff_eq, beq_eq_false_iff_ne, ne_eq, Bool.and_eq_true, Bool.and_eq_false_iff, decide_not] at h2
   refine at_skip rfl ?_
   refine then_n ?_
   refine at_seq rfl ?_
   refine rg rfl ?_
   refine Rq ?_
   refine Rq ?_
   refine Rq ?_
   refine Rq ?_
   refine R_store ty112 (by simp (disch := first | omega | (simp only [List.length_map, List.length_append, List.length_set, List.length_cons, List.length_nil]; omega)) only [go_sem, ↓reduceIte, Nat.reduceEqDiff, reduceCtorEq] <;> rfl) (by simp (disch := first | omega | (simp only [List.length_map, List.length_append, List.length_set, List.length_cons, List.length_nil]; omega)) only [go_sem, ↓reduceIte, Nat.reduceEqDiff, reduceCtorEq] <;> rfl) (by simp (disch := first | omega | (simp only [List.length_map, List.length_append, List.length_set, List.length_cons, List.length_nil]; omega)) only [go_sem, ↓reduceIte, Nat.reduceEqDiff, reduceCtorEq] <;> rfl) (by simp) (by rfl) (by simp (disch := first | omega | (simp only [List.length_map, List.length_append, List.length_set, List.length_cons, List.length_nil]; omega)) only [go_sem, ↓reduceIte, Nat.reduceEqDiff, reduceCtorEq] <;> rfl) ?_
   refine Rq ?_
   have tr : ∀ a b c d e f g h i j k m n o : AV, let l := lc_made_ok a b c d e f g h i; trim ((7,o)::(17,n)::(16,m)::(15,k)::(14,j)::l) l = lc_made_ok a b c d o f g h i := by intros; rfl
   refine R_nil (tr ..) ?_; clear tr
   refine then_n ?_
   refine at_ret rfl ?_
   refine then_r ?_
   first | (refine fin_pure (rs := [.cell 6 112, .tmp 7]) rfl (by simp (disch := first | omega | (simp only [List.length_map, List.length_append, List.length_set, List.length_cons, List.length_nil]; omega)) only [go_sem, ↓reduceIte, Nat.reduceEqDiff, reduceCtorEq] <;> rfl) (by simp (disch := first | omega | (simp only [List.length_map, List.length_append, List.length_set, List.length_cons, List.length_nil]; omega)) only [go_sem, ↓reduceIte, Nat.reduceEqDiff, reduceCtorEq] <;> rfl) ?_; refine ⟨?_, rfl⟩; rw [sg_f (by assumption), fS_y (by unfold Fw; omega)]; exact tupW (by omega) (by omega) rfl; done) | (refine fin_pure (rs := [.cell 6 112, .tmp 7]) rfl (by simp (disch := first | omega | (simp only [List.length_map, List.length_append, List.length_set, List.length_cons, List.length_nil]; omega)) only [go_sem, ↓reduceIte, Nat.reduceEqDiff, reduceCtorEq] <;> rfl) (by simp (disch := first | omega | (simp only [List.length_map, List.length_append, List.length_set, List.length_cons, List.length_nil]; omega)) only [go_sem, ↓reduceIte, Nat.reduceEqDiff, reduceCtorEq] <;> rfl) ?_; refine ⟨?_, rfl⟩; rw [sg_f (by assumption), fS_n (by unfold Fw; omega)]; exact tupW (by omega) (by omega) rfl; done) | (refine fin_pure (rs := [.cell 6 112, .tmp 7]) rfl (by simp (disch := first | omega | (simp only [List.length_map, List.length_append, List.length_set, List.length_cons, List.length_nil]; omega)) only [go_sem, ↓reduceIte, Nat.reduceEqDiff, reduceCtorEq] <;> rfl) (by simp (disch := first | omega | (simp only [List.length_map, List.length_append, List.length_set, List.length_cons, List.length_nil]; omega)) only [go_sem, ↓reduceIte, Nat.reduceEqDiff, reduceCtorEq] <;> rfl) ?_; refine ⟨?_, rfl⟩; rw [sg_t (by assumption), fS_y (by unfold Fw; omega)]; exact tupW (by omega) (by omega) rfl; done) | (refine fin_pure (rs := [.cell 6 112, .tmp 7]) rfl (by simp (disch := first | omega | (simp only [List.length_map, List.length_append, List.length_set, List.length_cons, List.length_nil]; omega)) only [go_sem, ↓reduceIte, Nat.reduceEqDiff, reduceCtorEq] <;> rfl) (by simp (disch := first | omega | (simp only [List.length_map, List.length_append, List.length_set, List.length_cons, List.length_nil]; omega)) only [go_sem, ↓reduceIte, Nat.reduceEqDiff, reduceCtorEq] <;> rfl) ?_; refine ⟨?_, rfl⟩; rw [sg_t (by assumption), fS_n (by unfold Fw; omega)]; exact tupW (by omega) (by omega) rfl; done)
 ·
  try simp only [decide_eq_true_eq, decide_eq_false_iff_not, decide_eq_decide, Bool.not_eq_true', Bool.not_eq_false', beq_iff_eq, beq_eq_false_iff_ne, ne_eq, Bool.and_eq_true, Bool.and_eq_false_iff, decide_not] at h1
  refine at_skip rfl ?_
  refine then_n ?_
  refine at_seq rfl ?_
  refine at_seq rfl ?_
  refine rg rfl ?_
  refine Rq ?_
  refine Rq ?_
  refine Rq ?_
  refine Rp_split (fun h3 => ?_) (fun h3 => ?_)
  ·
   try simp only [decide_eq_true_eq, decide_eq_false_iff_not, decide_eq_decide, Bool.not_eq_true', Bool.not_eq_false', beq_iff_eq, beq_eq_false_iff_ne, ne_eq, Bool.and_eq_true, Bool.and_eq_false_iff, decide_not] at h3
   refine Rn ?_
   refine Rn ?_
   refine Rn ?_
   refine Ru ?_
   refine Ru ?_
   refine Rn ?_
   refine Rq ?_
   have tr : ∀ a b c d e f g h i j k m n o p q r s t : AV, let l := lc_made_ok a b c d e f g h i; trim ((27,t)::(26,s)::(25,r)::(24,q)::(23,p)::(22,o)::(21,n)::(20,m)::(19,k)::(18,j)::l) l = lc_made_ok a b c d e f g h t := by intros; rfl
   refine R_nil (tr ..) ?_; clear tr
   refine then_n ?_
   refine cdt ?_
   refine at_seq rfl ?_
   refine rg rfl ?_
   refine Rq ?_
   refine R_store ty112 (by simp (disch := first | omega | (simp only [List.length_map, List.length_append, List.length_set, List.length_cons, List.length_nil]; omega)) only [go_sem, ↓reduceIte, Nat.reduceEqDiff, reduceCtorEq] <;> rfl) (by simp (disch := first | omega | (simp only [List.length_map, List.length_append, List.length_set, List.length_cons, List.length_nil]; omega)) only [go_sem, ↓reduceIte, Nat.reduceEqDiff, reduceCtorEq] <;> rfl) (by simp (disch := first | omega | (simp only [List.length_map, List.length_append, List.length_set, List.length_cons, List.length_nil]; omega)) only [go_sem, ↓reduceIte, Nat.reduceEqDiff, reduceCtorEq] <;> rfl) (by simp) (by rfl) (by simp (disch := first | omega | (simp only [List.length_map, List.length_append, List.length_set, List.length_cons, List.length_nil]; omega)) only [go_sem, ↓reduceIte, Nat.reduceEqDiff, reduceCtorEq] <;> rfl) ?_
   refine Rq ?_
   have tr : ∀ a b c d e f g h i j k : AV, let l := lc_made_ok a b c d e f g h i; trim ((7,k)::(28,j)::l) l = lc_made_ok a b c d k f g h i := by intros; rfl
   refine R_nil (tr ..) ?_; clear tr
   refine then_n ?_
   refine at_ret rfl ?_
   refine then_r ?_
   first | (refine fin_pure (rs := [.cell 6 112, .tmp 7]) rfl (by simp (disch := first | omega | (simp only [List.length_map, List.length_append, List.length_set, List.length_cons, List.length_nil]; omega)) only [go_sem, ↓reduceIte, Nat.reduceEqDiff, reduceCtorEq] <;> rfl) (by simp (disch := first | omega | (simp only [List.length_map, List.length_append, List.length_set, List.length_cons, List.length_nil]; omega)) only [go_sem, ↓reduceIte, Nat.reduceEqDiff, reduceCtorEq] <;> rfl) ?_; refine ⟨?_, rfl⟩; rw [sg_f (by assumption), fS_y (by unfold Fw; omega)]; exact tupW (by omega) (by omega) rfl; done) | (refine fin_pure (rs := [.cell 6 112, .tmp 7]) rfl (by simp (disch := first | omega | (simp only [List.length_map, List.length_append, List.length_set, List.length_cons, List.length_nil]; omega)) only [go_sem, ↓reduceIte, Nat.reduceEqDiff, reduceCtorEq] <;> rfl) (by simp (disch := first | omega | (simp only [List.length_map, List.length_append, List.length_set, List.length_cons, List.length_nil]; omega)) only [go_sem, ↓reduceIte, Nat.reduceEqDiff, reduceCtorEq] <;> rfl) ?_; refine ⟨?_, rfl⟩; rw [sg_f (by assumption), fS_n (by unfold Fw; omega)]; exact tupW (by omega) (by omega) rfl; done) | (refine fin_pure (rs := [.cell 6 112, .tmp 7]) rfl (by simp (disch := first | omega | (simp only [List.length_map, List.length_append, List.length_set, List.length_cons, List.length_nil]; omega)) only [go_sem, ↓reduceIte, Nat.reduceEqDiff, reduceCtorEq] <;> rfl) (by simp (disch := first | omega | (simp only [List.length_map, List.length_append, List.length_set, List.length_cons, List.length_nil]; omega)) only [go_sem, ↓reduceIte, Nat.reduceEqDiff, reduceCtorEq] <;> rfl) ?_; refine ⟨?_, rfl⟩; rw [sg_t (by assumption), fS_y (by unfold Fw; omega)]; exact tupW (by omega) (by omega) rfl; done) | (refine fin_pure (rs := [.cell 6 112, .tmp 7]) rfl (by simp (disch := first | omega | (simp only [List.length_map, List.length_append, List.length_set, List.length_cons, List.length_nil]; omega)) only [go_sem, ↓reduceIte, Nat.reduceEqDiff, reduceCtorEq] <;> rfl) (by simp (disch := first | omega | (simp only [List.length_map, List.length_append, List.length_set, List.length_cons, List.length_nil]; omega)) only [go_sem, ↓reduceIte, Nat.reduceEqDiff, reduceCtorEq] <;> rfl) ?_; refine ⟨?_, rfl⟩; rw [sg_t (by assumption), fS_n (by unfold Fw; omega)]; exact tupW (by omega) (by omega) rfl; done)
  ·
   try simp only [decide_eq_true_eq, decide_eq_false_iff_not, decide_eq_decide, Bool.not_eq_true', Bool.not_eq_false', beq_iff_eq, beq_eq_false_iff_ne, ne_eq, Bool.and_eq_true, Bool.and_eq_false_iff, decide_not] at h3
   refine Ry ?_
   refine Rq ?_
   refine Ry ?_
   refine Rq ?_
   refine Ry ?_
   refine Rq ?_
   refine Rp_split (fun h4 => ?_) (fun h4 => ?_)
   ·
    try simp only [decide_eq_true_eq, decide_eq_false_iff_not, decide_eq_decide, Bool.not_eq_true', Bool.not_eq_false', beq_iff_eq, beq_eq_false_iff_ne, ne_eq, Bool.and_eq_true, Bool.and_eq_false_iff, decide_not] at h4
    refine Ry ?_
    refine Rq ?_
    refine Ry ?_
    refine Rq ?_
    refine Ry ?_
    refine Rq ?_
    refine Rq ?_
    have tr : ∀ a b c d e f g h i j k m n o p q r s t : AV, let l := lc_made_ok a b c d e f g h i; trim ((27,t)::(26,s)::(25,r)::(24,q)::(23,p)::(22,o)::(21,n)::(20,m)::(19,k)::(18,j)::l) l = lc_made_ok a b c d e f g h t := by intros; rfl
    refine R_nil (tr ..) ?_; clear tr
    refine then_n ?_
    refine cdd (fun h5 => ?_) (fun h5 => ?_)
    ·
     try simp only [decide_eq_true_eq, decide_eq_false_iff_not, decide_eq_decide, Bool.not_eq_true', Bool.not_eq_false', beq_iff_eq, beq_eq_false_iff_ne, ne_eq, Bool.and_eq_true, Bool.and_eq_false_iff, decide_not] at h5
     refine at_seq rfl ?_
     refine rg rfl ?_
     refine Rq ?_
     refine R_store ty112 (by simp (disch := first | omega | (simp only [List.length_map, List.length_append, List.length_set, List.length_cons, List.length_nil]; omega)) only [go_sem, ↓reduceIte, Nat.reduceEqDiff, reduceCtorEq] <;> rfl) (by simp (disch := first | omega | (simp only [List.length_map, List.length_append, List.length_set, List.length_cons, List.length_nil]; omega)) only [go_sem, ↓reduceIte, Nat.reduceEqDiff, reduceCtorEq] <;> rfl) (by simp (disch := first | omega | (simp only [List.length_map, List.length_append, List.length_set, List.length_cons, List.length_nil]; omega)) only [go_sem, ↓reduceIte, Nat.reduceEqDiff, reduceCtorEq] <;> rfl) (by simp) (by rfl) (by simp (disch := first | omega | (simp only [List.length_map, List.length_append, List.length_set, List.length_cons, List.length_nil]; omega)) only [go_sem, ↓reduceIte, Nat.reduceEqDiff, reduceCtorEq] <;> rfl) ?_
     refine Rq ?_
     have tr : ∀ a b c d e f g h i j k : AV, let l := lc_made_ok a b c d e f g h i; trim ((7,k)::(28,j)::l) l = lc_made_ok a b c d k f g h i := by intros; rfl
     refine R_nil (tr ..) ?_; clear tr
     refine then_n ?_
     refine at_ret rfl ?_
     refine then_r ?_
     first | (refine fin_pure (rs := [.cell 6 112, .tmp 7]) rfl (by simp (disch := first | omega | (simp only [List.length_map, List.length_append, List.length_set, List.length_cons, List.length_nil]; omega)) only [go_sem, ↓reduceIte, Nat.reduceEqDiff, reduceCtorEq] <;> rfl) (by simp (disch := first | omega | (simp only [List.length_map, List.length_append, List.length_set, List.length_cons, List.length_nil]; omega)) only [go_sem, ↓reduceIte, Nat.reduceEqDiff, reduceCtorEq] <;> rfl) ?_; refine ⟨?_, rfl⟩; rw [sg_f (by assumption), fS_y (by unfold Fw; omega)]; exact tupW (by omega) (by omega) rfl; done) | (refine fin_pure (rs := [.cell 6 112, .tmp 7]) rfl (by simp (disch := first | omega | (simp only [List.length_map, List.length_append, List.length_set, List.length_cons, List.length_nil]; omega)) only [go_sem, ↓reduceIte, Nat.reduceEqDiff, reduceCtorEq] <;> rfl) (by simp (disch := first | omega | (simp only [List.length_map, List.length_append, List.length_set, List.length_cons, List.length_nil]; omega)) only [go_sem, ↓reduceIte, Nat.reduceEqDiff, reduceCtorEq] <;> rfl) ?_; refine ⟨?_, rfl⟩; rw [sg_f (by assumption), fS_n (by unfold Fw; omega)]; exact tupW (by omega) (by omega) rfl; done) | (refine fin_pure (rs := [.cell 6 112, .tmp 7]) rfl (by simp (disch := first | omega | (simp only [List.length_map, List.length_append, List.length_set, List.length_cons, List.length_nil]; omega)) only [go_sem, ↓reduceIte, Nat.reduceEqDiff, reduceCtorEq] <;> rfl) (by simp (disch := first | omega | (simp only [List.length_map, List.length_append, List.length_set, List.length_cons, List.length_nil]; omega)) only [go_sem, ↓reduceIte, Nat.reduceEqDiff, reduceCtorEq] <;> rfl) ?_; refine ⟨?_, rfl⟩; rw [sg_t (by assumption), fS_y (by unfold Fw; omega)]; exact tupW (by omega) (by omega) rfl; done) | (refine fin_pure (rs := [.cell 6 112, .tmp 7]) rfl (by simp (disch := first | omega | (simp only [List.length_map, List.length_append, List.length_set, List.length_cons, List.length_nil]; omega)) only [go_sem, ↓reduceIte, Nat.reduceEqDiff, reduceCtorEq] <;> rfl) (by simp (disch := first | omega | (simp only [List.length_map, List.length_append, List.length_set, List.length_cons, List.length_nil]; omega)) only [go_sem, ↓reduceIte, Nat.reduceEqDiff, reduceCtorEq] <;> rfl) ?_; refine ⟨?_, rfl⟩; rw [sg_t (by assumption), fS_n (by unfold Fw; omega)]; exact tupW (by omega) (by omega) rfl; done)
    ·
     try simp only [decide_eq_true_eq, decide_eq_false_iff_not, decide_eq_decide, Bool.not_eq_true', Bool.not_eq_false', beq_iff_eq, beq_eq_false_iff_ne, ne_eq, Bool.and_eq_true, Bool.and_eq_false_iff, decide_not] at h5
     refine at_skip rfl ?_
     refine then_n ?_
     refine at_seq rfl ?_
     refine rg rfl ?_
     refine Rq ?_
     refine Rq ?_
     refine Rcall ?_
     refine ACall_eq (add64_ok _ _ _ _ _ (by omega)) ?_
     refine Rq ?_
     refine Rq ?_
     refine Rq ?_
     refine Rq ?_
     refine Rq ?_
     have tr : ∀ a b c d e f g h i j k m n o p q r : AV, let l := lc_made_ok a b c d e f g h i; trim ((8,r)::(1,q)::(34,p)::(33,o)::(29,n)::(32,m)::(31,k)::(30,j)::l) l = lc_made_ok a q c d e r g h i := by intros; rfl
     refine R_nil (tr ..) ?_; clear tr
     refine then_n ?_
     refine at_seq rfl ?_
     refine rg rfl ?_
     refine Rq ?_
     refine Rq ?_
     refine Rq ?_
     refine Rcall ?_
     refine ACall_eq (add64_ok _ _ _ _ _ (by omega)) ?_
     refine Rq ?_
     refine Rq ?_
     refine Rq ?_
     refine Rq ?_
     have tr : ∀ a b c d e f g h i j k m n o p q r : AV, let l := lc_made_ok a b c d e f g h i; trim ((0,r)::(41,q)::(40,p)::(35,o)::(39,n)::(38,m)::(37,k)::(36,j)::l) l = lc_made_ok r b c d e f g h i := by intros; rfl
     refine R_nil (tr ..) ?_; clear tr
     refine then_n ?_
     refine at_seq rfl ?_
     refine rg rfl ?_
     refine Rq ?_
     refine Rq ?_
     refine Rq ?_
     refine Rq ?_
     refine R_store ty112 (by simp (disch := first | omega | (simp only [List.length_map, List.length_append, List.length_set, List.length_cons, List.length_nil]; omega)) only [go_sem, ↓reduceIte, Nat.reduceEqDiff, reduceCtorEq] <;> rfl) (by simp (disch := first | omega | (simp only [List.length_map, List.length_append, List.length_set, List.length_cons, List.length_nil]; omega)) only [go_sem, ↓reduceIte, Nat.reduceEqDiff, reduceCtorEq] <;> rfl) (by simp (disch := first | omega | (simp only [List.length_map, List.length_append, List.length_set, List.length_cons, List.length_nil]; omega)) only [go_sem, ↓reduceIte, Nat.reduceEqDiff, reduceCtorEq] <;> rfl) (by simp) (by rfl) (by simp (disch := first | omega | (simp only [List.length_map, List.length_append, List.length_set, List.length_cons, List.length_nil]; omega)) only [go_sem, ↓reduceIte, Nat.reduceEqDiff, reduceCtorEq] <;> rfl) ?_
     refine Rq ?_
     have tr : ∀ a b c d e f g h i j k m n o : AV, let l := lc_made_ok a b c d e f g h i; trim ((7,o)::(45,n)::(44,m)::(43,k)::(42,j)::l) l = lc_made_ok a b c d o f g h i := by intros; rfl
     refine R_nil (tr ..) ?_; clear tr
     refine then_n ?_
     refine at_ret rfl ?_
     first | (refine fin_pure (rs := [.cell 6 112, .tmp 7]) rfl (by simp (disch := first | omega | (simp only [List.length_map, List.length_append, List.length_set, List.length_cons, List.length_nil]; omega)) only [go_sem, ↓reduceIte, Nat.reduceEqDiff, reduceCtorEq] <;> rfl) (by simp (disch := first | omega | (simp only [List.length_map, List.length_append, List.length_set, List.length_cons, List.length_nil]; omega)) only [go_sem, ↓reduceIte, Nat.reduceEqDiff, reduceCtorEq] <;> rfl) ?_; refine ⟨?_, rfl⟩; rw [sg_f (by assumption), fS_y (by unfold Fw; omega)]; exact tupW (by omega) (by omega) rfl; done) | (refine fin_pure (rs := [.cell 6 112, .tmp 7]) rfl (by simp (disch := first | omega | (simp only [List.length_map, List.length_append, List.length_set, List.length_cons, List.length_nil]; omega)) only [go_sem, ↓reduceIte, Nat.reduceEqDiff, reduceCtorEq] <;> rfl) (by simp (disch := first | omega | (simp only [List.length_map, List.length_append, List.length_set, List.length_cons, List.length_nil]; omega)) only [go_sem, ↓reduceIte, Nat.reduceEqDiff, reduceCtorEq] <;> rfl) ?_; refine ⟨?_, rfl⟩; rw [sg_f (by assumption), fS_n (by unfold Fw; omega)]; exact tupW (by omega) (by omega) rfl; done) | (refine fin_pure (rs := [.cell 6 112, .tmp 7]) rfl (by simp (disch := first | omega | (simp only [List.length_map, List.length_append, List.length_set, List.length_cons, List.length_nil]; omega)) only [go_sem, ↓reduceIte, Nat.reduceEqDiff, reduceCtorEq] <;> rfl) (by simp (disch := first | omega | (simp only [List.length_map, List.length_append, List.length_set, List.length_cons, List.length_nil]; omega)) only [go_sem, ↓reduceIte, Nat.reduceEqDiff, reduceCtorEq] <;> rfl) ?_; refine ⟨?_, rfl⟩; rw [sg_t (by assumption), fS_y (by unfold Fw; omega)]; exact tupW (by omega) (by omega) rfl; done) | (refine fin_pure (rs := [.cell 6 112, .tmp 7]) rfl (by simp (disch := first | omega | (simp only [List.length_map, List.length_append, List.length_set, List.length_cons, List.length_nil]; omega)) only [go_sem, ↓reduceIte, Nat.reduceEqDiff, reduceCtorEq] <;> rfl) (by simp (disch := first | omega | (simp only [List.length_map, List.length_append, List.length_set, List.length_cons, List.length_nil]; omega)) only [go_sem, ↓reduceIte, Nat.reduceEqDiff, reduceCtorEq] <;> rfl) ?_; refine ⟨?_, rfl⟩; rw [sg_t (by assumption), fS_n (by unfold Fw; omega)]; exact tupW (by omega) (by omega) rfl; done)
   ·
    try simp only [decide_eq_true_eq, decide_eq_false_iff_not, decide_eq_decide, Bool.not_eq_true', Bool.not_eq_false', beq_iff_eq, beq_eq_false_iff_ne, ne_eq, Bool.and_eq_true, Bool.and_eq_false_iff, decide_not] at h4
    refine Rn ?_
    refine Rn ?_
    refine Ry ?_
    refine Rq ?_
    refine Rq ?_
    have tr : ∀ a b c d e f g h i j k m n o p q r s t : AV, let l := lc_made_ok a b c d e f g h i; trim ((27,t)::(26,s)::(25,r)::(24,q)::(23,p)::(22,o)::(21,n)::(20,m)::(19,k)::(18,j)::l) l = lc_made_ok a b c d e f g h t := by intros; rfl
    refine R_nil (tr ..) ?_; clear tr
    refine then_n ?_
    refine cdf ?_
    refine at_skip rfl ?_
    refine then_n ?_
    refine at_seq rfl ?_
    refine rg rfl ?_
    refine Rq ?_
    refine Rq ?_
    refine Rcall ?_
    refine ACall_eq (add64_ok _ _ _ _ _ (by omega)) ?_
    refine Rq ?_
    refine Rq ?_
    refine Rq ?_
    refine Rq ?_
    refine Rq ?_
    have tr : ∀ a b c d e f g h i j k m n o p q r : AV, let l := lc_made_ok a b c d e f g h i; trim ((8,r)::(1,q)::(34,p)::(33,o)::(29,n)::(32,m)::(31,k)::(30,j)::l) l = lc_made_ok a q c d e r g h i := by intros; rfl
    refine R_nil (tr ..) ?_; clear tr
    refine then_n ?_
    refine at_seq rfl ?_
    refine rg rfl ?_
    refine Rq ?_
    refine Rq ?_
    refine Rq ?_
    refine Rcall ?_
    refine ACall_eq (add64_ok _ _ _ _ _ (by omega)) ?_
    refine Rq ?_
    refine Rq ?_
    refine Rq ?_
    refine Rq ?_
    have tr : ∀ a b c d e f g h i j k m n o p q r : AV, let l := lc_made_ok a b c d e f g h i; trim ((0,r)::(41,q)::(40,p)::(35,o)::(39,n)::(38,m)::(37,k)::(36,j)::l) l = lc_made_ok r b c d e f g h i := by intros; rfl
    refine R_nil (tr ..) ?_; clear tr
    refine then_n ?_
    refine at_seq rfl ?_
    refine rg rfl ?_
    refine Rq ?_
    refine Rq ?_
    refine Rq ?_
    refine Rq ?_
    refine R_store ty112 (by simp (disch := first | omega | (simp only [List.length_map, List.length_append, List.length_set, List.length_cons, List.length_nil]; omega)) only [go_sem, ↓reduceIte, Nat.reduceEqDiff, reduceCtorEq] <;> rfl) (by simp (disch := first | omega | (simp only [List.length_map, List.length_append, List.length_set, List.length_cons, List.length_nil]; omega)) only [go_sem, ↓reduceIte, Nat.reduceEqDiff, reduceCtorEq] <;> rfl) (by simp (disch := first | omega | (simp only [List.length_map, List.length_append, List.length_set, List.length_cons, List.length_nil]; omega)) only [go_sem, ↓reduceIte, Nat.reduceEqDiff, reduceCtorEq] <;> rfl) (by simp) (by rfl) (by simp (disch := first | omega | (simp only [List.length_map, List.length_append, List.length_set, List.length_cons, List.length_nil]; omega)) only [go_sem, ↓reduceIte, Nat.reduceEqDiff, reduceCtorEq] <;> rfl) ?_
    refine Rq ?_
    have tr : ∀ a b c d e f g h i j k m n o : AV, let l := lc_made_ok a b c d e f g h i; trim ((7,o)::(45,n)::(44,m)::(43,k)::(42,j)::l) l = lc_made_ok a b c d o f g h i := by intros; rfl
    refine R_nil (tr ..) ?_; clear tr
    refine then_n ?_
    refine at_ret rfl ?_
    first | (refine fin_pure (rs := [.cell 6 112, .tmp 7]) rfl (by simp (disch := first | omega | (simp only [List.length_map, List.length_append, List.length_set, List.length_cons, List.length_nil]; omega)) only [go_sem, ↓reduceIte, Nat.reduceEqDiff, reduceCtorEq] <;> rfl) (by simp (disch := first | omega | (simp only [List.length_map, List.length_append, List.length_set, List.length_cons, List.length_nil]; omega)) only [go_sem, ↓reduceIte, Nat.reduceEqDiff, reduceCtorEq] <;> rfl) ?_; refine ⟨?_, rfl⟩; rw [sg_f (by assumption), fS_y (by unfold Fw; omega)]; exact tupW (by omega) (by omega) rfl; done) | (refine fin_pure (rs := [.cell 6 112, .tmp 7]) rfl (by simp (disch := first | omega | (simp only [List.length_map, List.length_append, List.length_set, List.length_cons, List.length_nil]; omega)) only [go_sem, ↓reduceIte, Nat.reduceEqDiff, reduceCtorEq] <;> rfl) (by simp (disch := first | omega | (simp only [List.length_map, List.length_append, List.length_set, List.length_cons, List.length_nil]; omega)) only [go_sem, ↓reduceIte, Nat.reduceEqDiff, reduceCtorEq] <;> rfl) ?_; refine ⟨?_, rfl⟩; rw [sg_f (by assumption), fS_n (by unfold Fw; omega)]; exact tupW (by omega) (by omega) rfl; done) | (refine fin_pure (rs := [.cell 6 112, .tmp 7]) rfl (by simp (disch := first | omega | (simp only [List.length_map, List.length_append, List.length_set, List.length_cons, List.length_nil]; omega)) only [go_sem, ↓reduceIte, Nat.reduceEqDiff, reduceCtorEq] <;> rfl) (by simp (disch := first | omega | (simp only [List.length_map, List.length_append, List.length_set, List.length_cons, List.length_nil]; omega)) only [go_sem, ↓reduceIte, Nat.reduceEqDiff, reduceCtorEq] <;> rfl) ?_; refine ⟨?_, rfl⟩; rw [sg_t (by assumption), fS_y (by unfold Fw; omega)]; exact tupW (by omega) (by omega) rfl; done) | (refine fin_pure (rs := [.cell 6 112, .tmp 7]) rfl (by simp (disch := first | omega | (simp only [List.length_map, List.length_append, List.length_set, List.length_cons, List.length_nil]; omega)) only [go_sem, ↓reduceIte, Nat.reduceEqDiff, reduceCtorEq] <;> rfl) (by simp (disch := first | omega | (simp only [List.length_map, List.length_append, List.length_set, List.length_cons, List.length_nil]; omega)) only [go_sem, ↓reduceIte, Nat.reduceEqDiff, reduceCtorEq] <;> rfl) ?_; refine ⟨?_, rfl⟩; rw [sg_t (by assumption), fS_n (by unfold Fw; omega)]; exact tupW (by omega) (by omega) rfl; done)

abbrev lc_cmp_ok (a b c d e f g : AV) : Env := [(0,a),(1,b),(2,c),(3,d),(4,e),(5,f),(25,g)]
theorem cmp_ok (lim : Nat) (H : Heap) (x : Int) (hx : Fw x) (y : Int) (hy : Fw y) : ACall sig lim 50 [wv x, wv y] H fun r H' => r = AV.i (cmpS x y) ∧ H' = H := by
 have fx := hx
 unfold Fw at fx
 have fy := hy
 unfold Fw at fy
 refine ACall_pure (fa := fa50) rfl rfl rfl rfl ?_
 have tr : ∀ a0 a1 : AV, env0 fa50.keep [a0, a1] = lc_cmp_ok a0 a1 .any .any .any .any .any := fun a0 a1 => rfl
 refine W_to (tr _ _) ?_; clear tr
 refine at_seq rfl ?_
 refine rg rfl ?_
 refine R_box rfl (by simp (disch := first | omega | (simp only [List.length_map, List.length_append, List.length_set, List.length_cons, List.length_nil]; omega)) only [go_sem, ↓reduceIte, Nat.reduceEqDiff, reduceCtorEq] <;> rfl) rfl rfl ?_
 refine R_box rfl (by simp (disch := first | omega | (simp only [List.length_map, List.length_append, List.length_set, List.length_cons, List.length_nil]; omega)) only [go_sem, ↓reduceIte, Nat.reduceEqDiff, reduceCtorEq] <;> rfl) rfl rfl ?_
 refine Rq ?_
 have tr : ∀ a b c d e f g h i j : AV, let l := lc_cmp_ok a b c d e f g; trim ((4,j)::(3,i)::(2,h)::l) l = lc_cmp_ok a b h i j f g := by intros; rfl
 refine R_nil (tr ..) ?_; clear tr
 refine then_n ?_
 refine at_seq rfl ?_
 refine at_block rfl ?_
 refine at_seq rfl ?_
 refine rg rfl ?_
 refine Rq ?_
 refine Rq ?_
 refine Rq ?_
 refine Rq ?_
 refine Rq ?_
 refine Rq ?_
 refine Rp_split (fun h1 => ?_) (fun h1 => ?_)
 ·
  try simp only [decide_eq_true_eq, decide_eq_false_iff_not, decide_eq_decide, Bool.not_eq_true', Bool.not_eq_false', beq_iff_eq, beq_eq_false_iff_ne, ne_eq, Bool.and_eq_true, Bool.and_eq_false_iff, decide_not] at h1
  refine Rn ?_
  refine Rn ?_
  refine Rn ?_
  refine Rn ?_
  refine Rn ?_
  refine Rn ?_
  refine Ru ?_
  refine Ru ?_
  refine Ru ?_
  refine Ru ?_
  refine Ru ?_
  refine Rn ?_
  refine Rq ?_
  refine Rq ?_
  have tr : ∀ a b c d e f g h i j k m n o p q r s t u v w x y z A B : AV, let l := lc_cmp_ok a b c d e f g; trim ((5,B)::(24,A)::(23,z)::(22,y)::(21,x)::(20,w)::(19,v)::(18,u)::(17,t)::(16,s)::(15,r)::(14,q)::(13,p)::(12,o)::(11,n)::(10,m)::(9,k)::(8,j)::(7,i)::(6,h)::l) l = lc_cmp_ok a b c d e B g := by intros; rfl
  refine R_nil (tr ..) ?_; clear tr
  refine then_n ?_
  refine cdt ?_
  refine at_seq rfl ?_
  refine rg rfl ?_
  refine Rq ?_
  have tr : ∀ a b c d e f g h : AV, let l := lc_cmp_ok a b c d e f g; trim ((4,h)::l) l = lc_cmp_ok a b c d h f g := by intros; rfl
  refine R_nil (tr ..) ?_; clear tr
  refine then_n ?_
  refine at_ret rfl ?_
  refine blk_r ?_
  refine then_r ?_
  first | (refine fpure ?_; refine ⟨?_, rfl⟩; rw [cmpS, if_pos (by omega)]; done) | (refine fpure ?_; refine ⟨?_, rfl⟩; rw [cmpS, if_neg (by omega), if_pos (by omega)]; done) | (refine fpure ?_; refine ⟨?_, rfl⟩; rw [cmpS, if_neg (by omega), if_neg (by omega)]; done)
 ·
  try simp only [decide_eq_true_eq, decide_eq_false_iff_not, decide_eq_decide, Bool.not_eq_true', Bool.not_eq_false', beq_iff_eq, beq_eq_false_iff_ne, ne_eq, Bool.and_eq_true, Bool.and_eq_false_iff, decide_not] at h1
  refine Ry ?_
  refine Rq ?_
  refine Ry ?_
  refine Rq ?_
  refine Ry ?_
  refine Rq ?_
  refine Ry ?_
  refine Rq ?_
  refine Ry ?_
  refine Rq ?_
  refine Ry ?_
  refine Rq ?_
  refine Rp_split (fun h2 => ?_) (fun h2 => ?_)
  ·
   try simp only [decide_eq_true_eq, decide_eq_false_iff_not, decide_eq_decide, Bool.not_eq_true', Bool.not_eq_false', beq_iff_eq, beq_eq_false_iff_ne, ne_eq, Bool.and_eq_true, Bool.and_eq_false_iff, decide_not] at h2
   refine Ry ?_
   refine Rq ?_
   refine Ry ?_
   refine Rq ?_
   refine Ry ?_
   refine Rq ?_
   refine Ry ?_
   refine Rq ?_
   refine Ry ?_
   refine Rq ?_
   refine Ry ?_
   refine Rq ?_
   refine Rq ?_
   refine Rq ?_
   have tr : ∀ a b c d e f g h i j k m n o p q r s t u v w x y z A B : AV, let l := lc_cmp_ok a b c d e f g; trim ((5,B)::(24,A)::(23,z)::(22,y)::(21,x)::(20,w)::(19,v)::(18,u)::(17,t)::(16,s)::(15,r)::(14,q)::(13,p)::(12,o)::(11,n)::(10,m)::(9,k)::(8,j)::(7,i)::(6,h)::l) l = lc_cmp_ok a b c d e B g := by intros; rfl
   refine R_nil (tr ..) ?_; clear tr
   refine then_n ?_
   refine cdd (fun h3 => ?_) (fun h3 => ?_)
   ·
    try simp only [decide_eq_true_eq, decide_eq_false_iff_not, decide_eq_decide, Bool.not_eq_true', Bool.not_eq_false', beq_iff_eq, beq_eq_false_iff_ne, ne_eq, Bool.and_eq_true, Bool.and_eq_false_iff, decide_not] at h3
    refine at_seq rfl ?_
    refine rg rfl ?_
    refine Rq ?_
    have tr : ∀ a b c d e f g h : AV, let l := lc_cmp_ok a b c d e f g; trim ((4,h)::l) l = lc_cmp_ok a b c d h f g := by intros; rfl
    refine R_nil (tr ..) ?_; clear tr
    refine then_n ?_
    refine at_ret rfl ?_
    refine blk_r ?_
    refine then_r ?_
    first | (refine fpure ?_; refine ⟨?_, rfl⟩; rw [cmpS, if_pos (by omega)]; done) | (refine fpure ?_; refine ⟨?_, rfl⟩; rw [cmpS, if_neg (by omega), if_pos (by omega)]; done) | (refine fpure ?_; refine ⟨?_, rfl⟩; rw [cmpS, if_neg (by omega), if_neg (by omega)]; done)
   ·
    try simp only [decide_eq_true_eq, decide_eq_false_iff_not, decide_eq_decide, Bool.not_eq_true', Bool.not_eq_false', beq_iff_eq, beq_eq_false_iff_ne, ne_eq, Bool.and_eq_true, Bool.and_eq_false_iff, decide_not] at h3
    refine at_seq rfl ?_
    refine rg rfl ?_
    refine Rq ?_
    refine Rq ?_
    refine Rq ?_
    refine Rq ?_
    have tr : ∀ a b c d e f g h i j k : AV, let l := lc_cmp_ok a b c d e f g; trim ((25,k)::(28,j)::(27,i)::(26,h)::l) l = lc_cmp_ok a b c d e f k := by intros; rfl
    refine R_nil (tr ..) ?_; clear tr
    refine then_n ?_
    refine cdd (fun h4 => ?_) (fun h4 => ?_)
    ·
     try simp only [decide_eq_true_eq, decide_eq_false_iff_not, decide_eq_decide, Bool.not_eq_true', Bool.not_eq_false', beq_iff_eq, beq_eq_false_iff_ne, ne_eq, Bool.and_eq_true, Bool.and_eq_false_iff, decide_not] at h4
     refine at_seq rfl ?_
     refine rg rfl ?_
     refine Rq ?_
     have tr : ∀ a b c d e f g h : AV, let l := lc_cmp_ok a b c d e f g; trim ((4,h)::l) l = lc_cmp_ok a b c d h f g := by intros; rfl
     refine R_nil (tr ..) ?_; clear tr
     refine then_n ?_
     refine at_ret rfl ?_
     refine blk_r ?_
     refine then_r ?_
     first | (refine fpure ?_; refine ⟨?_, rfl⟩; rw [cmpS, if_pos (by omega)]; done) | (refine fpure ?_; refine ⟨?_, rfl⟩; rw [cmpS, if_neg (by omega), if_pos (by omega)]; done) | (refine fpure ?_; refine ⟨?_, rfl⟩; rw [cmpS, if_neg (by omega), if_neg (by omega)]; done)
    ·
     try simp only [decide_eq_true_eq, decide_eq_false_iff_not, decide_eq_decide, Bool.not_eq_true', Bool.not_eq_false', beq_iff_eq, beq_eq_false_iff_ne, ne_eq, Bool.and_eq_true, Bool.and_eq_false_iff, decide_not] at h4
     refine at_skip rfl ?_
     refine blk_n ?_
     refine then_n ?_
     refine at_seq rfl ?_
     refine rg rfl ?_
     refine Rq ?_
     have tr : ∀ a b c d e f g h : AV, let l := lc_cmp_ok a b c d e f g; trim ((4,h)::l) l = lc_cmp_ok a b c d h f g := by intros; rfl
     refine R_nil (tr ..) ?_; clear tr
     refine then_n ?_
     refine at_ret rfl ?_
     first | (refine fpure ?_; refine ⟨?_, rfl⟩; rw [cmpS, if_pos (by omega)]; done) | (refine fpure ?_; refine ⟨?_, rfl⟩; rw [cmpS, if_neg (by omega), if_pos (by omega)]; done) | (refine fpure ?_; refine ⟨?_, rfl⟩; rw [cmpS, if_neg (by omega), if_neg (by omega)]; done)
  ·
   try simp only [decide_eq_true_eq, decide_eq_false_iff_not, decide_eq_decide, Bool.not_eq_true', Bool.not_eq_false', beq_iff_eq, beq_eq_false_iff_ne, ne_eq, Bool.and_eq_true, Bool.and_eq_false_iff, decide_not] at h2
   refine Rn ?_
   refine Rn ?_
   refine Rn ?_
   refine Rn ?_
   refine Rn ?_
   refine Ry ?_
   refine Rq ?_
   refine Rq ?_
   refine Rq ?_
   have tr : ∀ a b c d e f g h i j k m n o p q r s t u v w x y z A B : AV, let l := lc_cmp_ok a b c d e f g; trim ((5,B)::(24,A)::(23,z)::(22,y)::(21,x)::(20,w)::(19,v)::(18,u)::(17,t)::(16,s)::(15,r)::(14,q)::(13,p)::(12,o)::(11,n)::(10,m)::(9,k)::(8,j)::(7,i)::(6,h)::l) l = lc_cmp_ok a b c d e B g := by intros; rfl
   refine R_nil (tr ..) ?_; clear tr
   refine then_n ?_
   refine cdf ?_
   refine at_seq rfl ?_
   refine rg rfl ?_
   refine Rq ?_
   refine Rq ?_
   refine Rq ?_
   refine Rq ?_
   have tr : ∀ a b c d e f g h i j k : AV, let l := lc_cmp_ok a b c d e f g; trim ((25,k)::(28,j)::(27,i)::(26,h)::l) l = lc_cmp_ok a b c d e f k := by intros; rfl
   refine R_nil (tr ..) ?_; clear tr
   refine then_n ?_
   refine cdd (fun h5 => ?_) (fun h5 => ?_)
   ·
    try simp only [decide_eq_true_eq, decide_eq_false_iff_not, decide_eq_decide, Bool.not_eq_true', Bool.not_eq_false', beq_iff_eq, beq_eq_false_iff_ne, ne_eq, Bool.and_eq_true, Bool.and_eq_false_iff, decide_not] at h5
    refine at_seq rfl ?_
    refine rg rfl ?_
    refine Rq ?_
    have tr : ∀ a b c d e f g h : AV, let l := lc_cmp_ok a b c d e f g; trim ((4,h)::l) l = lc_cmp_ok a b c d h f g := by intros; rfl
    refine R_nil (tr ..) ?_; clear tr
    refine then_n ?_
    refine at_ret rfl ?_
    refine blk_r ?_
    refine then_r ?_
    first | (refine fpure ?_; refine ⟨?_, rfl⟩; rw [cmpS, if_pos (by omega)]; done) | (refine fpure ?_; refine ⟨?_, rfl⟩; rw [cmpS, if_neg (by omega), if_pos (by omega)]; done) | (refine fpure ?_; refine ⟨?_, rfl⟩; rw [cmpS, if_neg (by omega), if_neg (by omega)]; done)
   ·
    try simp only [decide_eq_true_eq, decide_eq_false_iff_not, decide_eq_decide, Bool.not_eq_true', Bool.not_eq_false', beq_iff_eq, beq_eq_false_iff_ne, ne_eq, Bool.and_eq_true, Bool.and_eq_false_iff, decide_not] at h5
    refine at_skip rfl ?_
    refine blk_n ?_
    refine then_n ?_
    refine at_seq rfl ?_
    refine rg rfl ?_
    refine Rq ?_
    have tr : ∀ a b c d e f g h : AV, let l := lc_cmp_ok a b c d e f g; trim ((4,h)::l) l = lc_cmp_ok a b c d h f g := by intros; rfl
    refine R_nil (tr ..) ?_; clear tr
    refine then_n ?_
    refine at_ret rfl ?_
    first | (refine fpure ?_; refine ⟨?_, rfl⟩; rw [cmpS, if_pos (by omega)]; done) | (refine fpure ?_; refine ⟨?_, rfl⟩; rw [cmpS, if_neg (by omega), if_pos (by omega)]; done) | (refine fpure ?_; refine ⟨?_, rfl⟩; rw [cmpS, if_neg (by omega), if_neg (by omega)]; done)

abbrev lc_mul_ok (a b c d e f g h i j : AV) : Env := [(0,a),(1,b),(4,c),(5,d),(6,e),(7,f),(8,g),(9,h),(10,i),(11,j)]
theorem mul_ok (lim : Nat) (H : Heap) (a : Int) (ha : -9223372036854775808 ≤ a ∧ a ≤ 9223372036854775807) (b : Int) (hb : -9223372036854775808 ≤ b ∧ b ≤ 9223372036854775807) : ACall sig lim 51 [AV.i a, AV.i b] H fun r H' => r = wv (a * b) ∧ H' = H := by
 have har := ab_rng a
 have hbr := ab_rng b
 have hp := mul_pos' (ab_rng a) (ab_rng b)
 have ha1 := ab_le ha
 have hb1 := ab_le hb
 have hq := mul_le' (ab_rng a) ha1 (ab_rng b) hb1
 refine ACall_pure (fa := fa51) rfl rfl rfl rfl ?_
 have tr : ∀ a0 a1 : AV, env0 fa51.keep [a0, a1] = lc_mul_ok a0 a1 .any .any .any .any .any .any .any .any := fun a0 a1 => rfl
 refine W_to (tr _ _) ?_; clear tr
 refine at_seq rfl ?_
 refine rg rfl ?_
 refine R_alloc (by simp (disch := first | omega | (simp only [List.length_map, List.length_append, List.length_set, List.length_cons, List.length_nil]; omega)) only [go_sem, ↓reduceIte, Nat.reduceEqDiff, reduceCtorEq] <;> rfl) rfl (by simp only [List.map_cons, List.map_nil]; rfl) ?_
 have tr : ∀ a b c d e f g h i j k : AV, let l := lc_mul_ok a b c d e f g h i j; trim ((4,k)::l) l = lc_mul_ok a b k d e f g h i j := by intros; rfl
 refine R_nil (tr ..) ?_; clear tr
 refine then_n ?_
 refine at_seq rfl ?_
 refine rg rfl ?_
 refine Rq ?_
 refine Rcall ?_
 refine ACall_eq (word_ok _ _ _ (by omega)) ?_
 refine Rq ?_
 refine Rq ?_
 refine Rq ?_
 refine Rq ?_
 refine Rq ?_
 have tr : ∀ a b c d e f g h i j k m n o p q r : AV, let l := lc_mul_ok a b c d e f g h i j; trim ((6,r)::(5,q)::(17,p)::(16,o)::(13,n)::(15,m)::(14,k)::l) l = lc_mul_ok a b c q r f g h i j := by intros; rfl
 refine R_nil (tr ..) ?_; clear tr
 refine then_n ?_
 refine at_seq rfl ?_
 refine rg rfl ?_
 refine Rq ?_
 refine Rcall ?_
 refine ACall_eq (word_ok _ _ _ (by omega)) ?_
 refine Rq ?_
 refine Rq ?_
 refine Rq ?_
 refine Rq ?_
 refine Rq ?_
 have tr : ∀ a b c d e f g h i j k m n o p q r : AV, let l := lc_mul_ok a b c d e f g h i j; trim ((8,r)::(7,q)::(22,p)::(21,o)::(18,n)::(20,m)::(19,k)::l) l = lc_mul_ok a b c d e q r h i j := by intros; rfl
 refine R_nil (tr ..) ?_; clear tr
 refine then_n ?_
 refine at_seq rfl ?_
 refine rg rfl ?_
 refine Rq ?_
 refine Rq ?_
 refine Rcall ?_
 refine ACall_eq (mul64_ok _ _ _ _ (by omega)) ?_
 refine Rq ?_
 refine Rq ?_
 refine Rq ?_
 refine Rq ?_
 refine Rq ?_
 have tr : ∀ a b c d e f g h i j k m n o p q r s : AV, let l := lc_mul_ok a b c d e f g h i j; trim ((10,s)::(9,r)::(28,q)::(27,p)::(23,o)::(26,n)::(25,m)::(24,k)::l) l = lc_mul_ok a b c d e f g r s j := by intros; rfl
 refine R_nil (tr ..) ?_; clear tr
 refine then_n ?_
 refine at_seq rfl ?_
 refine rg rfl ?_
 refine Rq ?_
 refine Rq ?_
 refine Rq ?_
 refine Rq ?_
 refine Rq ?_
 refine Rcall ?_
 obtain ⟨P, hP⟩ : ∃ P, P = ab a * ab b := ⟨_, rfl⟩
 rw [← hP] at hp hq ⊢
 refine ACall_eq (made_ok _ _ _ _ (by omega) (by omega) _) ?_
 have hm : sg (!(decide (a < 0) == decide (b < 0))) (P / 18446744073709551616 * 18446744073709551616 + P % 18446744073709551616) = a * b := by
   rw [show P / 18446744073709551616 * 18446744073709551616 + P % 18446744073709551616 = ab a * ab b by omega]; exact ab_mul a b
 rw [hm, fS_y (show Fw (a * b) from ab_fit ha hb)]
 refine Rq ?_
 refine Rq ?_
 refine Rq ?_
 refine R_alloc (by simp (disch := first | omega | (simp only [List.length_map, List.length_append, List.length_set, List.length_cons, List.length_nil]; omega)) only [go_sem, ↓reduceIte, Nat.reduceEqDiff, reduceCtorEq] <;> rfl) rfl (by simp only [List.map_cons, List.map_nil]; rfl) ?_
 refine R_store ty112 (by simp (disch := first | omega | (simp only [List.length_map, List.length_append, List.length_set, List.length_cons, List.length_nil]; omega)) only [go_sem, ↓reduceIte, Nat.reduceEqDiff, reduceCtorEq] <;> rfl) (by simp (disch := first | omega | (simp only [List.length_map, List.length_append, List.length_set, List.length_cons, List.length_nil]; omega)) only [go_sem, ↓reduceIte, Nat.reduceEqDiff, reduceCtorEq] <;> rfl) (by simp (disch := first | omega | (simp only [List.length_map, List.length_append, List.length_set, List.length_cons, List.length_nil]; omega)) only [go_sem, ↓reduceIte, Nat.reduceEqDiff, reduceCtorEq] <;> rfl) (by simp) (by rfl) (by simp (disch := first | omega | (simp only [List.length_map, List.length_append, List.length_set, List.length_cons, List.length_nil]; omega)) only [go_sem, ↓reduceIte, Nat.reduceEqDiff, reduceCtorEq] <;> rfl) ?_
 refine Rq ?_
 have tr : ∀ a b c d e f g h i j k m n o p q r s t u v : AV, let l := lc_mul_ok a b c d e f g h i j; trim ((12,v)::(11,u)::(37,t)::(36,s)::(29,r)::(35,q)::(34,p)::(33,o)::(32,n)::(31,m)::(30,k)::l) l = lc_mul_ok a b c d e f g h i u := by intros; rfl
 refine R_nil (tr ..) ?_; clear tr
 refine then_n ?_
 refine at_seq rfl ?_
 refine rg rfl ?_
 refine Rq ?_
 refine R_store ty112 (by simp (disch := first | omega | (simp only [List.length_map, List.length_append, List.length_set, List.length_cons, List.length_nil]; omega)) only [go_sem, ↓reduceIte, Nat.reduceEqDiff, reduceCtorEq] <;> rfl) (by simp (disch := first | omega | (simp only [List.length_map, List.length_append, List.length_set, List.length_cons, List.length_nil]; omega)) only [go_sem, ↓reduceIte, Nat.reduceEqDiff, reduceCtorEq] <;> rfl) (by simp (disch := first | omega | (simp only [List.length_map, List.length_append, List.length_set, List.length_cons, List.length_nil]; omega)) only [go_sem, ↓reduceIte, Nat.reduceEqDiff, reduceCtorEq] <;> rfl) (by simp) (by rfl) (by simp (disch := first | omega | (simp only [List.length_map, List.length_append, List.length_set, List.length_cons, List.length_nil]; omega)) only [go_sem, ↓reduceIte, Nat.reduceEqDiff, reduceCtorEq] <;> rfl) ?_
 have tr : ∀ a b c d e f g h i j k : AV, let l := lc_mul_ok a b c d e f g h i j; trim ((38,k)::l) l = lc_mul_ok a b c d e f g h i j := by intros; rfl
 refine R_nil (tr ..) ?_; clear tr
 refine then_n ?_
 refine at_ret rfl ?_
 refine fin_pure (rs := [.cell 4 112]) rfl (by simp (disch := first | omega | (simp only [List.length_map, List.length_append, List.length_set, List.length_cons, List.length_nil]; omega)) only [go_sem, ↓reduceIte, Nat.reduceEqDiff, reduceCtorEq] <;> rfl) (by simp (disch := first | omega | (simp only [List.length_map, List.length_append, List.length_set, List.length_cons, List.length_nil]; omega)) only [go_sem, ↓reduceIte, Nat.reduceEqDiff, reduceCtorEq] <;> rfl) ?_
 refine ⟨?_, rfl⟩
 rfl

end Go.Proofs.Ytdmeioppkannlaa.C
end
section
set_option linter.unusedSimpArgs false
set_option linter.unusedVariables false
set_option maxHeartbeats 1000000
set_option maxRecDepth 20000
namespace Go.Proofs.Ytdmeioppkannlaa.C
open Go Go.Am
abbrev lc_crate_ok (a b c d e f g h i j k m : AV) : Env := [(0,a),(1,b),(2,c),(3,d),(4,e),(5,f),(6,g),(7,h),(8,i),(9,j),(10,k),(28,m)]
theorem crate_ok (lim : Nat) (H : Heap) (y z : St) : ACall sig lim 35 [stA y, stA z] H fun r H' => r = AV.i (crS y z) ∧ H' = H := by
 have ry := rt_rng y
 have rz := rt_rng z
 refine ACall_pure (fa := fa35) rfl rfl rfl rfl ?_
 have tr : ∀ a0 a1 : AV, env0 fa35.keep [a0, a1] = lc_crate_ok a0 a1 .any .any .any .any .any .any .any .any .any .any := fun a0 a1 => rfl
 refine W_to (tr _ _) ?_; clear tr
 refine at_seq rfl ?_
 refine rg rfl ?_
 refine R_box rfl (by simp (disch := first | omega | (simp only [List.length_map, List.length_append, List.length_set, List.length_cons, List.length_nil]; omega)) only [go_sem, ↓reduceIte, Nat.reduceEqDiff, reduceCtorEq] <;> rfl) rfl rfl ?_
 refine R_box rfl (by simp (disch := first | omega | (simp only [List.length_map, List.length_append, List.length_set, List.length_cons, List.length_nil]; omega)) only [go_sem, ↓reduceIte, Nat.reduceEqDiff, reduceCtorEq] <;> rfl) rfl rfl ?_
 refine Rq ?_
 have tr : ∀ a b c d e f g h i j k m n o p : AV, let l := lc_crate_ok a b c d e f g h i j k m; trim ((4,p)::(3,o)::(2,n)::l) l = lc_crate_ok a b n o p f g h i j k m := by intros; rfl
 refine R_nil (tr ..) ?_; clear tr
 refine then_n ?_
 refine at_seq rfl ?_
 refine rg rfl ?_
 refine Rq ?_
 refine Rcall ?_
 refine ACall_eq (rate_ok _ _ _) ?_
 refine Rq ?_
 refine Rq ?_
 refine Rq ?_
 refine Rq ?_
 refine Rq ?_
 refine Rq ?_
 refine Rq ?_
 have tr : ∀ a b c d e f g h i j k m n o p q r s t u v : AV, let l := lc_crate_ok a b c d e f g h i j k m; trim ((7,v)::(6,u)::(5,t)::(16,s)::(15,r)::(14,q)::(11,p)::(13,o)::(12,n)::l) l = lc_crate_ok a b c d e t u v i j k m := by intros; rfl
 refine R_nil (tr ..) ?_; clear tr
 refine then_n ?_
 refine at_seq rfl ?_
 refine rg rfl ?_
 refine Rq ?_
 refine Rcall ?_
 refine ACall_eq (rate_ok _ _ _) ?_
 refine Rq ?_
 refine Rq ?_
 refine Rq ?_
 refine Rq ?_
 refine Rq ?_
 refine Rq ?_
 refine Rq ?_
 have tr : ∀ a b c d e f g h i j k m n o p q r s t u v : AV, let l := lc_crate_ok a b c d e f g h i j k m; trim ((10,v)::(9,u)::(8,t)::(22,s)::(21,r)::(20,q)::(17,p)::(19,o)::(18,n)::l) l = lc_crate_ok a b c d e f g h t u v m := by intros; rfl
 refine R_nil (tr ..) ?_; clear tr
 refine then_n ?_
 refine at_seq rfl ?_
 refine at_seq rfl ?_
 refine rg rfl ?_
 refine Rq ?_
 refine Rq ?_
 refine Rq ?_
 refine Rp_split (fun h1 => ?_) (fun h1 => ?_)
 ·
  try simp only [decide_eq_true_eq, decide_eq_false_iff_not, decide_eq_decide, Bool.not_eq_true', Bool.not_eq_false', beq_iff_eq, beq_eq_false_iff_ne, ne_eq, Bool.and_eq_true, Bool.and_eq_false_iff, decide_not] at h1
  refine Rn ?_
  refine Rn ?_
  refine Rq ?_
  have tr : ∀ a b c d e f g h i j k m n o p q r s : AV, let l := lc_crate_ok a b c d e f g h i j k m; trim ((28,s)::(27,r)::(26,q)::(25,p)::(24,o)::(23,n)::l) l = lc_crate_ok a b c d e f g h i j k s := by intros; rfl
  refine R_nil (tr ..) ?_; clear tr
  refine then_n ?_
  refine cdt ?_
  refine at_seq rfl ?_
  refine rg rfl ?_
  refine Rq ?_
  have tr : ∀ a b c d e f g h i j k m n : AV, let l := lc_crate_ok a b c d e f g h i j k m; trim ((4,n)::l) l = lc_crate_ok a b c d n f g h i j k m := by intros; rfl
  refine R_nil (tr ..) ?_; clear tr
  refine then_n ?_
  refine at_ret rfl ?_
  refine then_r ?_
  first | (refine fpure ?_; refine ⟨?_, rfl⟩; rw [crS, if_neg (fun h => absurd h.1 (by assumption))] <;> rfl; done) | (refine fpure ?_; refine ⟨?_, rfl⟩; rw [crS, if_neg (fun h => absurd h.2 (by assumption))] <;> rfl; done) | (refine fpure ?_; refine ⟨?_, rfl⟩; rw [crS, if_pos ⟨by assumption, by assumption⟩, rtN_y (by assumption), rtD_y (by assumption), rtN_y (by assumption), rtD_y (by assumption)] <;> rfl; done)
 ·
  try simp only [decide_eq_true_eq, decide_eq_false_iff_not, decide_eq_decide, Bool.not_eq_true', Bool.not_eq_false', beq_iff_eq, beq_eq_false_iff_ne, ne_eq, Bool.and_eq_true, Bool.and_eq_false_iff, decide_not] at h1
  refine Ry ?_
  refine Rq ?_
  refine Ry ?_
  refine Rq ?_
  refine Rq ?_
  have tr : ∀ a b c d e f g h i j k m n o p q r s : AV, let l := lc_crate_ok a b c d e f g h i j k m; trim ((28,s)::(27,r)::(26,q)::(25,p)::(24,o)::(23,n)::l) l = lc_crate_ok a b c d e f g h i j k s := by intros; rfl
  refine R_nil (tr ..) ?_; clear tr
  refine then_n ?_
  refine cdd (fun h2 => ?_) (fun h2 => ?_)
  ·
   try simp only [decide_eq_true_eq, decide_eq_false_iff_not, decide_eq_decide, Bool.not_eq_true', Bool.not_eq_false', beq_iff_eq, beq_eq_false_iff_ne, ne_eq, Bool.and_eq_true, Bool.and_eq_false_iff, decide_not] at h2
   refine at_seq rfl ?_
   refine rg rfl ?_
   refine Rq ?_
   have tr : ∀ a b c d e f g h i j k m n : AV, let l := lc_crate_ok a b c d e f g h i j k m; trim ((4,n)::l) l = lc_crate_ok a b c d n f g h i j k m := by intros; rfl
   refine R_nil (tr ..) ?_; clear tr
   refine then_n ?_
   refine at_ret rfl ?_
   refine then_r ?_
   first | (refine fpure ?_; refine ⟨?_, rfl⟩; rw [crS, if_neg (fun h => absurd h.1 (by assumption))] <;> rfl; done) | (refine fpure ?_; refine ⟨?_, rfl⟩; rw [crS, if_neg (fun h => absurd h.2 (by assumption))] <;> rfl; done) | (refine fpure ?_; refine ⟨?_, rfl⟩; rw [crS, if_pos ⟨by assumption, by assumption⟩, rtN_y (by assumption), rtD_y (by assumption), rtN_y (by assumption), rtD_y (by assumption)] <;> rfl; done)
  ·
   try simp only [decide_eq_true_eq, decide_eq_false_iff_not, decide_eq_decide, Bool.not_eq_true', Bool.not_eq_false', beq_iff_eq, beq_eq_false_iff_ne, ne_eq, Bool.and_eq_true, Bool.and_eq_false_iff, decide_not] at h2
   refine at_skip rfl ?_
   refine then_n ?_
   refine at_seq rfl ?_
   refine rg rfl ?_
   refine Rq ?_
   refine Rq ?_
   refine Rcall ?_
   refine ACall_eq (mul_ok _ _ _ (by omega) _ (by omega)) ?_
   refine Rq ?_
   refine Rq ?_
   refine Rcall ?_
   refine ACall_eq (mul_ok _ _ _ (by omega) _ (by omega)) ?_
   refine Rcall ?_
   refine ACall_eq (cmp_ok _ _ (rtN y * rtD z) (ab_fit (by omega) (by omega)) (rtN z * rtD y) (ab_fit (by omega) (by omega))) ?_
   refine Rq ?_
   have tr : ∀ a b c d e f g h i j k m n o p q r s t u : AV, let l := lc_crate_ok a b c d e f g h i j k m; trim ((4,u)::(35,t)::(34,s)::(33,r)::(32,q)::(31,p)::(30,o)::(29,n)::l) l = lc_crate_ok a b c d u f g h i j k m := by intros; rfl
   refine R_nil (tr ..) ?_; clear tr
   refine then_n ?_
   refine at_ret rfl ?_
   first | (refine fpure ?_; refine ⟨?_, rfl⟩; rw [crS, if_neg (fun h => absurd h.1 (by assumption))] <;> rfl; done) | (refine fpure ?_; refine ⟨?_, rfl⟩; rw [crS, if_neg (fun h => absurd h.2 (by assumption))] <;> rfl; done) | (refine fpure ?_; refine ⟨?_, rfl⟩; rw [crS, if_pos ⟨by assumption, by assumption⟩, rtN_y (by assumption), rtD_y (by assumption), rtN_y (by assumption), rtD_y (by assumption)] <;> rfl; done)

abbrev lc_comp_ok (a b c d e f g h i j : AV) : Env := [(0,a),(1,b),(2,c),(3,d),(4,e),(5,f),(6,g),(18,h),(34,i),(41,j)]
theorem comp_ok (lim : Nat) (H : Heap) (y z : St) : ACall sig lim 22 [stA y, stA z] H fun r H' => r = AV.i (cmS y z) ∧ H' = H := by
 have hc := crS_rng y z
 refine ACall_pure (fa := fa22) rfl rfl rfl rfl ?_
 have tr : ∀ a0 a1 : AV, env0 fa22.keep [a0, a1] = lc_comp_ok a0 a1 .any .any .any .any .any .any .any .any := fun a0 a1 => rfl
 refine W_to (tr _ _) ?_; clear tr
 refine at_seq rfl ?_
 refine rg rfl ?_
 refine R_box rfl (by simp (disch := first | omega | (simp only [List.length_map, List.length_append, List.length_set, List.length_cons, List.length_nil]; omega)) only [go_sem, ↓reduceIte, Nat.reduceEqDiff, reduceCtorEq] <;> rfl) rfl rfl ?_
 refine R_box rfl (by simp (disch := first | omega | (simp only [List.length_map, List.length_append, List.length_set, List.length_cons, List.length_nil]; omega)) only [go_sem, ↓reduceIte, Nat.reduceEqDiff, reduceCtorEq] <;> rfl) rfl rfl ?_
 refine Rq ?_
 have tr : ∀ a b c d e f g h i j k m n : AV, let l := lc_comp_ok a b c d e f g h i j; trim ((4,n)::(3,m)::(2,k)::l) l = lc_comp_ok a b k m n f g h i j := by intros; rfl
 refine R_nil (tr ..) ?_; clear tr
 refine then_n ?_
 refine at_seq rfl ?_
 refine at_block rfl ?_
 refine at_seq rfl ?_
 refine rg rfl ?_
 refine Rq ?_
 refine Rq ?_
 refine Rq ?_
 refine Rq ?_
 refine Rq ?_
 refine Rq ?_
 have tr : ∀ a b c d e f g h i j k m n o p q : AV, let l := lc_comp_ok a b c d e f g h i j; trim ((6,q)::(11,p)::(10,o)::(9,n)::(8,m)::(7,k)::l) l = lc_comp_ok a b c d e f q h i j := by intros; rfl
 refine R_nil (tr ..) ?_; clear tr
 refine then_n ?_
 refine cdd (fun h1 => ?_) (fun h1 => ?_)
 ·
  try simp only [decide_eq_true_eq, decide_eq_false_iff_not, decide_eq_decide, Bool.not_eq_true', Bool.not_eq_false', beq_iff_eq, beq_eq_false_iff_ne, ne_eq, Bool.and_eq_true, Bool.and_eq_false_iff, decide_not] at h1
  refine at_seq rfl ?_
  refine rg rfl ?_
  refine Rq ?_
  refine Rq ?_
  refine Rq ?_
  refine Rq ?_
  refine Rq ?_
  refine Rcall ?_
  refine ACall_eq (before_ok _ _ _) ?_
  refine Rq ?_
  have tr : ∀ a b c d e f g h i j k m n o p q r : AV, let l := lc_comp_ok a b c d e f g h i j; trim ((4,r)::(17,q)::(16,p)::(15,o)::(14,n)::(13,m)::(12,k)::l) l = lc_comp_ok a b c d r f g h i j := by intros; rfl
  refine R_nil (tr ..) ?_; clear tr
  refine then_n ?_
  refine at_ret rfl ?_
  refine blk_r ?_
  refine then_r ?_
  first | (refine fpure ?_; refine ⟨?_, rfl⟩; rw [cm_pt (by assumption)] <;> rfl; done) | (refine fpure ?_; refine ⟨?_, rfl⟩; rw [cm_wn (by assumption) (by assumption)] <;> rfl; done) | (refine fpure ?_; refine ⟨?_, rfl⟩; rw [cm_cr (by assumption) (by assumption) (by assumption)] <;> rfl; done) | (refine fpure ?_; refine ⟨?_, rfl⟩; rw [cm_cr0 (by assumption) (by assumption) (by assumption)] <;> rfl; done) | (refine fpure ?_; refine ⟨?_, rfl⟩; rw [cm_cr' (by assumption) (by assumption) (by assumption)] <;> rfl; done) | (refine fpure ?_; refine ⟨?_, rfl⟩; rw [cm_tm (by assumption) (by assumption) (by assumption) (by assumption)] <;> rfl; done) | (refine fpure ?_; refine ⟨?_, rfl⟩; rw [cm_0 (by assumption) (by assumption) (by assumption) (by assumption)] <;> rfl; done)
 ·
  try simp only [decide_eq_true_eq, decide_eq_false_iff_not, decide_eq_decide, Bool.not_eq_true', Bool.not_eq_false', beq_iff_eq, beq_eq_false_iff_ne, ne_eq, Bool.and_eq_true, Bool.and_eq_false_iff, decide_not] at h1
  refine at_seq rfl ?_
  refine rg rfl ?_
  refine Rq ?_
  refine Rq ?_
  refine Rq ?_
  refine Rq ?_
  refine Rq ?_
  refine Rq ?_
  have tr : ∀ a b c d e f g h i j k m n o p q : AV, let l := lc_comp_ok a b c d e f g h i j; trim ((18,q)::(23,p)::(22,o)::(21,n)::(20,m)::(19,k)::l) l = lc_comp_ok a b c d e f g q i j := by intros; rfl
  refine R_nil (tr ..) ?_; clear tr
  refine then_n ?_
  refine cdd (fun h2 => ?_) (fun h2 => ?_)
  ·
   try simp only [decide_eq_true_eq, decide_eq_false_iff_not, decide_eq_decide, Bool.not_eq_true', Bool.not_eq_false', beq_iff_eq, beq_eq_false_iff_ne, ne_eq, Bool.and_eq_true, Bool.and_eq_false_iff, decide_not] at h2
   refine at_seq rfl ?_
   refine rg rfl ?_
   refine Rq ?_
   refine Rq ?_
   refine Rq ?_
   refine Rq ?_
   refine Rq ?_
   refine Rcall ?_
   refine ACall_eq (before_ok _ _ _) ?_
   refine Rq ?_
   have tr : ∀ a b c d e f g h i j k m n o p q r : AV, let l := lc_comp_ok a b c d e f g h i j; trim ((4,r)::(29,q)::(28,p)::(27,o)::(26,n)::(25,m)::(24,k)::l) l = lc_comp_ok a b c d r f g h i j := by intros; rfl
   refine R_nil (tr ..) ?_; clear tr
   refine then_n ?_
   refine at_ret rfl ?_
   refine blk_r ?_
   refine then_r ?_
   first | (refine fpure ?_; refine ⟨?_, rfl⟩; rw [cm_pt (by assumption)] <;> rfl; done) | (refine fpure ?_; refine ⟨?_, rfl⟩; rw [cm_wn (by assumption) (by assumption)] <;> rfl; done) | (refine fpure ?_; refine ⟨?_, rfl⟩; rw [cm_cr (by assumption) (by assumption) (by assumption)] <;> rfl; done) | (refine fpure ?_; refine ⟨?_, rfl⟩; rw [cm_cr0 (by assumption) (by assumption) (by assumption)] <;> rfl; done) | (refine fpure ?_; refine ⟨?_, rfl⟩; rw [cm_cr' (by assumption) (by assumption) (by assumption)] <;> rfl; done) | (refine fpure ?_; refine ⟨?_, rfl⟩; rw [cm_tm (by assumption) (by assumption) (by assumption) (by assumption)] <;> rfl; done) | (refine fpure ?_; refine ⟨?_, rfl⟩; rw [cm_0 (by assumption) (by assumption) (by assumption) (by assumption)] <;> rfl; done)
  ·
   try simp only [decide_eq_true_eq, decide_eq_false_iff_not, decide_eq_decide, Bool.not_eq_true', Bool.not_eq_false', beq_iff_eq, beq_eq_false_iff_ne, ne_eq, Bool.and_eq_true, Bool.and_eq_false_iff, decide_not] at h2
   refine at_skip rfl ?_
   refine blk_n ?_
   refine then_n ?_
   refine at_seq rfl ?_
   refine at_seq rfl ?_
   refine rg rfl ?_
   refine Rq ?_
   refine Rq ?_
   refine Rcall ?_
   refine ACall_eq (crate_ok _ _ y z) ?_
   refine Rq ?_
   have tr : ∀ a b c d e f g h i j k m n o : AV, let l := lc_comp_ok a b c d e f g h i j; trim ((5,o)::(32,n)::(31,m)::(30,k)::l) l = lc_comp_ok a b c d e o g h i j := by intros; rfl
   refine R_nil (tr ..) ?_; clear tr
   refine then_n ?_
   refine at_seq rfl ?_
   refine rg rfl ?_
   refine Rq ?_
   refine Rq ?_
   have tr : ∀ a b c d e f g h i j k m : AV, let l := lc_comp_ok a b c d e f g h i j; trim ((34,m)::(33,k)::l) l = lc_comp_ok a b c d e f g h m j := by intros; rfl
   refine R_nil (tr ..) ?_; clear tr
   refine then_n ?_
   refine cdd (fun h3 => ?_) (fun h3 => ?_)
   ·
    try simp only [decide_eq_true_eq, decide_eq_false_iff_not, decide_eq_decide, Bool.not_eq_true', Bool.not_eq_false', beq_iff_eq, beq_eq_false_iff_ne, ne_eq, Bool.and_eq_true, Bool.and_eq_false_iff, decide_not] at h3
    refine at_seq rfl ?_
    refine rg rfl ?_
    refine Rq ?_
    refine Rq ?_
    refine Rq ?_
    have tr : ∀ a b c d e f g h i j k m n : AV, let l := lc_comp_ok a b c d e f g h i j; trim ((4,n)::(36,m)::(35,k)::l) l = lc_comp_ok a b c d n f g h i j := by intros; rfl
    refine R_nil (tr ..) ?_; clear tr
    refine then_n ?_
    refine at_ret rfl ?_
    refine then_r ?_
    first | (refine fpure ?_; refine ⟨?_, rfl⟩; rw [cm_pt (by assumption)] <;> rfl; done) | (refine fpure ?_; refine ⟨?_, rfl⟩; rw [cm_wn (by assumption) (by assumption)] <;> rfl; done) | (refine fpure ?_; refine ⟨?_, rfl⟩; rw [cm_cr (by assumption) (by assumption) (by assumption)] <;> rfl; done) | (refine fpure ?_; refine ⟨?_, rfl⟩; rw [cm_cr0 (by assumption) (by assumption) (by assumption)] <;> rfl; done) | (refine fpure ?_; refine ⟨?_, rfl⟩; rw [cm_cr' (by assumption) (by assumption) (by assumption)] <;> rfl; done) | (refine fpure ?_; refine ⟨?_, rfl⟩; rw [cm_tm (by assumption) (by assumption) (by assumption) (by assumption)] <;> rfl; done) | (refine fpure ?_; refine ⟨?_, rfl⟩; rw [cm_0 (by assumption) (by assumption) (by assumption) (by assumption)] <;> rfl; done)
   ·
    try simp only [decide_eq_true_eq, decide_eq_false_iff_not, decide_eq_decide, Bool.not_eq_true', Bool.not_eq_false', beq_iff_eq, beq_eq_false_iff_ne, ne_eq, Bool.and_eq_true, Bool.and_eq_false_iff, decide_not] at h3
    refine at_skip rfl ?_
    refine then_n ?_
    refine at_seq rfl ?_
    refine at_seq rfl ?_
    refine rg rfl ?_
    refine Rq ?_
    refine Rq ?_
    refine Rq ?_
    refine Rq ?_
    refine Rq ?_
    have tr : ∀ a b c d e f g h i j k m n o p : AV, let l := lc_comp_ok a b c d e f g h i j; trim ((41,p)::(40,o)::(39,n)::(38,m)::(37,k)::l) l = lc_comp_ok a b c d e f g h i p := by intros; rfl
    refine R_nil (tr ..) ?_; clear tr
    refine then_n ?_
    refine cdd (fun h4 => ?_) (fun h4 => ?_)
    ·
     try simp only [decide_eq_true_eq, decide_eq_false_iff_not, decide_eq_decide, Bool.not_eq_true', Bool.not_eq_false', beq_iff_eq, beq_eq_false_iff_ne, ne_eq, Bool.and_eq_true, Bool.and_eq_false_iff, decide_not] at h4
     refine at_seq rfl ?_
     refine rg rfl ?_
     refine Rq ?_
     refine Rq ?_
     refine Rq ?_
     refine Rq ?_
     refine Rq ?_
     refine Rcall ?_
     refine ACall_eq (before_ok _ _ _) ?_
     refine Rq ?_
     have tr : ∀ a b c d e f g h i j k m n o p q r : AV, let l := lc_comp_ok a b c d e f g h i j; trim ((4,r)::(47,q)::(46,p)::(45,o)::(44,n)::(43,m)::(42,k)::l) l = lc_comp_ok a b c d r f g h i j := by intros; rfl
     refine R_nil (tr ..) ?_; clear tr
     refine then_n ?_
     refine at_ret rfl ?_
     refine then_r ?_
     first | (refine fpure ?_; refine ⟨?_, rfl⟩; rw [cm_pt (by assumption)] <;> rfl; done) | (refine fpure ?_; refine ⟨?_, rfl⟩; rw [cm_wn (by assumption) (by assumption)] <;> rfl; done) | (refine fpure ?_; refine ⟨?_, rfl⟩; rw [cm_cr (by assumption) (by assumption) (by assumption)] <;> rfl; done) | (refine fpure ?_; refine ⟨?_, rfl⟩; rw [cm_cr0 (by assumption) (by assumption) (by assumption)] <;> rfl; done) | (refine fpure ?_; refine ⟨?_, rfl⟩; rw [cm_cr' (by assumption) (by assumption) (by assumption)] <;> rfl; done) | (refine fpure ?_; refine ⟨?_, rfl⟩; rw [cm_tm (by assumption) (by assumption) (by assumption) (by assumption)] <;> rfl; done) | (refine fpure ?_; refine ⟨?_, rfl⟩; rw [cm_0 (by assumption) (by assumption) (by assumption) (by assumption)] <;> rfl; done)
    ·
     try simp only [decide_eq_true_eq, decide_eq_false_iff_not, decide_eq_decide, Bool.not_eq_true', Bool.not_eq_false', beq_iff_eq, beq_eq_false_iff_ne, ne_eq, Bool.and_eq_true, Bool.and_eq_false_iff, decide_not] at h4
     refine at_skip rfl ?_
     refine then_n ?_
     refine at_seq rfl ?_
     refine rg rfl ?_
     refine Rq ?_
     have tr : ∀ a b c d e f g h i j k : AV, let l := lc_comp_ok a b c d e f g h i j; trim ((4,k)::l) l = lc_comp_ok a b c d k f g h i j := by intros; rfl
     refine R_nil (tr ..) ?_; clear tr
     refine then_n ?_
     refine at_ret rfl ?_
     first | (refine fpure ?_; refine ⟨?_, rfl⟩; rw [cm_pt (by assumption)] <;> rfl; done) | (refine fpure ?_; refine ⟨?_, rfl⟩; rw [cm_wn (by assumption) (by assumption)] <;> rfl; done) | (refine fpure ?_; refine ⟨?_, rfl⟩; rw [cm_cr (by assumption) (by assumption) (by assumption)] <;> rfl; done) | (refine fpure ?_; refine ⟨?_, rfl⟩; rw [cm_cr0 (by assumption) (by assumption) (by assumption)] <;> rfl; done) | (refine fpure ?_; refine ⟨?_, rfl⟩; rw [cm_cr' (by assumption) (by assumption) (by assumption)] <;> rfl; done) | (refine fpure ?_; refine ⟨?_, rfl⟩; rw [cm_tm (by assumption) (by assumption) (by assumption) (by assumption)] <;> rfl; done) | (refine fpure ?_; refine ⟨?_, rfl⟩; rw [cm_0 (by assumption) (by assumption) (by assumption) (by assumption)] <;> rfl; done)

end Go.Proofs.Ytdmeioppkannlaa.C
end
section
set_option linter.unusedVariables false
namespace Go.Proofs.Ytdmeioppkannlaa
open Go Go.Am Go.Sort Go.RowKit
theorem bel_grow {w w' : World} (h : Bel w.heap.size w w') : ∃ q os', w' = grow (w.drewN q) os' := by
  refine ⟨w'.drawn - w.drawn, w'.heap.extract w.heap.size w'.heap.size, ?_⟩
  have h1 := h.tape.2 trivial
  have h2 : w'.heap = w.heap ++ w'.heap.extract w.heap.size w'.heap.size := by
    apply Array.ext_getElem?
    intro k
    by_cases hk : k < w.heap.size
    · rw [h.block k hk, Array.getElem?_append_left hk]
    · rw [Array.getElem?_append_right (by omega), Array.getElem?_extract]
      have := h.size
      by_cases hk' : k < w'.heap.size
      · rw [if_pos (by omega)]
        congr 1
        omega
      · rw [if_neg (by omega), Array.getElem?_eq_none (by omega)]
  obtain ⟨hp', tp', dr', os', out'⟩ := w'
  obtain ⟨hp, tp, dr, os, out⟩ := w
  have e1 := h.os
  have e2 := h.tape.1
  have e3 := h.output
  simp only at e1 e2 e3 h1 h2
  subst e1 e2 e3
  simp only [grow, World.drewN, World.mk.injEq]
  exact ⟨h2, trivial, by omega, trivial, trivial⟩
theorem den_st {φ : Phi} {I : Nat → Prop} {w : World} (z : SO) : Den φ I w (stA z.1) (.agg (encS z).toArray) :=
  .agg _ _ rfl (fun j x y hx hy => (DL.vs (φ := φ) (I := I) (w := w) (encS z)).2 j x y hx hy)
theorem cmp_calls (y z : SO) (W : World) (hT : ∀ w1 : World, (∀ k, k < W.heap.size → w1.heap[k]? = W.heap[k]?) → Tb w1) :
    Calls Try.prog 22 #[.agg (encS y).toArray, .agg (encS z).toArray] W fun e w' => e = .returned (.int .i64 (cmO y z)) ∧ ∃ q os', w' = grow (W.drewN q) os' := by
  obtain ⟨n, r, H', h, hr, _⟩ := C.comp_ok 0 [] y.1 z.1
  have hD : DL [] (fun k => k < W.heap.size) W [stA y.1, stA z.1] #[.agg (encS y).toArray, .agg (encS z).toArray] := by
    refine ⟨rfl, fun j a b ha hb => ?_⟩
    match j, ha, hb with
    | 0, ha, hb => cases ha; cases hb; exact den_st y
    | 1, ha, hb => cases ha; cases hb; exact den_st z
  refine (calls_of_acall' C.sig_ok rfl h hD hT).mono ?_
  rintro e w' ⟨x, I', rfl, hx, hb⟩
  subst hr
  exact ⟨congrArg Ending.returned (den_v hx), bel_grow hb⟩
theorem cmp_lays (blk off size : Nat) (w : World) (hT : ∀ (m : Nat) (os : Array Obj) (dk : Array SO) (w1 : World), (∀ k, k < (sortWorldK encS 10 w blk off m dk os).heap.size → w1.heap[k]? = (sortWorldK encS 10 w blk off m dk os).heap[k]?) → Tb w1) : CmpLays Try.prog 22 #[] encS 10 cmO blk off size w :=
  fun m os dk _ x y => cmp_calls x y _ (hT m os dk)
end Go.Proofs.Ytdmeioppkannlaa
end
section
namespace Go.Proofs
open Go.Shelf
def Try.sortSt_ren : Go.Shelf.Ren := ⟨fun | 6 => 21 | 15 => 33 | 14 => 32 | 28 => 47 | 29 => 48 | 20 => 39 | 21 => 40 | 22 => 41 | 23 => 42 | 24 => 43 | 25 => 44 | 26 => 45 | 27 => 46 | 46 => 52 | 47 => 53 | 48 => 54 | 49 => 55 | 50 => 56 | 57 => 60 | n => n, fun | 22 => 47 | 24 => 51 | 25 => 76 | 3 => 3 | 39 => 91 | 0 => 0 | 53 => 105 | 55 => 107 | 4 => 4 | 46 => 98 | 45 => 97 | 50 => 102 | 5 => 5 | 9 => 9 | 66 => 114 | 70 => 118 | 76 => 127 | 77 => 128 | n => n, fun | n => n⟩
theorem Try.sortSt : Go.Proofs.SlLaysF0.n6 Try.prog Try.sortSt_ren := {
  mixed := by kernel_rfl
  f6 := ⟨Try.f21.name, by decide, Try.func21.trans (congrArg some (by kernel_rfl))⟩
  f14 := ⟨Try.f32.name, by decide, Try.func32.trans (congrArg some (by kernel_rfl))⟩
  f15 := Try.func33.trans (congrArg some (by kernel_rfl))
  f20 := ⟨Try.f39.name, by decide, Try.func39.trans (congrArg some (by kernel_rfl))⟩
  f21 := ⟨Try.f40.name, by decide, Try.func40.trans (congrArg some (by kernel_rfl))⟩
  f22 := ⟨Try.f41.name, by decide, Try.func41.trans (congrArg some (by kernel_rfl))⟩
  f23 := ⟨Try.f42.name, by decide, Try.func42.trans (congrArg some (by kernel_rfl))⟩
  f24 := ⟨Try.f43.name, by decide, Try.func43.trans (congrArg some (by kernel_rfl))⟩
  f25 := ⟨Try.f44.name, by decide, Try.func44.trans (congrArg some (by kernel_rfl))⟩
  f26 := ⟨Try.f45.name, by decide, Try.func45.trans (congrArg some (by kernel_rfl))⟩
  f27 := ⟨Try.f46.name, by decide, Try.func46.trans (congrArg some (by kernel_rfl))⟩
  f28 := Try.func47.trans (congrArg some (by kernel_rfl))
  f29 := Try.func48.trans (congrArg some (by kernel_rfl))
  f46 := ⟨Try.f52.name, by decide, Try.func52.trans (congrArg some (by kernel_rfl))⟩
  f47 := Try.func53.trans (congrArg some (by kernel_rfl))
  f48 := Try.func54.trans (congrArg some (by kernel_rfl))
  f49 := ⟨Try.f55.name, by decide, Try.func55.trans (congrArg some (by kernel_rfl))⟩
  f50 := ⟨Try.f56.name, by decide, Try.func56.trans (congrArg some (by kernel_rfl))⟩
  f57 := ⟨Try.f60.name, by decide, Try.func60.trans (congrArg some (by kernel_rfl))⟩
  t0 := Try.underlying0
  a0 := Try.isAgg0
  z0 := Try.sizeOf0
  v0 := Try.zeroValue0
  t3 := Try.underlying3
  a3 := Try.isAgg3
  z3 := Try.sizeOf3
  v3 := Try.zeroValue3
  t4 := Try.underlying4
  a4 := Try.isAgg4
  z4 := Try.sizeOf4
  v4 := Try.zeroValue4
  t5 := Try.underlying5
  a5 := Try.isAgg5
  z5 := Try.sizeOf5
  v5 := Try.zeroValue5
  t9 := Try.underlying9
  a9 := Try.isAgg9
  z9 := Try.sizeOf9
  v9 := Try.zeroValue9
  t22 := Try.underlying47
  a22 := Try.isAgg47
  z22 := Try.sizeOf47
  v22 := Try.zeroValue47
  t25 := Try.underlying76
  a25 := Try.isAgg76
  z25 := Try.sizeOf76
  v25 := Try.zeroValue76
  t39 := Try.underlying91
  a39 := Try.isAgg91
  z39 := Try.sizeOf91
  v39 := Try.zeroValue91
  t45 := Try.underlying97
  a45 := Try.isAgg97
  z45 := Try.sizeOf97
  v45 := Try.zeroValue97
  t46 := Try.underlying98
  a46 := Try.isAgg98
  z46 := Try.sizeOf98
  v46 := Try.zeroValue98
  t50 := Try.underlying102
  a50 := Try.isAgg102
  z50 := Try.sizeOf102
  v50 := Try.zeroValue102
  t53 := Try.underlying105
  a53 := Try.isAgg105
  z53 := Try.sizeOf105
  v53 := Try.zeroValue105
  t55 := Try.underlying107
  a55 := Try.isAgg107
  z55 := Try.sizeOf107
  v55 := Try.zeroValue107
  t66 := Try.underlying114
  a66 := Try.isAgg114
  z66 := Try.sizeOf114
  v66 := Try.zeroValue114
  t70 := Try.underlying118
  a70 := Try.isAgg118
  z70 := Try.sizeOf118
  v70 := Try.zeroValue118
  t76 := Try.underlying127
  a76 := Try.isAgg127
  z76 := Try.sizeOf127
  v76 := Try.zeroValue127
  t77 := Try.underlying128
  a77 := Try.isAgg128
  z77 := Try.sizeOf128
  v77 := Try.zeroValue128 }
end Go.Proofs
end
section
set_option linter.unusedVariables false
namespace Go.Proofs.Ytdmeioppkannlaa
open Go Go.Am Go.Sort Go.RowKit
/-- Integers out of cells, standings out of integers. -/
def ai : AV → Option Int
  | .v (.int .i64 n) => some n
  | _ => none
def ais : List AV → Option (List Int)
  | [] => some []
  | x :: r => match ai x, ais r with
    | some a, some l => some (a :: l)
    | _, _ => none
def rdL : List Int → Option (List SO)
  | [] => some []
  | a :: b :: c :: d :: e :: f :: g :: h :: i :: j :: r => if hk : okS ⟨a, b, c, d, e, f, g, h, i, j⟩ then (rdL r).map (⟨_, hk⟩ :: ·) else none
  | _ => none
def flatV (ps : List SO) : List Value := (ps.map encS).flatten
def flatS (ps : List SO) : List AV := (ps.map fun z => stL z.1).flatten
theorem ai_eq {x : AV} {n : Int} (h : ai x = some n) : x = AV.i n := by
  unfold ai at h
  split at h
  · cases h; rfl
  · cases h
theorem ais_eq : ∀ (l : List AV) (is : List Int), ais l = some is → l = is.map fun n => AV.i n
  | [], is, h => by cases h; rfl
  | x :: r, is, h => by
    unfold ais at h
    split at h
    · rename_i a l h1 h2
      cases h
      rw [ai_eq h1, ais_eq r l h2]
      rfl
    · cases h
theorem ais_map : ∀ is : List Int, ais (is.map fun n => AV.i n) = some is
  | [] => rfl
  | n :: r => by show (match ai (AV.i n), ais (r.map fun n => AV.i n) with | some a, some l => some (a :: l) | _, _ => none) = _; rw [ais_map r]; rfl
def intS (ps : List SO) : List Int := (ps.map fun z => [z.1.tm, z.1.pl, z.1.wn, z.1.sh, z.1.ls, z.1.pt, z.1.rf, z.1.bf, z.1.ra, z.1.ba]).flatten
theorem intS_flat : ∀ ps, (intS ps).map (fun n => AV.i n) = flatS ps
  | [] => rfl
  | z :: r => by
    have := intS_flat r
    simp only [intS, flatS, List.map_cons, List.flatten_cons, List.map_append] at this ⊢
    rw [this]
    rfl
theorem rdL_intS : ∀ ps, rdL (intS ps) = some ps
  | [] => rfl
  | z :: r => by
    have := rdL_intS r
    show (if hk : okS ⟨z.1.tm, z.1.pl, z.1.wn, z.1.sh, z.1.ls, z.1.pt, z.1.rf, z.1.bf, z.1.ra, z.1.ba⟩ then (rdL (intS r)).map (⟨_, hk⟩ :: ·) else none) = _
    rw [dif_pos z.2, this]
    rfl
theorem rdL_eq : ∀ (n : Nat) (is : List Int), is.length ≤ n → ∀ ps, rdL is = some ps → is = intS ps
  | _, [], _, ps, h => by cases h; rfl
  | 0, a :: r, hn, ps, h => by simp at hn
  | n + 1, a :: r, hn, ps, h => by
    unfold rdL at h
    split at h
    · cases h; simp_all
    · rename_i e1
      split at h
      · rename_i hk
        cases hr : rdL ‹List Int› with
        | none => rw [hr] at h; cases h
        | some qs =>
          rw [hr] at h
          cases h
          rw [e1] at hn ⊢
          have := rdL_eq n _ (by simp at hn; omega) qs hr
          rw [this]
          rfl
      · cases h
    · cases h
/-- The standings that cells hold. -/
def rdS (l : List AV) : Option (List SO) := (ais l).bind rdL
theorem rdS_eq {l : List AV} {ps : List SO} (h : rdS l = some ps) : l = flatS ps := by
  unfold rdS at h
  cases h1 : ais l with
  | none => rw [h1] at h; cases h
  | some is =>
    rw [h1] at h
    rw [ais_eq l is h1, rdL_eq is.length is (Nat.le_refl _) ps h, intS_flat]
theorem rdS_flat (ps : List SO) : rdS (flatS ps) = some ps := by
  unfold rdS
  rw [← intS_flat, ais_map]
  exact rdL_intS ps
theorem flatS_v : ∀ ps, flatS ps = (flatV ps).map .v
  | [] => rfl
  | z :: r => by
    have := flatS_v r
    simp only [flatS, flatV, List.map_cons, List.flatten_cons, List.map_append] at this ⊢
    rw [this]
    rfl
theorem flatV_len : ∀ ps, (flatV ps).length = ps.length * 10
  | [] => rfl
  | z :: r => by
    have := flatV_len r
    simp only [flatV, List.map_cons, List.flatten_cons, List.length_append, List.length_cons] at this ⊢
    rw [this]
    simp [encS]
    omega
theorem flatS_len (ps : List SO) : (flatS ps).length = ps.length * 10 := by rw [flatS_v, List.length_map, flatV_len]
theorem flatV_get : ∀ (ps : List SO) (j : Nat), j < ps.length * 10 → (flatV ps)[j]? = some ((encS ps[j / 10]!)[j % 10]!)
  | [], j, h => by simp at h
  | z :: r, j, h => by
    show (encS z ++ flatV r)[j]? = _
    by_cases hj : j < 10
    · rw [List.getElem?_append_left (by simp [encS]; omega), show j / 10 = 0 by omega, show j % 10 = j by omega]
      rw [List.getElem?_eq_getElem (by simp [encS]; omega)]
      show _ = some ((encS z)[j]!)
      rw [getElem!_pos (encS z) j (by simp [encS]; omega)]
    · obtain ⟨k, rfl⟩ : ∃ k, j = k + 10 := ⟨j - 10, by omega⟩
      rw [List.getElem?_append_right (by simp [encS]), show k + 10 - (encS z).length = k by simp [encS], flatV_get r k (by simp at h; omega), show (k + 10) / 10 = k / 10 + 1 by omega, show (k + 10) % 10 = k % 10 by omega]
      rfl
theorem flatK_get {ps : List SO} {d : Array SO} (hd : d.toList = ps) {j : Nat} (h : j < ps.length * 10) : (flatV ps)[j]? = some ((flatK encS 10 d)[j]!) := by
  subst hd
  rw [flatV_get _ j h, get_flatK encS 10 d j (by simpa using h)]
  have : j / 10 < d.size := by have : j < d.size * 10 := (by simpa using h); omega
  rw [getElem!_pos d.toList (j / 10) (by simpa using this), getElem!_pos d (j / 10) this]
  simp
section
variable {φ : Phi} {I : Nat → Prop} {w : World} {lim : Nat} {H : Heap}
theorem frz_none {k : Nat} {C : Array Value} {T : TypeId} (h : w.heap[k]? = some (.cells C T (0, 0))) (o : Nat) : w.frozen? ⟨k, o, none⟩ = false := by
  unfold World.frozen?
  simp [h]
theorem holds_of {L : Am.Loc} {C : Array Value} {T : TypeId} {ps : List SO} {d : Array SO} (hd : d.toList = ps) (hC : w.heap[L.k]? = some (.cells C T (0, 0))) (hO : CellsOK φ I w C L.base (flatS ps)) : HoldsK encS 10 w L.k L.base d := by
  intro j hj
  have hj' : j < ps.length * 10 := by rw [size_flatK] at hj; subst hd; simpa using hj
  refine ⟨?_, frz_none hC _⟩
  have h1 := flatK_get hd hj'
  obtain ⟨y, e1, e2⟩ := hO.2 j (.v (flatK encS 10 d)[j]!) (by rw [flatS_v, List.getElem?_map, h1]; rfl)
  have := den_v e2
  subst this
  unfold World.cell?
  simp only [hC]
  rw [if_neg (by simp), e1]
  rfl
theorem sw_other {blk off m : Nat} {dk : Array SO} {os : Array Obj} {k : Nat} (hk : k ≠ blk) (hlt : k < w.heap.size) : (sortWorldK encS 10 w blk off m dk os).heap[k]? = w.heap[k]? := by
  show ((putRowK encS 10 (Sort.ahead w m) blk off dk).heap ++ os)[k]? = _
  rw [Array.getElem?_append_left (by show k < (putRow id (Sort.ahead w m) blk off (flatK encS 10 dk)).heap.size; rw [size_putRow]; exact hlt)]
  show (w.heap.modify blk _)[k]? = _
  rw [Array.getElem?_modify, if_neg (fun h => hk h.symm)]
theorem wrote_row [Dn] {blk off m : Nat} {d : Array SO} {C : Array Value} {T : TypeId} (hC : w.heap[blk]? = some (.cells C T (0, 0))) : Wrote w (putRowK encS 10 (Sort.ahead w m) blk off d) blk (putCells id off (flatK encS 10 d) C) T where
  new := by
    show (w.heap.modify blk _)[blk]? = _
    rw [Array.getElem?_modify, if_pos rfl, hC]
    rfl
  other := fun i hi => by
    show (w.heap.modify blk _)[i]? = _
    rw [Array.getElem?_modify, if_neg (fun h => hi h.symm)]
  size := by show (w.heap.modify blk _).size = _; simp
  os := rfl
  tape := ⟨rfl, fun _ => Nat.le_add_right _ _⟩
  output := rfl
theorem put_cells {L : Am.Loc} {C : Array Value} {ps : List SO} {d : Array SO} (hd : d.toList = ps) (hs : L.base + ps.length * 10 ≤ C.size) : CellsOK φ I w (putCells id L.base (flatK encS 10 d) C) L.base (flatS ps) := by
  have hz : (flatK encS 10 d).size = ps.length * 10 := by rw [size_flatK, ← hd]; simp
  refine ⟨by rw [flatS_len]; simp [putCells]; omega, fun j x hx => ?_⟩
  have hj : j < ps.length * 10 := by
    have := (List.getElem?_eq_some_iff.1 hx).1
    rwa [flatS_len] at this
  have h1 := flatK_get hd hj
  rw [flatS_v, List.getElem?_map, h1] at hx
  cases hx
  refine ⟨_, ?_, .v _⟩
  simp only [putCells, Array.getElem?_mapIdx]
  rw [Array.getElem?_eq_getElem (by omega), Option.map_some, if_pos ⟨by omega, by omega⟩, show L.base + j - L.base = j by omega]
  rfl
theorem sorted_rel [Dn] (hR : Rel lim φ I w H) {b : Nat} {ps : List SO} (hb : hget H b = some (flatS ps)) {L : Am.Loc} (hL : φ[b]? = some (some L)) (hlim : lim ≤ b) {C : Array Value} {T : TypeId} (hC : w.heap[L.k]? = some (.cells C T (0, 0))) (hS : C.size = L.S) (hO : CellsOK φ I w C L.base (flatS ps))
    {q : Nat} {d' : Array SO} {os : Array Obj} (hd : d'.toList = sortL ps) : Rel lim φ I (sortWorldK encS 10 w L.k L.base q d' os) (hset H b (some (flatS (sortL ps)))) ∧ Ext lim φ I w φ I (sortWorldK encS 10 w L.k L.base q d' os) := by
  have hw := wrote_row (m := q) (off := L.base) (d := d') hC
  have hlen : (sortL ps).length = ps.length := (sortL_perm ps).length_eq
  have h0 := hO.1
  rw [flatS_len] at h0
  have r1 := write_sound hR hb hL hlim hw (by simp [putCells, hS]) (put_cells (φ := φ) (I := I) (w := w) hd (by rw [hlen]; exact h0))
  have e1 := Wrote.ext hR hb hL hlim hw
  have hb2 : Bel (putRowK encS 10 (Sort.ahead w q) L.k L.base d').heap.size (putRowK encS 10 (Sort.ahead w q) L.k L.base d') (sortWorldK encS 10 w L.k L.base q d' os) :=
    ⟨rfl, ⟨rfl, fun _ => Nat.le_refl _⟩, rfl, by show _ ≤ (_ ++ os).size; simp, fun j hj => by show (_ ++ os)[j]? = _; rw [Array.getElem?_append_left hj]⟩
  refine ⟨r1.down hb2, e1.trans ⟨List.prefix_refl _, fun _ h => h, fun k hk _ => hb2.block k hk, fun c M _ hM => hb2.block _ (r1.disj c M hM).2, fun c M hM => .inr ⟨c, M, hM, rfl⟩, hb2.os, hb2.tape, hb2.output, hb2.size⟩⟩
end
end Go.Proofs.Ytdmeioppkannlaa
end
section
set_option linter.unusedVariables false
namespace Go.Proofs.Ytdmeioppkannlaa
open Go Go.Am Go.RowKit Go.Lib Go.Shelf
section
variable {P : Program} {ρ : Ren}
set_option maxHeartbeats 2000000 in
set_option maxRecDepth 100000 in
/-- The kit's contract (AnyE.slices_Clone), at whatever address. -/
theorem clone_any (L : SlLaysE0.n41 P ρ) (i0 : TypeInfo) (z : Value) (size bytes : Nat) (hi : P.info? (ρ.t 23) = some i0) (hz0 : i0.zero = some z) (hz1 : i0.size = size) (hz2 : i0.bytes = bytes) (hzs : z.cells.size = size) (hsz : 0 < size)
    (z23 : ∀ w, (Go.sizeOf (ρ.t 23)).run P w = .ok size w) (a : Addr) (n c : Nat) (news : List Value) (w : World) (hl : news.length = n * size) (hn : n ≤ maxLen) (hbig : n * bytes ≤ 140737488355328)
    (hc : ∀ j u, news[j]? = some u → w.cell? (a.add j) = some u) (h1 : ∀ u ∈ news, u.oneCell' = true) :
    Calls P (ρ.f 41) #[.slice (some a) n c] w fun e w' => ∃ v', e = .returned v' ∧ w'.ownsRow w.heap.size (ρ.t 23) size v' n news ∧ v' ≠ .slice none 0 0 ∧ Below w.heap.size w w' := by
  have mixed := L.mixed; have t4 := L.t4; have a4 := L.a4; have z4 := L.z4; have v4 := L.v4; have t22 := L.t22; have a22 := L.a22; have z22 := L.z22; have v22 := L.v22
  have q22 : ∀ (w : World) (a : Option Addr) (n c n' c' : Nat), (binOp .eql (ρ.t 22) (.slice a n c) (.slice none n' c')).run P w = .ok (.bool a.isNone) w := fun w a n c n' c' => Lib.run_eql_slice_nil w _ _ a n c n' c' L.t22
  have u22 : ∀ w, Sem.run P (underlying (ρ.t 22)) w = .ok (TypeDesc.slice (ρ.t 23)) w := run_underlying t22
  have A : Aside (∀ j u, news[j]? = some u → w.cell? (a.add j) = some u) := hc
  clear hc
  obtain ⟨_, _, FG⟩ := L.f41
  go_enter FG, SlBodyN.n41_ntmps ρ
  go_wp2_with (at_builtin; refine wpList_append_own _ rfl _ _ (ρ.t 22) rfl w.heap.size (ρ.t 23) i0 z size bytes t22 hi hz0 hz1 hz2 hzs hsz _ _ _ rfl (World.ownsRow_made w #[] 0 (Nat.le_refl _) (Nat.zero_le _) (by simp)) a n c news rfl ?qc1 ?qc2 ?qc3 ?qc4 ?qc5 ?qc6 ?_)
  case qc1 => exact hl
  case qc2 =>
    intro j u hj
    exact Lib.cell?_alloc_some _ (A.out j u hj)
  case qc3 => exact h1
  case qc4 => rw [Nat.zero_add]; exact hn
  case qc5 => rw [Nat.zero_add]; exact hbig
  case qc6 => simp
  intro v' w1 hown hgrow hnil
  go_wp2
  go_ret
  refine ⟨v', rfl, by simpa using hown, ?_, ?_⟩
  · first | exact hnil | (intro e; exact absurd (hnil.1 e).1 (by simp))
  · exact ((Below.refl _ w).alloc (Nat.le_refl _) _).grown hgrow (by simp) (by intro k hk; simp [Value.ownBlock] at hk; omega)
end
def laysClone_ren : Go.Shelf.Ren := ⟨fun | 41 => 12 | n => n, fun | 22 => 28 | 23 => 31 | 4 => 4 | n => n, fun | n => n⟩
theorem laysClone : Go.Proofs.SlLaysE0.n41 Try.prog laysClone_ren := {
  mixed := by kernel_rfl
  f41 := ⟨Try.f12.name, by decide, Try.func12.trans (congrArg some (by kernel_rfl))⟩
  t4 := Try.underlying4
  a4 := Try.isAgg4
  z4 := Try.sizeOf4
  v4 := Try.zeroValue4
  t22 := Try.underlying28
  a22 := Try.isAgg28
  z22 := Try.sizeOf28
  v22 := Try.zeroValue28 }
noncomputable def i33 : TypeInfo := (Try.prog.info? 31).get (by kernel_rfl)
theorem named12 : Named Try.prog 12 := ⟨Try.f12, Try.func12, by kernel_rfl, by kernel_rfl⟩

def isI : AV → Bool
  | .v (.int _ _) => true
  | _ => false
def valOf : AV → Value
  | .v x => x
  | _ => .int .i64 0
theorem isI_val {x : AV} (h : isI x = true) : x = .v (valOf x) ∧ (valOf x).oneCell' = true := by
  cases x with
  | v x => cases x <;> first | exact ⟨rfl, rfl⟩ | cases h
  | _ => cases h
def cloneV : List AV → Heap → Option AV
  | [.sl n l], _ => if n ≤ 100000 ∧ l.length = n * 2 ∧ l.all isI = true then some (.sl n l) else none
  | [.own 2 b o n], H =>
    match hget H b with
    | some k => if n ≤ 100000 ∧ o + n * 2 ≤ k.length ∧ ((k.drop o).take (n * 2)).all isI = true then some (.sl n ((k.drop o).take (n * 2))) else none
    | none => none
  | _, _ => none
theorem bel_of {w w' : World} (d : Dn) (hd : d.p → False) (h : Below w.heap.size w w') : @Bel d w.heap.size w w' := ⟨h.os, ⟨h.tape, fun hp => (hd hp).elim⟩, h.output, h.size, h.block⟩
theorem clone_post [d : Dn] (hd : d.p → False) {lim : Nat} {φ : Phi} {I : Nat → Prop} {w : World} {H : Heap} (hR : Rel lim φ I w H) {n : Nat} {l : List AV} (hl : l.length = n * 2) (hi : l.all isI = true) (hn : n ≤ 100000) (a : Addr) (c : Nat)
    (hc : ∀ j u, (l.map valOf)[j]? = some u → w.cell? (a.add j) = some u) : Calls Try.prog 12 #[.slice (some a) n c] w (PurePost φ I w lim H (.sl n l)) := by
  have hI : ∀ x, x ∈ l → x = .v (valOf x) ∧ (valOf x).oneCell' = true := fun x hx => isI_val (List.all_eq_true.1 hi x hx)
  refine Calls.mono (clone_any laysClone i33 (.agg #[.int .i64 0, .int .i64 0]) 2 16 (by kernel_rfl) (by kernel_rfl) (by kernel_rfl) (by kernel_rfl) rfl (by decide) Try.sizeOf31 a n c (l.map valOf) w (by rw [List.length_map]; exact hl) (by unfold maxLen; omega) (by omega) hc ?_) ?_
  · intro u hu
    obtain ⟨x, hx, rfl⟩ := List.mem_map.1 hu
    exact (hI x hx).2
  · rintro e w' ⟨v', rfl, ho, hnn, hb⟩
    have hb' := bel_of d hd hb
    obtain ⟨_, ⟨hv, _⟩ | ⟨g, cap, cur, rfl, hg, hw, hn1, hn2, hsz, ht⟩⟩ := ho
    · exact absurd hv hnn
    have hgl : g < w'.heap.size := by
      have := Array.getElem?_eq_some_iff.1 hw
      exact this.1
    have hsize := hb.size
    refine ⟨_, fun k => I k ∨ k = g, rfl, ?_, fun k h => .inl h, hb', (hR.down hb').moreI (fun k h => .inl h) ?_ ?_⟩
    · have hY : ∀ (j : Nat) (x : AV), l[j]? = some x → cur.toList[j]? = some (valOf x) := fun j x hx => by
        have hj : j < n * 2 := by have := (List.getElem?_eq_some_iff.1 hx).1; omega
        have e : (cur.toList.take (n * 2))[j]? = some (valOf x) := by rw [ht, List.getElem?_map, hx]; rfl
        rwa [List.getElem?_take, if_pos hj] at e
      refine .sl n l cap ⟨g, 0, none⟩ (fun j => (cur.toList[j]?).getD (.int .i64 0)) hn1 hn2 rfl (.inr rfl) (fun j x hx => ?_) (fun j x hx => ?_)
      · rw [hY j x hx]
        show w'.cell? ⟨g, 0 + j, none⟩ = some (valOf x)
        have e : w'.cell? ⟨g, 0 + j, none⟩ = cur[0 + j]? := by simp [World.cell?, hw]
        rw [e, Nat.zero_add, ← Array.getElem?_toList]
        exact hY j x hx
      · rw [hY j x hx, (hI x (List.mem_of_getElem? hx)).1]
        exact .v _
    · intro b L hL h
      have h2 := hR.disj b L hL
      rcases h with h | h
      · exact h2.1 h
      · omega
    · rintro k (h | rfl)
      · exact Nat.lt_of_lt_of_le (hR.Ilt k h) hsize
      · exact hgl
theorem clone_prim [d : Dn] (hd : d.p → False) {args : List AV} {H : Heap} {r : AV} (hr : cloneV args H = some r) {lim : Nat} {φ : Phi} {I : Nat → Prop} {w : World} {cs : Array Value} (hR : Rel lim φ I w H) (hD : DL φ I w args cs) : CallW Try.prog 12 cs w (PurePost φ I w lim H r) := by
  unfold cloneV at hr
  split at hr
  · rename_i n l
    split at hr
    · rename_i hk
      obtain ⟨hn, hl, hi⟩ := hk
      cases hr
      refine .inl ⟨named12, ?_⟩
      obtain ⟨m⟩ := cs
      have hm : m.length = 1 := by simpa using hD.1
      match m, hm, hD with
      | [x], _, hD =>
        have h0 := hD.2 0 _ x rfl rfl
        cases h0 with
        | sl0 _ p =>
          obtain rfl : l = [] := List.length_eq_zero_iff.1 (by omega)
          cases p with
          | none =>
            refine Calls.mono (AnyE.slices_Clone_nil laysClone 0 0 w) ?_
            rintro e w' ⟨rfl, rfl⟩
            exact ⟨_, I, rfl, .sl0 _ _, fun _ h => h, Bel.refl _ _, hR⟩
          | some a => exact clone_post hd hR rfl hi hn a 0 (fun j u hj => by simp at hj)
        | sl _ _ c a Y hnc hcm ha hIa hY hDY =>
          refine clone_post hd hR hl hi hn a c (fun j u hj => ?_)
          rw [List.getElem?_map] at hj
          cases hx : l[j]? with
          | none => rw [hx] at hj; cases hj
          | some x =>
            rw [hx] at hj
            cases hj
            have h3 := hDY j x hx
            rw [(isI_val (List.all_eq_true.1 hi x (List.mem_of_getElem? hx))).1] at h3
            rw [addr_add a j ha, hY j x hx, den_v h3]
    · cases hr
  · rename_i b o n
    split at hr
    · rename_i k hb
      split at hr
      · rename_i hk
        obtain ⟨hn, ho2, hi⟩ := hk
        cases hr
        refine .inl ⟨named12, ?_⟩
        obtain ⟨m⟩ := cs
        have hm : m.length = 1 := by simpa using hD.1
        match m, hm, hD with
        | [x], _, hD =>
          have h0 := hD.2 0 _ x rfl rfl
          have hl : ((k.drop o).take (n * 2)).length = n * 2 := by rw [List.length_take, List.length_drop]; omega
          cases h0 with
          | own0 _ _ _ h =>
            refine Calls.mono (AnyE.slices_Clone_nil laysClone 0 0 w) ?_
            rintro e w' ⟨rfl, rfl⟩
            exact ⟨_, I, rfl, .sl0 _ _, fun _ h => h, Bel.refl _ _, hR⟩
          | own _ _ _ _ c off L hL hnc hcm ho =>
            refine clone_post hd hR hl hi hn ⟨L.k, off, none⟩ c (fun j u hj => ?_)
            rw [List.getElem?_map] at hj
            cases hx : ((k.drop o).take (n * 2))[j]? with
            | none => rw [hx] at hj; cases hj
            | some x =>
              rw [hx] at hj
              cases hj
              have hj2 := (List.getElem?_eq_some_iff.1 hx).1
              rw [hl] at hj2
              have hx2 : k[o + j]? = some x := by rwa [List.getElem?_take, if_pos hj2, List.getElem?_drop] at hx
              have hoff : off = L.base + o := by rcases ho with h | h <;> omega
              rcases hR.blk b k hb with ⟨h2, _⟩ | ⟨L', C, T, h2, hC, hS, hO⟩
              · rw [hL] at h2; cases h2
              · obtain rfl : L = L' := by rw [hL] at h2; cases h2; rfl
                obtain ⟨y, e1, e2⟩ := hO.2 (o + j) x hx2
                rw [(isI_val (List.all_eq_true.1 hi x (List.mem_of_getElem? hx))).1] at e2
                have hy := den_v e2
                have e : w.cell? ⟨L.k, off + j, none⟩ = C[off + j]? := by simp [World.cell?, hC]
                rw [addr_add ⟨L.k, off, none⟩ j rfl]
                show w.cell? ⟨L.k, off + j, none⟩ = _
                rw [e, hoff, Nat.add_assoc, e1, hy]
      · cases hr
    · cases hr
  · cases hr
end Go.Proofs.Ytdmeioppkannlaa
end
section
set_option linter.unusedVariables false
namespace Go.Proofs.Ytdmeioppkannlaa
open Go Go.Am Go.RowKit Go.Sort
instance dnF : Dn := ⟨False⟩
def primF : FuncId → Option (List AV → Heap → Option AV)
  | 61 => some add64V
  | 58 => some mul64V
  | 12 => some cloneV
  | _ => none
theorem primD_ok : ∀ f p, primC f = some p → ∀ args H r, p args H = some r → ∀ (lim : Nat) (φ : Phi) (I : Nat → Prop) (w : World) (cs : Array Value), Tb w → Rel lim φ I w H → DL φ I w args cs → CallW Try.prog f cs w (PurePost φ I w lim H r) := by
  intro f p h args H r hr lim φ I w cs hT hR hD
  unfold primC at h
  split at h
  · cases h
    unfold add64V at hr
    split at hr
    · rename_i x y c _
      cases three_args hD
      split at hr
      · rename_i hk
        obtain ⟨hx, hy, hc, hc1⟩ := hk
        obtain ⟨x, rfl⟩ := nat_of hx
        obtain ⟨y, rfl⟩ := nat_of hy
        obtain ⟨c, rfl⟩ := nat_of hc
        cases hr
        exact .inr ⟨_, fun w' => run61 x y c (by omega) w', _, I, rfl, den_two _ _, fun _ h => h, Bel.refl _ _, hR⟩
      · cases hr
    · cases hr
  · cases h
    unfold mul64V at hr
    split at hr
    · rename_i x y _
      cases two_args hD
      split at hr
      · rename_i hk
        obtain ⟨⟨hx, hx1⟩, hy, hy1⟩ := hk
        obtain ⟨x, rfl⟩ := nat_of hx
        obtain ⟨y, rfl⟩ := nat_of hy
        cases hr
        refine .inl ⟨named58, (Try.bits_Mul64 x y (by omega) (by omega) w).mono ?_⟩
        rintro e w' ⟨rfl, rfl⟩
        exact ⟨_, I, rfl, den_two _ _, fun _ h => h, Bel.refl _ _, hR⟩
      · cases hr
    · cases hr
  · cases h
theorem prim_ok : ∀ f p, primF f = some p → ∀ args H r, p args H = some r → ∀ (lim : Nat) (φ : Phi) (I : Nat → Prop) (w : World) (cs : Array Value), Tb w → Rel lim φ I w H → DL φ I w args cs → CallW Try.prog f cs w (PurePost φ I w lim H r) := by
  intro f p h args H r hr lim φ I w cs hT hR hD
  by_cases hf : f = 12
  · subst hf
    cases h
    exact clone_prim (fun h => h) hr hR hD
  · refine primD_ok f p (h ▸ ?_) args H r hr lim φ I w cs hT hR hD
    unfold primC primF
    split
    · rfl
    · rfl
    · split
      · exact absurd rfl (by assumption)
      · exact absurd rfl (by assumption)
      · exact absurd rfl hf
      · rfl
/-- The library's sort with points.Compare, of standings of different teams in memory of the call's own. -/
def sortV : Nat → List AV → Heap → Option (AV × Heap)
  | lim, [.own 10 b 0 n, .clo 22 []], H =>
    match hget H b with
    | some k =>
      match rdS k with
      | some ps => if lim ≤ b ∧ 1 ≤ n ∧ ps.length = n ∧ n ≤ 1000 ∧ (ps.map (·.1.tm)).Nodup then some (.tup [], hset H b (some (flatS (sortL ps)))) else none
      | none => none
    | none => none
  | _, _, _ => none
def effF : FuncId → Option (Nat → List AV → Heap → Option (AV × Heap))
  | 21 => some sortV
  | _ => none
theorem named21 : Named Try.prog 21 := ⟨Try.f21, Try.func21, by kernel_rfl, by kernel_rfl⟩
theorem named22 : Named Try.prog 22 := ⟨Try.f22, Try.func22, by kernel_rfl, by kernel_rfl⟩
theorem den_nil {φ : Phi} {I : Nat → Prop} {w : World} : Den φ I w (.tup []) (.tuple #[]) := .tup _ _ rfl (fun j x y hx _ => by simp at hx)
theorem sort_calls {lim : Nat} {φ : Phi} {I : Nat → Prop} {w : World} {H : Heap} (hR : Rel lim φ I w H) {b n : Nat} {ps : List SO} (hb : hget H b = some (flatS ps)) (hlim : lim ≤ b) (hn1 : 1 ≤ n) (hn : ps.length = n) (hn2 : n ≤ 1000) (hd : (ps.map (·.1.tm)).Nodup)
    {cs : Array Value} (hD : DL φ I w [.own 10 b 0 n, .clo 22 []] cs) : Calls Try.prog 21 cs w (CallPost lim φ I w (hset H b (some (flatS (sortL ps)))) (.tup [])) := by
  obtain ⟨l⟩ := cs
  have hl : l.length = 2 := by simpa using hD.1
  match l, hl, hD with
  | [x, y], _, hD =>
    have h0 := hD.2 0 _ x rfl rfl
    have h1 := hD.2 1 _ y rfl rfl
    cases h1 with
    | clo _ _ cs' hs' _ =>
      obtain rfl : cs' = #[] := by simpa using hs'
      cases h0 with
      | own0 => omega
      | own _ _ _ _ c off L hL hnc hc ho =>
        have ho2 : off = L.base ∧ off + c * 10 ≤ L.S := by rcases ho with h | h <;> omega
        obtain ⟨rfl, ho3⟩ := ho2
        rcases hR.blk b _ hb with ⟨h2, _⟩ | ⟨L', C, T, h2, hC, hS, hO⟩
        · rw [hL] at h2; cases h2
        · obtain rfl : L = L' := by rw [hL] at h2; cases h2; rfl
          have hdis := hR.disj b L hL
          have hH := holds_of (d := ps.toArray) (by simp) hC hO
          have hT : ∀ (m : Nat) (os : Array Obj) (dk : Array SO) (w1 : World), (∀ k, k < (sortWorldK encS 10 w L.k L.base m dk os).heap.size → w1.heap[k]? = (sortWorldK encS 10 w L.k L.base m dk os).heap[k]?) → Tb w1 := by
            intro m os dk w1 hw1
            refine hR.tab w1 fun k hk => ?_
            have hlt := hR.Ilt k hk
            have hsz := size_sortWorldK_c encS 10 w L.k L.base m dk os
            rw [hw1 k (by omega), sw_other (fun e : k = L.k => hdis.1 (by rw [← e]; exact hk)) hlt]
          have hcon := AnyQ.slices_SortFunc Try.sortSt 10 (fun w => Go.Am.run_isAgg ty51 w) (fun w => Go.Am.run_sizeOf ty51 w) encS (fun _ => rfl) (fun x v hv => by simp [encS] at hv; rcases hv with rfl | rfl | rfl | rfl | rfl | rfl | rfl | rfl | rfl | rfl <;> rfl) cmO swoS 22 #[] L.k L.base c ps.toArray w (fun args w' => named_run named22 args w') (cmp_lays L.k L.base ps.toArray.size w hT) hH hdis.2 (by simp; omega)
          have e : #[Value.slice (some ⟨L.k, L.base, none⟩) n c, Value.func (.func 22) #[] #[]] = #[Value.slice (some ⟨L.k, L.base, none⟩) ps.toArray.size c, Value.func (.func 22) #[] #[]] := by simp [hn]
          rw [show (⟨[Value.slice (some ⟨L.k, L.base, none⟩) n c, Value.func (.func 22) #[] #[]]⟩ : Array Value) = #[Value.slice (some ⟨L.k, L.base, none⟩) ps.toArray.size c, Value.func (.func 22) #[] #[]] from e]
          refine Calls.mono (show Calls Try.prog 21 _ _ _ from hcon) ?_
          rintro e w' ⟨rfl, d', q, os, hp, hs, rfl⟩
          have hd' := sorted_is hp hs (by simpa using hd)
          obtain ⟨r1, e1⟩ := sorted_rel hR hb hL hlim hC hS hO (q := q) (os := os) (by simpa using hd')
          exact ⟨_, φ, I, rfl, den_nil, r1, e1⟩
theorem eff_ok : ∀ f p, effF f = some p → ∀ lim args H r H', p lim args H = some (r, H') → ∀ (φ : Phi) (I : Nat → Prop) (w : World) (cs : Array Value), Tb w → Rel lim φ I w H → DL φ I w args cs → Calls Try.prog f cs w (CallPost lim φ I w H' r) ∧ Named Try.prog f := by
  intro f p h lim args H r H' hr φ I w cs hT hR hD
  unfold effF at h
  split at h
  · cases h
    unfold sortV at hr
    split at hr
    · split at hr
      · rename_i hb
        split at hr
        · rename_i hps
          split at hr
          · rename_i hk
            obtain ⟨h1, h2, h3, h4, h5⟩ := hk
            cases hr
            exact ⟨sort_calls hR (by rw [hb, rdS_eq hps]) h1 h2 h3 h4 h5 hD, named21⟩
          · cases hr
        · cases hr
      · cases hr
    · cases hr
  · cases h
end Go.Proofs.Ytdmeioppkannlaa
end
