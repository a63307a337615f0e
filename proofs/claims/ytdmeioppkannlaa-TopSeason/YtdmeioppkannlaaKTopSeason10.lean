/-
  Texts of TopSeason, part 11 of 16. TopSeason: chapters 49, 51 to 53 at this program. Turned by program from built texts (season.py).
-/
import Derived.Test.YtdmeioppkannlaaKTopSeason7
import Derived.Test.YtdmeioppkannlaaKTopSeason9
import Derived.KernelRfl
section
set_option linter.unusedSimpArgs false
set_option linter.unusedVariables false
set_option maxHeartbeats 4000000
set_option maxRecDepth 20000
namespace Go.Proofs.Ytdmeioppkannlaa
open Go Go.Am
abbrev lc_checkX_ok (a b c d e f g h i j k m n o : AV) : Env := [(0,a),(1,b),(4,c),(6,d),(7,e),(14,f),(18,g),(19,h),(20,i),(21,j),(24,k),(46,m),(69,n),(74,o)]
theorem checkX_ok (lim : Nat) (H : Heap) (n : Int) (hn : -9223372036854775808 ≤ n ∧ n ≤ 9223372036854775807) (l : List Pl) (x : AV) (hx : SrcP H x l) : ACall sig lim 19 [AV.i n, x] H fun r H' => r = AV.i (chS n l) ∧ H' = H := by
 have hb : True := trivial
 refine ACall_pure (fa := fa19) rfl rfl rfl rfl ?_
 have tr : ∀ a0 a1 : AV, env0 fa19.keep [a0, a1] = lc_checkX_ok a0 a1 .any .any .any .any .any .any .any .any .any .any .any .any := fun a0 a1 => rfl
 refine W_to (tr _ _) ?_; clear tr
 refine at_seq rfl ?_
 refine rg rfl ?_
 refine Rq ?_
 have tr : ∀ a b c d e f g h i j k m n o p : AV, let l := lc_checkX_ok a b c d e f g h i j k m n o; trim ((4,p)::l) l = lc_checkX_ok a b p d e f g h i j k m n o := by intros; rfl
 refine R_nil (tr ..) ?_; clear tr
 refine then_n ?_
 refine at_seq rfl ?_
 refine at_block rfl ?_
 refine at_seq rfl ?_
 refine rg rfl ?_
 refine Rq ?_
 refine Rq ?_
 refine Rq ?_
 refine Rp_split (fun h1 => ?_) (fun h1 => ?_)
 ·
  try simp only [decide_eq_true_eq, decide_eq_false_iff_not, decide_eq_decide, Bool.not_eq_true', Bool.not_eq_false', beq_iff_eq, beq_eq_false_iff_ne, ne_eq, Bool.and_eq_true, Bool.and_eq_false_iff, decide_not] at h1
  refine Rn ?_
  refine Rn ?_
  refine Rq ?_
  refine Rq ?_
  have tr : ∀ a b c d e f g h i j k m n o p q r s t u v : AV, let l := lc_checkX_ok a b c d e f g h i j k m n o; trim ((7,v)::(13,u)::(12,t)::(11,s)::(10,r)::(9,q)::(8,p)::l) l = lc_checkX_ok a b c d v f g h i j k m n o := by intros; rfl
  refine R_nil (tr ..) ?_; clear tr
  refine then_n ?_
  refine cdt ?_
  refine at_seq rfl ?_
  refine rg rfl ?_
  refine Rq ?_
  have tr : ∀ a b c d e f g h i j k m n o p : AV, let l := lc_checkX_ok a b c d e f g h i j k m n o; trim ((4,p)::l) l = lc_checkX_ok a b p d e f g h i j k m n o := by intros; rfl
  refine R_nil (tr ..) ?_; clear tr
  refine then_n ?_
  refine at_ret rfl ?_
  refine blk_r ?_
  refine then_r ?_
  first | (refine fpure ?_; refine ⟨?_, rfl⟩; rw [chS_a (by omega)]; done) | (refine fpure ?_; refine ⟨?_, rfl⟩; rw [chS_b (by omega) (by omega)]; done) | (refine fpure ?_; refine ⟨?_, rfl⟩; rw [chS_c (u := i) (by omega) (by omega) (by omega) hf (e := 1) (plE_1 (by omega)) (by decide)]; done) | (refine fpure ?_; refine ⟨?_, rfl⟩; rw [chS_c (u := i) (by omega) (by omega) (by omega) hf (e := 2) (plE_2 (by omega) (by omega)) (by decide)]; done) | (refine fpure ?_; refine ⟨?_, rfl⟩; rw [chS_c (u := i) (by omega) (by omega) (by omega) hf (e := 3) (plE_3 (by omega) (by omega) (by omega)) (by decide)]; done) | (refine fpure ?_; refine ⟨?_, rfl⟩; rw [chS_c (u := i) (by omega) (by omega) (by omega) hf (e := 11) (plE_4 (by omega) (by omega) (by omega) ⟨by assumption, by omega⟩) (by decide)]; done) | (refine fpure ?_; refine ⟨?_, rfl⟩; rw [chS_d (by omega) (by omega) (by rw [← show i = l.length by omega]; exact hf)]; done)
 ·
  try simp only [decide_eq_true_eq, decide_eq_false_iff_not, decide_eq_decide, Bool.not_eq_true', Bool.not_eq_false', beq_iff_eq, beq_eq_false_iff_ne, ne_eq, Bool.and_eq_true, Bool.and_eq_false_iff, decide_not] at h1
  refine Ry ?_
  refine Rq ?_
  refine Ry ?_
  refine Rq ?_
  refine Rq ?_
  refine Rq ?_
  have tr : ∀ a b c d e f g h i j k m n o p q r s t u v : AV, let l := lc_checkX_ok a b c d e f g h i j k m n o; trim ((7,v)::(13,u)::(12,t)::(11,s)::(10,r)::(9,q)::(8,p)::l) l = lc_checkX_ok a b c d v f g h i j k m n o := by intros; rfl
  refine R_nil (tr ..) ?_; clear tr
  refine then_n ?_
  refine cdd (fun h2 => ?_) (fun h2 => ?_)
  ·
   try simp only [decide_eq_true_eq, decide_eq_false_iff_not, decide_eq_decide, Bool.not_eq_true', Bool.not_eq_false', beq_iff_eq, beq_eq_false_iff_ne, ne_eq, Bool.and_eq_true, Bool.and_eq_false_iff, decide_not] at h2
   refine at_seq rfl ?_
   refine rg rfl ?_
   refine Rq ?_
   have tr : ∀ a b c d e f g h i j k m n o p : AV, let l := lc_checkX_ok a b c d e f g h i j k m n o; trim ((4,p)::l) l = lc_checkX_ok a b p d e f g h i j k m n o := by intros; rfl
   refine R_nil (tr ..) ?_; clear tr
   refine then_n ?_
   refine at_ret rfl ?_
   refine blk_r ?_
   refine then_r ?_
   first | (refine fpure ?_; refine ⟨?_, rfl⟩; rw [chS_a (by omega)]; done) | (refine fpure ?_; refine ⟨?_, rfl⟩; rw [chS_b (by omega) (by omega)]; done) | (refine fpure ?_; refine ⟨?_, rfl⟩; rw [chS_c (u := i) (by omega) (by omega) (by omega) hf (e := 1) (plE_1 (by omega)) (by decide)]; done) | (refine fpure ?_; refine ⟨?_, rfl⟩; rw [chS_c (u := i) (by omega) (by omega) (by omega) hf (e := 2) (plE_2 (by omega) (by omega)) (by decide)]; done) | (refine fpure ?_; refine ⟨?_, rfl⟩; rw [chS_c (u := i) (by omega) (by omega) (by omega) hf (e := 3) (plE_3 (by omega) (by omega) (by omega)) (by decide)]; done) | (refine fpure ?_; refine ⟨?_, rfl⟩; rw [chS_c (u := i) (by omega) (by omega) (by omega) hf (e := 11) (plE_4 (by omega) (by omega) (by omega) ⟨by assumption, by omega⟩) (by decide)]; done) | (refine fpure ?_; refine ⟨?_, rfl⟩; rw [chS_d (by omega) (by omega) (by rw [← show i = l.length by omega]; exact hf)]; done)
  ·
   try simp only [decide_eq_true_eq, decide_eq_false_iff_not, decide_eq_decide, Bool.not_eq_true', Bool.not_eq_false', beq_iff_eq, beq_eq_false_iff_ne, ne_eq, Bool.and_eq_true, Bool.and_eq_false_iff, decide_not] at h2
   refine at_seq rfl ?_
   refine rg rfl ?_
   refine Rq ?_
   refine R_q rfl (by simp only [go_sem, ↓reduceIte, Nat.reduceEqDiff]; exact hx.len) ?_
   refine Rq ?_
   refine Rq ?_
   have tr : ∀ a b c d e f g h i j k m n o p q r s : AV, let l := lc_checkX_ok a b c d e f g h i j k m n o; trim ((14,s)::(17,r)::(16,q)::(15,p)::l) l = lc_checkX_ok a b c d e s g h i j k m n o := by intros; rfl
   refine R_nil (tr ..) ?_; clear tr
   refine then_n ?_
   refine cdd (fun h3 => ?_) (fun h3 => ?_)
   ·
    try simp only [decide_eq_true_eq, decide_eq_false_iff_not, decide_eq_decide, Bool.not_eq_true', Bool.not_eq_false', beq_iff_eq, beq_eq_false_iff_ne, ne_eq, Bool.and_eq_true, Bool.and_eq_false_iff, decide_not] at h3
    refine at_seq rfl ?_
    refine rg rfl ?_
    refine Rq ?_
    have tr : ∀ a b c d e f g h i j k m n o p : AV, let l := lc_checkX_ok a b c d e f g h i j k m n o; trim ((4,p)::l) l = lc_checkX_ok a b p d e f g h i j k m n o := by intros; rfl
    refine R_nil (tr ..) ?_; clear tr
    refine then_n ?_
    refine at_ret rfl ?_
    refine blk_r ?_
    refine then_r ?_
    first | (refine fpure ?_; refine ⟨?_, rfl⟩; rw [chS_a (by omega)]; done) | (refine fpure ?_; refine ⟨?_, rfl⟩; rw [chS_b (by omega) (by omega)]; done) | (refine fpure ?_; refine ⟨?_, rfl⟩; rw [chS_c (u := i) (by omega) (by omega) (by omega) hf (e := 1) (plE_1 (by omega)) (by decide)]; done) | (refine fpure ?_; refine ⟨?_, rfl⟩; rw [chS_c (u := i) (by omega) (by omega) (by omega) hf (e := 2) (plE_2 (by omega) (by omega)) (by decide)]; done) | (refine fpure ?_; refine ⟨?_, rfl⟩; rw [chS_c (u := i) (by omega) (by omega) (by omega) hf (e := 3) (plE_3 (by omega) (by omega) (by omega)) (by decide)]; done) | (refine fpure ?_; refine ⟨?_, rfl⟩; rw [chS_c (u := i) (by omega) (by omega) (by omega) hf (e := 11) (plE_4 (by omega) (by omega) (by omega) ⟨by assumption, by omega⟩) (by decide)]; done) | (refine fpure ?_; refine ⟨?_, rfl⟩; rw [chS_d (by omega) (by omega) (by rw [← show i = l.length by omega]; exact hf)]; done)
   ·
    try simp only [decide_eq_true_eq, decide_eq_false_iff_not, decide_eq_decide, Bool.not_eq_true', Bool.not_eq_false', beq_iff_eq, beq_eq_false_iff_ne, ne_eq, Bool.and_eq_true, Bool.and_eq_false_iff, decide_not] at h3
    refine at_skip rfl ?_
    refine blk_n ?_
    refine then_n ?_
    refine at_seq rfl ?_
    refine at_seq rfl ?_
    refine rg rfl ?_
    refine Rq ?_
    refine R_q rfl (by simp only [go_sem, ↓reduceIte, Nat.reduceEqDiff]; exact hx.len) ?_
    refine Rq ?_
    have tr : ∀ a b c d e f g h i j k m n o p q r : AV, let l := lc_checkX_ok a b c d e f g h i j k m n o; trim ((20,r)::(19,q)::(18,p)::l) l = lc_checkX_ok a b c d e f p q r j k m n o := by intros; rfl
    refine R_nil (tr ..) ?_; clear tr
    refine then_n ?_
    refine at_block rfl ?_
    refine loop_n rfl (fun mm kv H' => ∃ i : Nat, ∃ X : Heap, ∃ x4 x6 x21 x24 x46 x69 x74 : AV, (kv = [(4, x4), (6, x6), (20, AV.i (i : Int)), (21, x21), (24, x24), (46, x46), (69, x69), (74, x74)]) ∧ (mm = l.length - i) ∧ (H' = H ++ X) ∧ (i ≤ l.length) ∧ (ferr (fun i => plE n (gp l i)) i = 0)) ⟨0, [], _, _, _, _, _, _, _, rfl, rfl, by simp, by omega, by rfl⟩ (by rfl) ?_
    rintro mm kv HO ⟨i, X, x4, x6, x21, x24, x46, x69, x74, rfl, rfl, hX, hi, hf⟩
    have tr : ∀ a b c d e f g h i j k m n o p q r s t u v w : AV, upd (lc_checkX_ok a b c d e f g h i j k m n o) [(4,p),(6,q),(20,r),(21,s),(24,t),(46,u),(69,v),(74,w)] = lc_checkX_ok a b p q e f g h r s t u v w := by intros; rfl
    refine W_to (tr ..) ?_; clear tr
    subst hX
    refine at_seq rfl ?_
    refine rg rfl ?_
    refine Rq ?_
    have tr : ∀ a b c d e f g h i j k m n o p : AV, let l := lc_checkX_ok a b c d e f g h i j k m n o; trim ((21,p)::l) l = lc_checkX_ok a b c d e f g h i p k m n o := by intros; rfl
    refine R_nil (tr ..) ?_; clear tr
    refine then_n ?_
    refine at_seq rfl ?_
    refine cdd (fun h4 => ?_) (fun h4 => ?_)
    ·
     try simp only [decide_eq_true_eq, decide_eq_false_iff_not, decide_eq_decide, Bool.not_eq_true', Bool.not_eq_false', beq_iff_eq, beq_eq_false_iff_ne, ne_eq, Bool.and_eq_true, Bool.and_eq_false_iff, decide_not] at h4
     refine at_skip rfl ?_
     refine then_n ?_
     refine at_seq rfl ?_
     refine at_block rfl ?_
     refine at_seq rfl ?_
     refine rg rfl ?_
     obtain ⟨b, rfl, hb⟩ := hx.own (i := i) (by omega)
     have lb := hget_lt hb
     refine R_q rfl (by simp (disch := first | omega | (simp only [List.length_map, List.length_append, List.length_set, List.length_cons, List.length_nil]; omega)) only [go_sem, ↓reduceIte, Nat.reduceEqDiff, reduceCtorEq] <;> rfl) ?_
     refine R_q rfl (by simp (disch := first | omega | (simp only [List.length_map, List.length_append, List.length_set, List.length_cons, List.length_nil]; omega)) only [go_sem, ↓reduceIte, Nat.reduceEqDiff, reduceCtorEq, hb] <;> rfl) ?_
     refine R_alloc (by simp (disch := first | omega | (simp only [List.length_map, List.length_append, List.length_set, List.length_cons, List.length_nil]; omega)) only [go_sem, ↓reduceIte, Nat.reduceEqDiff, reduceCtorEq, hb] <;> rfl) rfl (by simp only [List.map_cons, List.map_nil]; rfl) ?_
     refine R_store ty46 (by simp (disch := first | omega | (simp only [List.length_map, List.length_append, List.length_set, List.length_cons, List.length_nil]; omega)) only [go_sem, ↓reduceIte, Nat.reduceEqDiff, reduceCtorEq, hb] <;> rfl) (by simp (disch := first | omega | (simp only [List.length_map, List.length_append, List.length_set, List.length_cons, List.length_nil]; omega)) only [go_sem, ↓reduceIte, Nat.reduceEqDiff, reduceCtorEq, hb] <;> rfl) (by simp (disch := first | omega | (simp only [List.length_map, List.length_append, List.length_set, List.length_cons, List.length_nil]; omega)) only [go_sem, ↓reduceIte, Nat.reduceEqDiff, reduceCtorEq, hb] <;> rfl) (by simp) (by rfl) (by simp (disch := first | omega | (simp only [List.length_map, List.length_append, List.length_set, List.length_cons, List.length_nil]; omega)) only [go_sem, ↓reduceIte, Nat.reduceEqDiff, reduceCtorEq, hb] <;> rfl) ?_
     have tr : ∀ a b c d e f g h i j k m n o p q r : AV, let l := lc_checkX_ok a b c d e f g h i j k m n o; trim ((6,r)::(23,q)::(22,p)::l) l = lc_checkX_ok a b c r e f g h i j k m n o := by intros; rfl
     refine R_nil (tr ..) ?_; clear tr
     refine then_n ?_
     refine at_block rfl ?_
     refine at_seq rfl ?_
     refine rg rfl ?_
     refine Rq ?_
     refine R_q rfl (by simp (disch := first | omega | (simp only [List.length_map, List.length_append, List.length_set, List.length_cons, List.length_nil]; omega)) only [go_sem, ↓reduceIte, Nat.reduceEqDiff, reduceCtorEq, hb] <;> rfl) ?_
     refine Rq ?_
     refine Rq ?_
     refine Rcall ?_
     refine ACall_eq (within_ok _ _ _ _) ?_
     refine Rq ?_
     refine Rq ?_
     refine Rp_split (fun h5 => ?_) (fun h5 => ?_)
     ·
      try simp only [decide_eq_true_eq, decide_eq_false_iff_not, decide_eq_decide, Bool.not_eq_true', Bool.not_eq_false', beq_iff_eq, beq_eq_false_iff_ne, ne_eq, Bool.and_eq_true, Bool.and_eq_false_iff, decide_not] at h5
      refine Rn ?_
      refine Rn ?_
      refine Rn ?_
      refine Rn ?_
      refine Rn ?_
      refine Rn ?_
      refine Rq ?_
      refine Rq ?_
      refine Rn ?_
      refine Rn ?_
      refine Rn ?_
      refine Rn ?_
      refine Rn ?_
      refine Rq ?_
      refine Rq ?_
      have tr : ∀ a b c d e f g h i j k m n o p q r s t u v w x y z A B C D E F G H I J K : AV, let l := lc_checkX_ok a b c d e f g h i j k m n o; trim ((24,K)::(45,J)::(44,I)::(43,H)::(42,G)::(41,F)::(40,E)::(39,D)::(38,C)::(37,B)::(36,A)::(35,z)::(34,y)::(33,x)::(32,w)::(31,v)::(30,u)::(29,t)::(28,s)::(27,r)::(26,q)::(25,p)::l) l = lc_checkX_ok a b c d e f g h i j K m n o := by intros; rfl
      refine R_nil (tr ..) ?_; clear tr
      refine then_n ?_
      refine cdt ?_
      refine at_seq rfl ?_
      refine rg rfl ?_
      refine Rq ?_
      have tr : ∀ a b c d e f g h i j k m n o p : AV, let l := lc_checkX_ok a b c d e f g h i j k m n o; trim ((4,p)::l) l = lc_checkX_ok a b p d e f g h i j k m n o := by intros; rfl
      refine R_nil (tr ..) ?_; clear tr
      refine then_n ?_
      refine at_ret rfl ?_
      refine blk_r ?_
      refine blk_r ?_
      refine then_r ?_
      refine then_r ?_
      refine blk_r ?_
      refine then_r ?_
      first | (refine fpure ?_; refine ⟨?_, rfl⟩; rw [chS_a (by omega)]; done) | (refine fpure ?_; refine ⟨?_, rfl⟩; rw [chS_b (by omega) (by omega)]; done) | (refine fpure ?_; refine ⟨?_, rfl⟩; rw [chS_c (u := i) (by omega) (by omega) (by omega) hf (e := 1) (plE_1 (by omega)) (by decide)]; done) | (refine fpure ?_; refine ⟨?_, rfl⟩; rw [chS_c (u := i) (by omega) (by omega) (by omega) hf (e := 2) (plE_2 (by omega) (by omega)) (by decide)]; done) | (refine fpure ?_; refine ⟨?_, rfl⟩; rw [chS_c (u := i) (by omega) (by omega) (by omega) hf (e := 3) (plE_3 (by omega) (by omega) (by omega)) (by decide)]; done) | (refine fpure ?_; refine ⟨?_, rfl⟩; rw [chS_c (u := i) (by omega) (by omega) (by omega) hf (e := 11) (plE_4 (by omega) (by omega) (by omega) ⟨by assumption, by omega⟩) (by decide)]; done) | (refine fpure ?_; refine ⟨?_, rfl⟩; rw [chS_d (by omega) (by omega) (by rw [← show i = l.length by omega]; exact hf)]; done)
     ·
      try simp only [decide_eq_true_eq, decide_eq_false_iff_not, decide_eq_decide, Bool.not_eq_true', Bool.not_eq_false', beq_iff_eq, beq_eq_false_iff_ne, ne_eq, Bool.and_eq_true, Bool.and_eq_false_iff, decide_not] at h5
      refine Ry ?_
      refine Rq ?_
      refine Ry ?_
      refine R_q rfl (by simp (disch := first | omega | (simp only [List.length_map, List.length_append, List.length_set, List.length_cons, List.length_nil]; omega)) only [go_sem, ↓reduceIte, Nat.reduceEqDiff, reduceCtorEq, hb] <;> rfl) ?_
      refine Ry ?_
      refine Rq ?_
      refine Ry ?_
      refine Rq ?_
      refine Ry ?_
      refine Rcall ?_
      refine ACall_eq (within_ok _ _ _ _) ?_
      refine Ry ?_
      refine Rq ?_
      refine Rq ?_
      refine Rq ?_
      refine Rp_split (fun h6 => ?_) (fun h6 => ?_)
      ·
       try simp only [decide_eq_true_eq, decide_eq_false_iff_not, decide_eq_decide, Bool.not_eq_true', Bool.not_eq_false', beq_iff_eq, beq_eq_false_iff_ne, ne_eq, Bool.and_eq_true, Bool.and_eq_false_iff, decide_not] at h6
       refine Rn ?_
       refine Rn ?_
       refine Rn ?_
       refine Rn ?_
       refine Rn ?_
       refine Rq ?_
       refine Rq ?_
       have tr : ∀ a b c d e f g h i j k m n o p q r s t u v w x y z A B C D E F G H I J K : AV, let l := lc_checkX_ok a b c d e f g h i j k m n o; trim ((24,K)::(45,J)::(44,I)::(43,H)::(42,G)::(41,F)::(40,E)::(39,D)::(38,C)::(37,B)::(36,A)::(35,z)::(34,y)::(33,x)::(32,w)::(31,v)::(30,u)::(29,t)::(28,s)::(27,r)::(26,q)::(25,p)::l) l = lc_checkX_ok a b c d e f g h i j K m n o := by intros; rfl
       refine R_nil (tr ..) ?_; clear tr
       refine then_n ?_
       refine cdt ?_
       refine at_seq rfl ?_
       refine rg rfl ?_
       refine Rq ?_
       have tr : ∀ a b c d e f g h i j k m n o p : AV, let l := lc_checkX_ok a b c d e f g h i j k m n o; trim ((4,p)::l) l = lc_checkX_ok a b p d e f g h i j k m n o := by intros; rfl
       refine R_nil (tr ..) ?_; clear tr
       refine then_n ?_
       refine at_ret rfl ?_
       refine blk_r ?_
       refine blk_r ?_
       refine then_r ?_
       refine then_r ?_
       refine blk_r ?_
       refine then_r ?_
       first | (refine fpure ?_; refine ⟨?_, rfl⟩; rw [chS_a (by omega)]; done) | (refine fpure ?_; refine ⟨?_, rfl⟩; rw [chS_b (by omega) (by omega)]; done) | (refine fpure ?_; refine ⟨?_, rfl⟩; rw [chS_c (u := i) (by omega) (by omega) (by omega) hf (e := 1) (plE_1 (by omega)) (by decide)]; done) | (refine fpure ?_; refine ⟨?_, rfl⟩; rw [chS_c (u := i) (by omega) (by omega) (by omega) hf (e := 2) (plE_2 (by omega) (by omega)) (by decide)]; done) | (refine fpure ?_; refine ⟨?_, rfl⟩; rw [chS_c (u := i) (by omega) (by omega) (by omega) hf (e := 3) (plE_3 (by omega) (by omega) (by omega)) (by decide)]; done) | (refine fpure ?_; refine ⟨?_, rfl⟩; rw [chS_c (u := i) (by omega) (by omega) (by omega) hf (e := 11) (plE_4 (by omega) (by omega) (by omega) ⟨by assumption, by omega⟩) (by decide)]; done) | (refine fpure ?_; refine ⟨?_, rfl⟩; rw [chS_d (by omega) (by omega) (by rw [← show i = l.length by omega]; exact hf)]; done)
      ·
       try simp only [decide_eq_true_eq, decide_eq_false_iff_not, decide_eq_decide, Bool.not_eq_true', Bool.not_eq_false', beq_iff_eq, beq_eq_false_iff_ne, ne_eq, Bool.and_eq_true, Bool.and_eq_false_iff, decide_not] at h6
       refine Ry ?_
       refine Rq ?_
       refine Ry ?_
       refine R_q rfl (by simp (disch := first | omega | (simp only [List.length_map, List.length_append, List.length_set, List.length_cons, List.length_nil]; omega)) only [go_sem, ↓reduceIte, Nat.reduceEqDiff, reduceCtorEq, hb] <;> rfl) ?_
       refine Ry ?_
       refine Rq ?_
       refine Ry ?_
       refine R_q rfl (by simp (disch := first | omega | (simp only [List.length_map, List.length_append, List.length_set, List.length_cons, List.length_nil]; omega)) only [go_sem, ↓reduceIte, Nat.reduceEqDiff, reduceCtorEq, hb] <;> rfl) ?_
       refine Ry ?_
       refine Rq ?_
       refine Rq ?_
       refine Rq ?_
       have tr : ∀ a b c d e f g h i j k m n o p q r s t u v w x y z A B C D E F G H I J K : AV, let l := lc_checkX_ok a b c d e f g h i j k m n o; trim ((24,K)::(45,J)::(44,I)::(43,H)::(42,G)::(41,F)::(40,E)::(39,D)::(38,C)::(37,B)::(36,A)::(35,z)::(34,y)::(33,x)::(32,w)::(31,v)::(30,u)::(29,t)::(28,s)::(27,r)::(26,q)::(25,p)::l) l = lc_checkX_ok a b c d e f g h i j K m n o := by intros; rfl
       refine R_nil (tr ..) ?_; clear tr
       refine then_n ?_
       refine cdd (fun h7 => ?_) (fun h7 => ?_)
       ·
        try simp only [decide_eq_true_eq, decide_eq_false_iff_not, decide_eq_decide, Bool.not_eq_true', Bool.not_eq_false', beq_iff_eq, beq_eq_false_iff_ne, ne_eq, Bool.and_eq_true, Bool.and_eq_false_iff, decide_not] at h7
        refine at_seq rfl ?_
        refine rg rfl ?_
        refine Rq ?_
        have tr : ∀ a b c d e f g h i j k m n o p : AV, let l := lc_checkX_ok a b c d e f g h i j k m n o; trim ((4,p)::l) l = lc_checkX_ok a b p d e f g h i j k m n o := by intros; rfl
        refine R_nil (tr ..) ?_; clear tr
        refine then_n ?_
        refine at_ret rfl ?_
        refine blk_r ?_
        refine blk_r ?_
        refine then_r ?_
        refine then_r ?_
        refine blk_r ?_
        refine then_r ?_
        first | (refine fpure ?_; refine ⟨?_, rfl⟩; rw [chS_a (by omega)]; done) | (refine fpure ?_; refine ⟨?_, rfl⟩; rw [chS_b (by omega) (by omega)]; done) | (refine fpure ?_; refine ⟨?_, rfl⟩; rw [chS_c (u := i) (by omega) (by omega) (by omega) hf (e := 1) (plE_1 (by omega)) (by decide)]; done) | (refine fpure ?_; refine ⟨?_, rfl⟩; rw [chS_c (u := i) (by omega) (by omega) (by omega) hf (e := 2) (plE_2 (by omega) (by omega)) (by decide)]; done) | (refine fpure ?_; refine ⟨?_, rfl⟩; rw [chS_c (u := i) (by omega) (by omega) (by omega) hf (e := 3) (plE_3 (by omega) (by omega) (by omega)) (by decide)]; done) | (refine fpure ?_; refine ⟨?_, rfl⟩; rw [chS_c (u := i) (by omega) (by omega) (by omega) hf (e := 11) (plE_4 (by omega) (by omega) (by omega) ⟨by assumption, by omega⟩) (by decide)]; done) | (refine fpure ?_; refine ⟨?_, rfl⟩; rw [chS_d (by omega) (by omega) (by rw [← show i = l.length by omega]; exact hf)]; done)
       ·
        try simp only [decide_eq_true_eq, decide_eq_false_iff_not, decide_eq_decide, Bool.not_eq_true', Bool.not_eq_false', beq_iff_eq, beq_eq_false_iff_ne, ne_eq, Bool.and_eq_true, Bool.and_eq_false_iff, decide_not] at h7
        refine at_seq rfl ?_
        refine rg rfl ?_
        refine Rq ?_
        refine R_q rfl (by simp (disch := first | omega | (simp only [List.length_map, List.length_append, List.length_set, List.length_cons, List.length_nil]; omega)) only [go_sem, ↓reduceIte, Nat.reduceEqDiff, reduceCtorEq, hb] <;> rfl) ?_
        refine Rcall ?_
        refine ACall_eq (within_ok _ _ _ _) ?_
        refine Rq ?_
        refine Rq ?_
        refine Rp_split (fun h8 => ?_) (fun h8 => ?_)
        ·
         try simp only [decide_eq_true_eq, decide_eq_false_iff_not, decide_eq_decide, Bool.not_eq_true', Bool.not_eq_false', beq_iff_eq, beq_eq_false_iff_ne, ne_eq, Bool.and_eq_true, Bool.and_eq_false_iff, decide_not] at h8
         refine Rn ?_
         refine Rn ?_
         refine Rn ?_
         refine Rn ?_
         refine Rq ?_
         refine Rq ?_
         refine Rn ?_
         refine Rn ?_
         refine Rn ?_
         refine Rn ?_
         refine Rq ?_
         refine Rq ?_
         refine Rn ?_
         refine Rn ?_
         refine Rn ?_
         refine Rn ?_
         refine Rq ?_
         refine Rq ?_
         have tr : ∀ a b c d e f g h i j k m n o p q r s t u v w x y z A B C D E F G H I J K L : AV, let l := lc_checkX_ok a b c d e f g h i j k m n o; trim ((46,L)::(68,K)::(67,J)::(66,I)::(65,H)::(64,G)::(63,F)::(62,E)::(61,D)::(60,C)::(59,B)::(58,A)::(57,z)::(56,y)::(55,x)::(54,w)::(53,v)::(52,u)::(51,t)::(50,s)::(49,r)::(48,q)::(47,p)::l) l = lc_checkX_ok a b c d e f g h i j k L n o := by intros; rfl
         refine R_nil (tr ..) ?_; clear tr
         refine then_n ?_
         refine cdt ?_
         refine at_seq rfl ?_
         refine rg rfl ?_
         refine Rq ?_
         have tr : ∀ a b c d e f g h i j k m n o p : AV, let l := lc_checkX_ok a b c d e f g h i j k m n o; trim ((4,p)::l) l = lc_checkX_ok a b p d e f g h i j k m n o := by intros; rfl
         refine R_nil (tr ..) ?_; clear tr
         refine then_n ?_
         refine at_ret rfl ?_
         refine blk_r ?_
         refine blk_r ?_
         refine then_r ?_
         refine then_r ?_
         refine blk_r ?_
         refine then_r ?_
         first | (refine fpure ?_; refine ⟨?_, rfl⟩; rw [chS_a (by omega)]; done) | (refine fpure ?_; refine ⟨?_, rfl⟩; rw [chS_b (by omega) (by omega)]; done) | (refine fpure ?_; refine ⟨?_, rfl⟩; rw [chS_c (u := i) (by omega) (by omega) (by omega) hf (e := 1) (plE_1 (by omega)) (by decide)]; done) | (refine fpure ?_; refine ⟨?_, rfl⟩; rw [chS_c (u := i) (by omega) (by omega) (by omega) hf (e := 2) (plE_2 (by omega) (by omega)) (by decide)]; done) | (refine fpure ?_; refine ⟨?_, rfl⟩; rw [chS_c (u := i) (by omega) (by omega) (by omega) hf (e := 3) (plE_3 (by omega) (by omega) (by omega)) (by decide)]; done) | (refine fpure ?_; refine ⟨?_, rfl⟩; rw [chS_c (u := i) (by omega) (by omega) (by omega) hf (e := 11) (plE_4 (by omega) (by omega) (by omega) ⟨by assumption, by omega⟩) (by decide)]; done) | (refine fpure ?_; refine ⟨?_, rfl⟩; rw [chS_d (by omega) (by omega) (by rw [← show i = l.length by omega]; exact hf)]; done)
        ·
         try simp only [decide_eq_true_eq, decide_eq_false_iff_not, decide_eq_decide, Bool.not_eq_true', Bool.not_eq_false', beq_iff_eq, beq_eq_false_iff_ne, ne_eq, Bool.and_eq_true, Bool.and_eq_false_iff, decide_not] at h8
         refine Ry ?_
         refine Rq ?_
         refine Ry ?_
         refine R_q rfl (by simp (disch := first | omega | (simp only [List.length_map, List.length_append, List.length_set, List.length_cons, List.length_nil]; omega)) only [go_sem, ↓reduceIte, Nat.reduceEqDiff, reduceCtorEq, hb] <;> rfl) ?_
         refine Ry ?_
         refine Rcall ?_
         refine ACall_eq (within_ok _ _ _ _) ?_
         refine Ry ?_
         refine Rq ?_
         refine Rq ?_
         refine Rq ?_
         refine Rp_split (fun h9 => ?_) (fun h9 => ?_)
         ·
          try simp only [decide_eq_true_eq, decide_eq_false_iff_not, decide_eq_decide, Bool.not_eq_true', Bool.not_eq_false', beq_iff_eq, beq_eq_false_iff_ne, ne_eq, Bool.and_eq_true, Bool.and_eq_false_iff, decide_not] at h9
          refine Rn ?_
          refine Rn ?_
          refine Rn ?_
          refine Rn ?_
          refine Rq ?_
          refine Rq ?_
          refine Rn ?_
          refine Rn ?_
          refine Rn ?_
          refine Rn ?_
          refine Rq ?_
          refine Rq ?_
          have tr : ∀ a b c d e f g h i j k m n o p q r s t u v w x y z A B C D E F G H I J K L : AV, let l := lc_checkX_ok a b c d e f g h i j k m n o; trim ((46,L)::(68,K)::(67,J)::(66,I)::(65,H)::(64,G)::(63,F)::(62,E)::(61,D)::(60,C)::(59,B)::(58,A)::(57,z)::(56,y)::(55,x)::(54,w)::(53,v)::(52,u)::(51,t)::(50,s)::(49,r)::(48,q)::(47,p)::l) l = lc_checkX_ok a b c d e f g h i j k L n o := by intros; rfl
          refine R_nil (tr ..) ?_; clear tr
          refine then_n ?_
          refine cdt ?_
          refine at_seq rfl ?_
          refine rg rfl ?_
          refine Rq ?_
          have tr : ∀ a b c d e f g h i j k m n o p : AV, let l := lc_checkX_ok a b c d e f g h i j k m n o; trim ((4,p)::l) l = lc_checkX_ok a b p d e f g h i j k m n o := by intros; rfl
          refine R_nil (tr ..) ?_; clear tr
          refine then_n ?_
          refine at_ret rfl ?_
          refine blk_r ?_
          refine blk_r ?_
          refine then_r ?_
          refine then_r ?_
          refine blk_r ?_
          refine then_r ?_
          first | (refine fpure ?_; refine ⟨?_, rfl⟩; rw [chS_a (by omega)]; done) | (refine fpure ?_; refine ⟨?_, rfl⟩; rw [chS_b (by omega) (by omega)]; done) | (refine fpure ?_; refine ⟨?_, rfl⟩; rw [chS_c (u := i) (by omega) (by omega) (by omega) hf (e := 1) (plE_1 (by omega)) (by decide)]; done) | (refine fpure ?_; refine ⟨?_, rfl⟩; rw [chS_c (u := i) (by omega) (by omega) (by omega) hf (e := 2) (plE_2 (by omega) (by omega)) (by decide)]; done) | (refine fpure ?_; refine ⟨?_, rfl⟩; rw [chS_c (u := i) (by omega) (by omega) (by omega) hf (e := 3) (plE_3 (by omega) (by omega) (by omega)) (by decide)]; done) | (refine fpure ?_; refine ⟨?_, rfl⟩; rw [chS_c (u := i) (by omega) (by omega) (by omega) hf (e := 11) (plE_4 (by omega) (by omega) (by omega) ⟨by assumption, by omega⟩) (by decide)]; done) | (refine fpure ?_; refine ⟨?_, rfl⟩; rw [chS_d (by omega) (by omega) (by rw [← show i = l.length by omega]; exact hf)]; done)
         ·
          try simp only [decide_eq_true_eq, decide_eq_false_iff_not, decide_eq_decide, Bool.not_eq_true', Bool.not_eq_false', beq_iff_eq, beq_eq_false_iff_ne, ne_eq, Bool.and_eq_true, Bool.and_eq_false_iff, decide_not] at h9
          refine Ry ?_
          refine Rq ?_
          refine Ry ?_
          refine R_q rfl (by simp (disch := first | omega | (simp only [List.length_map, List.length_append, List.length_set, List.length_cons, List.length_nil]; omega)) only [go_sem, ↓reduceIte, Nat.reduceEqDiff, reduceCtorEq, hb] <;> rfl) ?_
          refine Ry ?_
          refine Rcall ?_
          refine ACall_eq (within_ok _ _ _ _) ?_
          refine Ry ?_
          refine Rq ?_
          refine Rq ?_
          refine Rq ?_
          refine Rp_split (fun h10 => ?_) (fun h10 => ?_)
          ·
           try simp only [decide_eq_true_eq, decide_eq_false_iff_not, decide_eq_decide, Bool.not_eq_true', Bool.not_eq_false', beq_iff_eq, beq_eq_false_iff_ne, ne_eq, Bool.and_eq_true, Bool.and_eq_false_iff, decide_not] at h10
           refine Rn ?_
           refine Rn ?_
           refine Rn ?_
           refine Rn ?_
           refine Rq ?_
           refine Rq ?_
           have tr : ∀ a b c d e f g h i j k m n o p q r s t u v w x y z A B C D E F G H I J K L : AV, let l := lc_checkX_ok a b c d e f g h i j k m n o; trim ((46,L)::(68,K)::(67,J)::(66,I)::(65,H)::(64,G)::(63,F)::(62,E)::(61,D)::(60,C)::(59,B)::(58,A)::(57,z)::(56,y)::(55,x)::(54,w)::(53,v)::(52,u)::(51,t)::(50,s)::(49,r)::(48,q)::(47,p)::l) l = lc_checkX_ok a b c d e f g h i j k L n o := by intros; rfl
           refine R_nil (tr ..) ?_; clear tr
           refine then_n ?_
           refine cdt ?_
           refine at_seq rfl ?_
           refine rg rfl ?_
           refine Rq ?_
           have tr : ∀ a b c d e f g h i j k m n o p : AV, let l := lc_checkX_ok a b c d e f g h i j k m n o; trim ((4,p)::l) l = lc_checkX_ok a b p d e f g h i j k m n o := by intros; rfl
           refine R_nil (tr ..) ?_; clear tr
           refine then_n ?_
           refine at_ret rfl ?_
           refine blk_r ?_
           refine blk_r ?_
           refine then_r ?_
           refine then_r ?_
           refine blk_r ?_
           refine then_r ?_
           first | (refine fpure ?_; refine ⟨?_, rfl⟩; rw [chS_a (by omega)]; done) | (refine fpure ?_; refine ⟨?_, rfl⟩; rw [chS_b (by omega) (by omega)]; done) | (refine fpure ?_; refine ⟨?_, rfl⟩; rw [chS_c (u := i) (by omega) (by omega) (by omega) hf (e := 1) (plE_1 (by omega)) (by decide)]; done) | (refine fpure ?_; refine ⟨?_, rfl⟩; rw [chS_c (u := i) (by omega) (by omega) (by omega) hf (e := 2) (plE_2 (by omega) (by omega)) (by decide)]; done) | (refine fpure ?_; refine ⟨?_, rfl⟩; rw [chS_c (u := i) (by omega) (by omega) (by omega) hf (e := 3) (plE_3 (by omega) (by omega) (by omega)) (by decide)]; done) | (refine fpure ?_; refine ⟨?_, rfl⟩; rw [chS_c (u := i) (by omega) (by omega) (by omega) hf (e := 11) (plE_4 (by omega) (by omega) (by omega) ⟨by assumption, by omega⟩) (by decide)]; done) | (refine fpure ?_; refine ⟨?_, rfl⟩; rw [chS_d (by omega) (by omega) (by rw [← show i = l.length by omega]; exact hf)]; done)
          ·
           try simp only [decide_eq_true_eq, decide_eq_false_iff_not, decide_eq_decide, Bool.not_eq_true', Bool.not_eq_false', beq_iff_eq, beq_eq_false_iff_ne, ne_eq, Bool.and_eq_true, Bool.and_eq_false_iff, decide_not] at h10
           refine Ry ?_
           refine Rq ?_
           refine Ry ?_
           refine R_q rfl (by simp (disch := first | omega | (simp only [List.length_map, List.length_append, List.length_set, List.length_cons, List.length_nil]; omega)) only [go_sem, ↓reduceIte, Nat.reduceEqDiff, reduceCtorEq, hb] <;> rfl) ?_
           refine Ry ?_
           refine Rcall ?_
           refine ACall_eq (within_ok _ _ _ _) ?_
           refine Ry ?_
           refine Rq ?_
           refine Rq ?_
           refine Rq ?_
           have tr : ∀ a b c d e f g h i j k m n o p q r s t u v w x y z A B C D E F G H I J K L : AV, let l := lc_checkX_ok a b c d e f g h i j k m n o; trim ((46,L)::(68,K)::(67,J)::(66,I)::(65,H)::(64,G)::(63,F)::(62,E)::(61,D)::(60,C)::(59,B)::(58,A)::(57,z)::(56,y)::(55,x)::(54,w)::(53,v)::(52,u)::(51,t)::(50,s)::(49,r)::(48,q)::(47,p)::l) l = lc_checkX_ok a b c d e f g h i j k L n o := by intros; rfl
           refine R_nil (tr ..) ?_; clear tr
           refine then_n ?_
           refine cdd (fun h11 => ?_) (fun h11 => ?_)
           ·
            try simp only [decide_eq_true_eq, decide_eq_false_iff_not, decide_eq_decide, Bool.not_eq_true', Bool.not_eq_false', beq_iff_eq, beq_eq_false_iff_ne, ne_eq, Bool.and_eq_true, Bool.and_eq_false_iff, decide_not] at h11
            refine at_seq rfl ?_
            refine rg rfl ?_
            refine Rq ?_
            have tr : ∀ a b c d e f g h i j k m n o p : AV, let l := lc_checkX_ok a b c d e f g h i j k m n o; trim ((4,p)::l) l = lc_checkX_ok a b p d e f g h i j k m n o := by intros; rfl
            refine R_nil (tr ..) ?_; clear tr
            refine then_n ?_
            refine at_ret rfl ?_
            refine blk_r ?_
            refine blk_r ?_
            refine then_r ?_
            refine then_r ?_
            refine blk_r ?_
            refine then_r ?_
            first | (refine fpure ?_; refine ⟨?_, rfl⟩; rw [chS_a (by omega)]; done) | (refine fpure ?_; refine ⟨?_, rfl⟩; rw [chS_b (by omega) (by omega)]; done) | (refine fpure ?_; refine ⟨?_, rfl⟩; rw [chS_c (u := i) (by omega) (by omega) (by omega) hf (e := 1) (plE_1 (by omega)) (by decide)]; done) | (refine fpure ?_; refine ⟨?_, rfl⟩; rw [chS_c (u := i) (by omega) (by omega) (by omega) hf (e := 2) (plE_2 (by omega) (by omega)) (by decide)]; done) | (refine fpure ?_; refine ⟨?_, rfl⟩; rw [chS_c (u := i) (by omega) (by omega) (by omega) hf (e := 3) (plE_3 (by omega) (by omega) (by omega)) (by decide)]; done) | (refine fpure ?_; refine ⟨?_, rfl⟩; rw [chS_c (u := i) (by omega) (by omega) (by omega) hf (e := 11) (plE_4 (by omega) (by omega) (by omega) ⟨by assumption, by omega⟩) (by decide)]; done) | (refine fpure ?_; refine ⟨?_, rfl⟩; rw [chS_d (by omega) (by omega) (by rw [← show i = l.length by omega]; exact hf)]; done)
           ·
            try simp only [decide_eq_true_eq, decide_eq_false_iff_not, decide_eq_decide, Bool.not_eq_true', Bool.not_eq_false', beq_iff_eq, beq_eq_false_iff_ne, ne_eq, Bool.and_eq_true, Bool.and_eq_false_iff, decide_not] at h11
            refine at_seq rfl ?_
            refine rg rfl ?_
            refine Rq ?_
            refine R_q rfl (by simp (disch := first | omega | (simp only [List.length_map, List.length_append, List.length_set, List.length_cons, List.length_nil]; omega)) only [go_sem, ↓reduceIte, Nat.reduceEqDiff, reduceCtorEq, hb] <;> rfl) ?_
            refine Rcall ?_
            refine ACall_eq (within_ok _ _ _ _) ?_
            refine Rq ?_
            refine Rq ?_
            have tr : ∀ a b c d e f g h i j k m n o p q r s t : AV, let l := lc_checkX_ok a b c d e f g h i j k m n o; trim ((69,t)::(73,s)::(72,r)::(71,q)::(70,p)::l) l = lc_checkX_ok a b c d e f g h i j k m t o := by intros; rfl
            refine R_nil (tr ..) ?_; clear tr
            refine then_n ?_
            refine cdd (fun h12 => ?_) (fun h12 => ?_)
            ·
             try simp only [decide_eq_true_eq, decide_eq_false_iff_not, decide_eq_decide, Bool.not_eq_true', Bool.not_eq_false', beq_iff_eq, beq_eq_false_iff_ne, ne_eq, Bool.and_eq_true, Bool.and_eq_false_iff, decide_not] at h12
             refine at_seq rfl ?_
             refine rg rfl ?_
             refine Rq ?_
             have tr : ∀ a b c d e f g h i j k m n o p : AV, let l := lc_checkX_ok a b c d e f g h i j k m n o; trim ((4,p)::l) l = lc_checkX_ok a b p d e f g h i j k m n o := by intros; rfl
             refine R_nil (tr ..) ?_; clear tr
             refine then_n ?_
             refine at_ret rfl ?_
             refine blk_r ?_
             refine blk_r ?_
             refine then_r ?_
             refine then_r ?_
             refine blk_r ?_
             refine then_r ?_
             first | (refine fpure ?_; refine ⟨?_, rfl⟩; rw [chS_a (by omega)]; done) | (refine fpure ?_; refine ⟨?_, rfl⟩; rw [chS_b (by omega) (by omega)]; done) | (refine fpure ?_; refine ⟨?_, rfl⟩; rw [chS_c (u := i) (by omega) (by omega) (by omega) hf (e := 1) (plE_1 (by omega)) (by decide)]; done) | (refine fpure ?_; refine ⟨?_, rfl⟩; rw [chS_c (u := i) (by omega) (by omega) (by omega) hf (e := 2) (plE_2 (by omega) (by omega)) (by decide)]; done) | (refine fpure ?_; refine ⟨?_, rfl⟩; rw [chS_c (u := i) (by omega) (by omega) (by omega) hf (e := 3) (plE_3 (by omega) (by omega) (by omega)) (by decide)]; done) | (refine fpure ?_; refine ⟨?_, rfl⟩; rw [chS_c (u := i) (by omega) (by omega) (by omega) hf (e := 11) (plE_4 (by omega) (by omega) (by omega) ⟨by assumption, by omega⟩) (by decide)]; done) | (refine fpure ?_; refine ⟨?_, rfl⟩; rw [chS_d (by omega) (by omega) (by rw [← show i = l.length by omega]; exact hf)]; done)
            ·
             try simp only [decide_eq_true_eq, decide_eq_false_iff_not, decide_eq_decide, Bool.not_eq_true', Bool.not_eq_false', beq_iff_eq, beq_eq_false_iff_ne, ne_eq, Bool.and_eq_true, Bool.and_eq_false_iff, decide_not] at h12
             refine at_seq rfl ?_
             refine rg rfl ?_
             refine Rq ?_
             refine R_q rfl (by simp (disch := first | omega | (simp only [List.length_map, List.length_append, List.length_set, List.length_cons, List.length_nil]; omega)) only [go_sem, ↓reduceIte, Nat.reduceEqDiff, reduceCtorEq, hb] <;> rfl) ?_
             refine Rq ?_
             refine Rp_split (fun h13 => ?_) (fun h13 => ?_)
             ·
              try simp only [decide_eq_true_eq, decide_eq_false_iff_not, decide_eq_decide, Bool.not_eq_true', Bool.not_eq_false', beq_iff_eq, beq_eq_false_iff_ne, ne_eq, Bool.and_eq_true, Bool.and_eq_false_iff, decide_not] at h13
              refine Ry ?_
              refine Rq ?_
              refine Ry ?_
              refine R_q rfl (by simp (disch := first | omega | (simp only [List.length_map, List.length_append, List.length_set, List.length_cons, List.length_nil]; omega)) only [go_sem, ↓reduceIte, Nat.reduceEqDiff, reduceCtorEq, hb] <;> rfl) ?_
              refine Ry ?_
              refine Rq ?_
              refine Ry ?_
              refine Rq ?_
              refine Rp_split (fun h14 => ?_) (fun h14 => ?_)
              ·
               try simp only [decide_eq_true_eq, decide_eq_false_iff_not, decide_eq_decide, Bool.not_eq_true', Bool.not_eq_false', beq_iff_eq, beq_eq_false_iff_ne, ne_eq, Bool.and_eq_true, Bool.and_eq_false_iff, decide_not] at h14
               refine Rn ?_
               refine Rn ?_
               refine Rn ?_
               refine Ry ?_
               refine Rq ?_
               refine Ry ?_
               refine Rq ?_
               refine Rn ?_
               refine Rn ?_
               refine Rn ?_
               refine Ry ?_
               refine Rq ?_
               refine Ry ?_
               refine Rq ?_
               refine Rn ?_
               refine Rn ?_
               refine Rn ?_
               refine Ry ?_
               refine Rq ?_
               refine Ry ?_
               refine Rq ?_
               refine Rn ?_
               refine Rn ?_
               refine Rn ?_
               refine Ry ?_
               refine Rq ?_
               refine Rq ?_
               refine Rq ?_
               have tr : ∀ a b c d e f g h i j k m n o p q r s t u v w x y z A B C D E F G H I J K L M N O P Q : AV, let l := lc_checkX_ok a b c d e f g h i j k m n o; trim ((74,Q)::(101,P)::(100,O)::(99,N)::(98,M)::(97,L)::(96,K)::(95,J)::(94,I)::(93,H)::(92,G)::(91,F)::(90,E)::(89,D)::(88,C)::(87,B)::(86,A)::(85,z)::(84,y)::(83,x)::(82,w)::(81,v)::(80,u)::(79,t)::(78,s)::(77,r)::(76,q)::(75,p)::l) l = lc_checkX_ok a b c d e f g h i j k m n Q := by intros; rfl
               refine R_nil (tr ..) ?_; clear tr
               refine then_n ?_
               refine cdt ?_
               refine at_seq rfl ?_
               refine rg rfl ?_
               refine Rq ?_
               have tr : ∀ a b c d e f g h i j k m n o p : AV, let l := lc_checkX_ok a b c d e f g h i j k m n o; trim ((4,p)::l) l = lc_checkX_ok a b p d e f g h i j k m n o := by intros; rfl
               refine R_nil (tr ..) ?_; clear tr
               refine then_n ?_
               refine at_ret rfl ?_
               refine blk_r ?_
               refine blk_r ?_
               refine then_r ?_
               refine then_r ?_
               refine blk_r ?_
               refine then_r ?_
               first | (refine fpure ?_; refine ⟨?_, rfl⟩; rw [chS_a (by omega)]; done) | (refine fpure ?_; refine ⟨?_, rfl⟩; rw [chS_b (by omega) (by omega)]; done) | (refine fpure ?_; refine ⟨?_, rfl⟩; rw [chS_c (u := i) (by omega) (by omega) (by omega) hf (e := 1) (plE_1 (by omega)) (by decide)]; done) | (refine fpure ?_; refine ⟨?_, rfl⟩; rw [chS_c (u := i) (by omega) (by omega) (by omega) hf (e := 2) (plE_2 (by omega) (by omega)) (by decide)]; done) | (refine fpure ?_; refine ⟨?_, rfl⟩; rw [chS_c (u := i) (by omega) (by omega) (by omega) hf (e := 3) (plE_3 (by omega) (by omega) (by omega)) (by decide)]; done) | (refine fpure ?_; refine ⟨?_, rfl⟩; rw [chS_c (u := i) (by omega) (by omega) (by omega) hf (e := 11) (plE_4 (by omega) (by omega) (by omega) ⟨by assumption, by omega⟩) (by decide)]; done) | (refine fpure ?_; refine ⟨?_, rfl⟩; rw [chS_d (by omega) (by omega) (by rw [← show i = l.length by omega]; exact hf)]; done)
              ·
               try simp only [decide_eq_true_eq, decide_eq_false_iff_not, decide_eq_decide, Bool.not_eq_true', Bool.not_eq_false', beq_iff_eq, beq_eq_false_iff_ne, ne_eq, Bool.and_eq_true, Bool.and_eq_false_iff, decide_not] at h14
               refine Ry ?_
               refine Rq ?_
               refine Ry ?_
               refine R_q rfl (by simp (disch := first | omega | (simp only [List.length_map, List.length_append, List.length_set, List.length_cons, List.length_nil]; omega)) only [go_sem, ↓reduceIte, Nat.reduceEqDiff, reduceCtorEq, hb] <;> rfl) ?_
               refine Ry ?_
               refine Rq ?_
               refine Ry ?_
               refine Rq ?_
               refine Ry ?_
               refine Rq ?_
               refine Rp_split (fun h15 => ?_) (fun h15 => ?_)
               ·
                try simp only [decide_eq_true_eq, decide_eq_false_iff_not, decide_eq_decide, Bool.not_eq_true', Bool.not_eq_false', beq_iff_eq, beq_eq_false_iff_ne, ne_eq, Bool.and_eq_true, Bool.and_eq_false_iff, decide_not] at h15
                refine Rn ?_
                refine Rn ?_
                refine Rn ?_
                refine Ry ?_
                refine Rq ?_
                refine Ry ?_
                refine Rq ?_
                refine Rn ?_
                refine Rn ?_
                refine Rn ?_
                refine Ry ?_
                refine Rq ?_
                refine Ry ?_
                refine Rq ?_
                refine Rn ?_
                refine Rn ?_
                refine Rn ?_
                refine Ry ?_
                refine Rq ?_
                refine Rq ?_
                refine Rq ?_
                have tr : ∀ a b c d e f g h i j k m n o p q r s t u v w x y z A B C D E F G H I J K L M N O P Q : AV, let l := lc_checkX_ok a b c d e f g h i j k m n o; trim ((74,Q)::(101,P)::(100,O)::(99,N)::(98,M)::(97,L)::(96,K)::(95,J)::(94,I)::(93,H)::(92,G)::(91,F)::(90,E)::(89,D)::(88,C)::(87,B)::(86,A)::(85,z)::(84,y)::(83,x)::(82,w)::(81,v)::(80,u)::(79,t)::(78,s)::(77,r)::(76,q)::(75,p)::l) l = lc_checkX_ok a b c d e f g h i j k m n Q := by intros; rfl
                refine R_nil (tr ..) ?_; clear tr
                refine then_n ?_
                refine cdt ?_
                refine at_seq rfl ?_
                refine rg rfl ?_
                refine Rq ?_
                have tr : ∀ a b c d e f g h i j k m n o p : AV, let l := lc_checkX_ok a b c d e f g h i j k m n o; trim ((4,p)::l) l = lc_checkX_ok a b p d e f g h i j k m n o := by intros; rfl
                refine R_nil (tr ..) ?_; clear tr
                refine then_n ?_
                refine at_ret rfl ?_
                refine blk_r ?_
                refine blk_r ?_
                refine then_r ?_
                refine then_r ?_
                refine blk_r ?_
                refine then_r ?_
                first | (refine fpure ?_; refine ⟨?_, rfl⟩; rw [chS_a (by omega)]; done) | (refine fpure ?_; refine ⟨?_, rfl⟩; rw [chS_b (by omega) (by omega)]; done) | (refine fpure ?_; refine ⟨?_, rfl⟩; rw [chS_c (u := i) (by omega) (by omega) (by omega) hf (e := 1) (plE_1 (by omega)) (by decide)]; done) | (refine fpure ?_; refine ⟨?_, rfl⟩; rw [chS_c (u := i) (by omega) (by omega) (by omega) hf (e := 2) (plE_2 (by omega) (by omega)) (by decide)]; done) | (refine fpure ?_; refine ⟨?_, rfl⟩; rw [chS_c (u := i) (by omega) (by omega) (by omega) hf (e := 3) (plE_3 (by omega) (by omega) (by omega)) (by decide)]; done) | (refine fpure ?_; refine ⟨?_, rfl⟩; rw [chS_c (u := i) (by omega) (by omega) (by omega) hf (e := 11) (plE_4 (by omega) (by omega) (by omega) ⟨by assumption, by omega⟩) (by decide)]; done) | (refine fpure ?_; refine ⟨?_, rfl⟩; rw [chS_d (by omega) (by omega) (by rw [← show i = l.length by omega]; exact hf)]; done)
               ·
                try simp only [decide_eq_true_eq, decide_eq_false_iff_not, decide_eq_decide, Bool.not_eq_true', Bool.not_eq_false', beq_iff_eq, beq_eq_false_iff_ne, ne_eq, Bool.and_eq_true, Bool.and_eq_false_iff, decide_not] at h15
                refine Ry ?_
                refine Rq ?_
                refine Ry ?_
                refine R_q rfl (by simp (disch := first | omega | (simp only [List.length_map, List.length_append, List.length_set, List.length_cons, List.length_nil]; omega)) only [go_sem, ↓reduceIte, Nat.reduceEqDiff, reduceCtorEq, hb] <;> rfl) ?_
                refine Ry ?_
                refine Rq ?_
                refine Ry ?_
                refine Rq ?_
                refine Ry ?_
                refine Rq ?_
                refine Rp_split (fun h16 => ?_) (fun h16 => ?_)
                ·
                 try simp only [decide_eq_true_eq, decide_eq_false_iff_not, decide_eq_decide, Bool.not_eq_true', Bool.not_eq_false', beq_iff_eq, beq_eq_false_iff_ne, ne_eq, Bool.and_eq_true, Bool.and_eq_false_iff, decide_not] at h16
                 refine Rn ?_
                 refine Rn ?_
                 refine Rn ?_
                 refine Ry ?_
                 refine Rq ?_
                 refine Ry ?_
                 refine Rq ?_
                 refine Rn ?_
                 refine Rn ?_
                 refine Rn ?_
                 refine Ry ?_
                 refine Rq ?_
                 refine Rq ?_
                 refine Rq ?_
                 have tr : ∀ a b c d e f g h i j k m n o p q r s t u v w x y z A B C D E F G H I J K L M N O P Q : AV, let l := lc_checkX_ok a b c d e f g h i j k m n o; trim ((74,Q)::(101,P)::(100,O)::(99,N)::(98,M)::(97,L)::(96,K)::(95,J)::(94,I)::(93,H)::(92,G)::(91,F)::(90,E)::(89,D)::(88,C)::(87,B)::(86,A)::(85,z)::(84,y)::(83,x)::(82,w)::(81,v)::(80,u)::(79,t)::(78,s)::(77,r)::(76,q)::(75,p)::l) l = lc_checkX_ok a b c d e f g h i j k m n Q := by intros; rfl
                 refine R_nil (tr ..) ?_; clear tr
                 refine then_n ?_
                 refine cdt ?_
                 refine at_seq rfl ?_
                 refine rg rfl ?_
                 refine Rq ?_
                 have tr : ∀ a b c d e f g h i j k m n o p : AV, let l := lc_checkX_ok a b c d e f g h i j k m n o; trim ((4,p)::l) l = lc_checkX_ok a b p d e f g h i j k m n o := by intros; rfl
                 refine R_nil (tr ..) ?_; clear tr
                 refine then_n ?_
                 refine at_ret rfl ?_
                 refine blk_r ?_
                 refine blk_r ?_
                 refine then_r ?_
                 refine then_r ?_
                 refine blk_r ?_
                 refine then_r ?_
                 first | (refine fpure ?_; refine ⟨?_, rfl⟩; rw [chS_a (by omega)]; done) | (refine fpure ?_; refine ⟨?_, rfl⟩; rw [chS_b (by omega) (by omega)]; done) | (refine fpure ?_; refine ⟨?_, rfl⟩; rw [chS_c (u := i) (by omega) (by omega) (by omega) hf (e := 1) (plE_1 (by omega)) (by decide)]; done) | (refine fpure ?_; refine ⟨?_, rfl⟩; rw [chS_c (u := i) (by omega) (by omega) (by omega) hf (e := 2) (plE_2 (by omega) (by omega)) (by decide)]; done) | (refine fpure ?_; refine ⟨?_, rfl⟩; rw [chS_c (u := i) (by omega) (by omega) (by omega) hf (e := 3) (plE_3 (by omega) (by omega) (by omega)) (by decide)]; done) | (refine fpure ?_; refine ⟨?_, rfl⟩; rw [chS_c (u := i) (by omega) (by omega) (by omega) hf (e := 11) (plE_4 (by omega) (by omega) (by omega) ⟨by assumption, by omega⟩) (by decide)]; done) | (refine fpure ?_; refine ⟨?_, rfl⟩; rw [chS_d (by omega) (by omega) (by rw [← show i = l.length by omega]; exact hf)]; done)
                ·
                 try simp only [decide_eq_true_eq, decide_eq_false_iff_not, decide_eq_decide, Bool.not_eq_true', Bool.not_eq_false', beq_iff_eq, beq_eq_false_iff_ne, ne_eq, Bool.and_eq_true, Bool.and_eq_false_iff, decide_not] at h16
                 refine Ry ?_
                 refine Rq ?_
                 refine Ry ?_
                 refine R_q rfl (by simp (disch := first | omega | (simp only [List.length_map, List.length_append, List.length_set, List.length_cons, List.length_nil]; omega)) only [go_sem, ↓reduceIte, Nat.reduceEqDiff, reduceCtorEq, hb] <;> rfl) ?_
                 refine Ry ?_
                 refine Rq ?_
                 refine Ry ?_
                 refine Rq ?_
                 refine Ry ?_
                 refine Rq ?_
                 refine Rp_split (fun h17 => ?_) (fun h17 => ?_)
                 ·
                  try simp only [decide_eq_true_eq, decide_eq_false_iff_not, decide_eq_decide, Bool.not_eq_true', Bool.not_eq_false', beq_iff_eq, beq_eq_false_iff_ne, ne_eq, Bool.and_eq_true, Bool.and_eq_false_iff, decide_not] at h17
                  refine Rn ?_
                  refine Rn ?_
                  refine Rn ?_
                  refine Ry ?_
                  refine Rq ?_
                  refine Rq ?_
                  refine Rq ?_
                  have tr : ∀ a b c d e f g h i j k m n o p q r s t u v w x y z A B C D E F G H I J K L M N O P Q : AV, let l := lc_checkX_ok a b c d e f g h i j k m n o; trim ((74,Q)::(101,P)::(100,O)::(99,N)::(98,M)::(97,L)::(96,K)::(95,J)::(94,I)::(93,H)::(92,G)::(91,F)::(90,E)::(89,D)::(88,C)::(87,B)::(86,A)::(85,z)::(84,y)::(83,x)::(82,w)::(81,v)::(80,u)::(79,t)::(78,s)::(77,r)::(76,q)::(75,p)::l) l = lc_checkX_ok a b c d e f g h i j k m n Q := by intros; rfl
                  refine R_nil (tr ..) ?_; clear tr
                  refine then_n ?_
                  refine cdt ?_
                  refine at_seq rfl ?_
                  refine rg rfl ?_
                  refine Rq ?_
                  have tr : ∀ a b c d e f g h i j k m n o p : AV, let l := lc_checkX_ok a b c d e f g h i j k m n o; trim ((4,p)::l) l = lc_checkX_ok a b p d e f g h i j k m n o := by intros; rfl
                  refine R_nil (tr ..) ?_; clear tr
                  refine then_n ?_
                  refine at_ret rfl ?_
                  refine blk_r ?_
                  refine blk_r ?_
                  refine then_r ?_
                  refine then_r ?_
                  refine blk_r ?_
                  refine then_r ?_
                  first | (refine fpure ?_; refine ⟨?_, rfl⟩; rw [chS_a (by omega)]; done) | (refine fpure ?_; refine ⟨?_, rfl⟩; rw [chS_b (by omega) (by omega)]; done) | (refine fpure ?_; refine ⟨?_, rfl⟩; rw [chS_c (u := i) (by omega) (by omega) (by omega) hf (e := 1) (plE_1 (by omega)) (by decide)]; done) | (refine fpure ?_; refine ⟨?_, rfl⟩; rw [chS_c (u := i) (by omega) (by omega) (by omega) hf (e := 2) (plE_2 (by omega) (by omega)) (by decide)]; done) | (refine fpure ?_; refine ⟨?_, rfl⟩; rw [chS_c (u := i) (by omega) (by omega) (by omega) hf (e := 3) (plE_3 (by omega) (by omega) (by omega)) (by decide)]; done) | (refine fpure ?_; refine ⟨?_, rfl⟩; rw [chS_c (u := i) (by omega) (by omega) (by omega) hf (e := 11) (plE_4 (by omega) (by omega) (by omega) ⟨by assumption, by omega⟩) (by decide)]; done) | (refine fpure ?_; refine ⟨?_, rfl⟩; rw [chS_d (by omega) (by omega) (by rw [← show i = l.length by omega]; exact hf)]; done)
                 ·
                  try simp only [decide_eq_true_eq, decide_eq_false_iff_not, decide_eq_decide, Bool.not_eq_true', Bool.not_eq_false', beq_iff_eq, beq_eq_false_iff_ne, ne_eq, Bool.and_eq_true, Bool.and_eq_false_iff, decide_not] at h17
                  refine Ry ?_
                  refine Rq ?_
                  refine Ry ?_
                  refine R_q rfl (by simp (disch := first | omega | (simp only [List.length_map, List.length_append, List.length_set, List.length_cons, List.length_nil]; omega)) only [go_sem, ↓reduceIte, Nat.reduceEqDiff, reduceCtorEq, hb] <;> rfl) ?_
                  refine Ry ?_
                  refine Rq ?_
                  refine Ry ?_
                  refine Rq ?_
                  refine Rq ?_
                  refine Rq ?_
                  have tr : ∀ a b c d e f g h i j k m n o p q r s t u v w x y z A B C D E F G H I J K L M N O P Q : AV, let l := lc_checkX_ok a b c d e f g h i j k m n o; trim ((74,Q)::(101,P)::(100,O)::(99,N)::(98,M)::(97,L)::(96,K)::(95,J)::(94,I)::(93,H)::(92,G)::(91,F)::(90,E)::(89,D)::(88,C)::(87,B)::(86,A)::(85,z)::(84,y)::(83,x)::(82,w)::(81,v)::(80,u)::(79,t)::(78,s)::(77,r)::(76,q)::(75,p)::l) l = lc_checkX_ok a b c d e f g h i j k m n Q := by intros; rfl
                  refine R_nil (tr ..) ?_; clear tr
                  refine then_n ?_
                  refine cdd (fun h18 => ?_) (fun h18 => ?_)
                  ·
                   try simp only [decide_eq_true_eq, decide_eq_false_iff_not, decide_eq_decide, Bool.not_eq_true', Bool.not_eq_false', beq_iff_eq, beq_eq_false_iff_ne, ne_eq, Bool.and_eq_true, Bool.and_eq_false_iff, decide_not] at h18
                   refine at_seq rfl ?_
                   refine rg rfl ?_
                   refine Rq ?_
                   have tr : ∀ a b c d e f g h i j k m n o p : AV, let l := lc_checkX_ok a b c d e f g h i j k m n o; trim ((4,p)::l) l = lc_checkX_ok a b p d e f g h i j k m n o := by intros; rfl
                   refine R_nil (tr ..) ?_; clear tr
                   refine then_n ?_
                   refine at_ret rfl ?_
                   refine blk_r ?_
                   refine blk_r ?_
                   refine then_r ?_
                   refine then_r ?_
                   refine blk_r ?_
                   refine then_r ?_
                   first | (refine fpure ?_; refine ⟨?_, rfl⟩; rw [chS_a (by omega)]; done) | (refine fpure ?_; refine ⟨?_, rfl⟩; rw [chS_b (by omega) (by omega)]; done) | (refine fpure ?_; refine ⟨?_, rfl⟩; rw [chS_c (u := i) (by omega) (by omega) (by omega) hf (e := 1) (plE_1 (by omega)) (by decide)]; done) | (refine fpure ?_; refine ⟨?_, rfl⟩; rw [chS_c (u := i) (by omega) (by omega) (by omega) hf (e := 2) (plE_2 (by omega) (by omega)) (by decide)]; done) | (refine fpure ?_; refine ⟨?_, rfl⟩; rw [chS_c (u := i) (by omega) (by omega) (by omega) hf (e := 3) (plE_3 (by omega) (by omega) (by omega)) (by decide)]; done) | (refine fpure ?_; refine ⟨?_, rfl⟩; rw [chS_c (u := i) (by omega) (by omega) (by omega) hf (e := 11) (plE_4 (by omega) (by omega) (by omega) ⟨by assumption, by omega⟩) (by decide)]; done) | (refine fpure ?_; refine ⟨?_, rfl⟩; rw [chS_d (by omega) (by omega) (by rw [← show i = l.length by omega]; exact hf)]; done)
                  ·
                   try simp only [decide_eq_true_eq, decide_eq_false_iff_not, decide_eq_decide, Bool.not_eq_true', Bool.not_eq_false', beq_iff_eq, beq_eq_false_iff_ne, ne_eq, Bool.and_eq_true, Bool.and_eq_false_iff, decide_not] at h18
                   refine at_skip rfl ?_
                   refine blk_n ?_
                   refine blk_n ?_
                   refine then_n ?_
                   refine rg rfl ?_
                   refine Rq ?_
                   refine Rq ?_
                   have tr : ∀ a b c d e f g h i j k m n o p q : AV, let l := lc_checkX_ok a b c d e f g h i j k m n o; trim ((20,q)::(102,p)::l) l = lc_checkX_ok a b c d e f g h q j k m n o := by intros; rfl
                   refine R_nil (tr ..) ?_; clear tr
                   refine then_n ?_
                   exact ⟨_, _, ⟨i + 1, X ++ [some (plC (gp l i))], _, _, _, _, _, _, _, rfl, rfl, by (simp; rfl), by omega, by (exact ferr_ok hf (plE_0 (by omega) (by omega) (by omega) (fun hh => by have hh1 := hh.1; have hh2 := hh.2; first | omega | (simp_all; done) | (simp_all; omega))))⟩, by rfl, by omega⟩
             ·
              try simp only [decide_eq_true_eq, decide_eq_false_iff_not, decide_eq_decide, Bool.not_eq_true', Bool.not_eq_false', beq_iff_eq, beq_eq_false_iff_ne, ne_eq, Bool.and_eq_true, Bool.and_eq_false_iff, decide_not] at h13
              refine Rn ?_
              refine Rn ?_
              refine Rn ?_
              refine Rn ?_
              refine Ru ?_
              refine Ru ?_
              refine Ru ?_
              refine Rn ?_
              refine Rn ?_
              refine Ru ?_
              refine Ru ?_
              refine Ru ?_
              refine Rn ?_
              refine Rn ?_
              refine Ru ?_
              refine Ru ?_
              refine Ru ?_
              refine Rn ?_
              refine Rn ?_
              refine Ru ?_
              refine Ru ?_
              refine Ru ?_
              refine Rn ?_
              refine Rq ?_
              refine Rq ?_
              have tr : ∀ a b c d e f g h i j k m n o p q r s t u v w x y z A B C D E F G H I J K L M N O P Q : AV, let l := lc_checkX_ok a b c d e f g h i j k m n o; trim ((74,Q)::(101,P)::(100,O)::(99,N)::(98,M)::(97,L)::(96,K)::(95,J)::(94,I)::(93,H)::(92,G)::(91,F)::(90,E)::(89,D)::(88,C)::(87,B)::(86,A)::(85,z)::(84,y)::(83,x)::(82,w)::(81,v)::(80,u)::(79,t)::(78,s)::(77,r)::(76,q)::(75,p)::l) l = lc_checkX_ok a b c d e f g h i j k m n Q := by intros; rfl
              refine R_nil (tr ..) ?_; clear tr
              refine then_n ?_
              refine cdf ?_
              refine at_skip rfl ?_
              refine blk_n ?_
              refine blk_n ?_
              refine then_n ?_
              refine rg rfl ?_
              refine Rq ?_
              refine Rq ?_
              have tr : ∀ a b c d e f g h i j k m n o p q : AV, let l := lc_checkX_ok a b c d e f g h i j k m n o; trim ((20,q)::(102,p)::l) l = lc_checkX_ok a b c d e f g h q j k m n o := by intros; rfl
              refine R_nil (tr ..) ?_; clear tr
              refine then_n ?_
              exact ⟨_, _, ⟨i + 1, X ++ [some (plC (gp l i))], _, _, _, _, _, _, _, rfl, rfl, by (simp; rfl), by omega, by (exact ferr_ok hf (plE_0 (by omega) (by omega) (by omega) (fun hh => by have hh1 := hh.1; have hh2 := hh.2; first | omega | (simp_all; done) | (simp_all; omega))))⟩, by rfl, by omega⟩
    ·
     try simp only [decide_eq_true_eq, decide_eq_false_iff_not, decide_eq_decide, Bool.not_eq_true', Bool.not_eq_false', beq_iff_eq, beq_eq_false_iff_ne, ne_eq, Bool.and_eq_true, Bool.and_eq_false_iff, decide_not] at h4
     refine at_exit rfl ?_
     refine then_x ?_
     refine then_x ?_
     refine blk_x ?_
     refine then_n ?_
     refine at_seq rfl ?_
     refine rg rfl ?_
     refine Rq ?_
     have tr : ∀ a b c d e f g h i j k m n o p : AV, let l := lc_checkX_ok a b c d e f g h i j k m n o; trim ((4,p)::l) l = lc_checkX_ok a b p d e f g h i j k m n o := by intros; rfl
     refine R_nil (tr ..) ?_; clear tr
     refine then_n ?_
     refine at_ret rfl ?_
     first | (refine fpure ?_; refine ⟨?_, rfl⟩; rw [chS_a (by omega)]; done) | (refine fpure ?_; refine ⟨?_, rfl⟩; rw [chS_b (by omega) (by omega)]; done) | (refine fpure ?_; refine ⟨?_, rfl⟩; rw [chS_c (u := i) (by omega) (by omega) (by omega) hf (e := 1) (plE_1 (by omega)) (by decide)]; done) | (refine fpure ?_; refine ⟨?_, rfl⟩; rw [chS_c (u := i) (by omega) (by omega) (by omega) hf (e := 2) (plE_2 (by omega) (by omega)) (by decide)]; done) | (refine fpure ?_; refine ⟨?_, rfl⟩; rw [chS_c (u := i) (by omega) (by omega) (by omega) hf (e := 3) (plE_3 (by omega) (by omega) (by omega)) (by decide)]; done) | (refine fpure ?_; refine ⟨?_, rfl⟩; rw [chS_c (u := i) (by omega) (by omega) (by omega) hf (e := 11) (plE_4 (by omega) (by omega) (by omega) ⟨by assumption, by omega⟩) (by decide)]; done) | (refine fpure ?_; refine ⟨?_, rfl⟩; rw [chS_d (by omega) (by omega) (by rw [← show i = l.length by omega]; exact hf)]; done)

abbrev lc_tableX_ok (a b c d e f g h i j k m n o p q : AV) : Env := [(0,a),(1,b),(4,c),(5,d),(6,e),(7,f),(8,g),(10,h),(15,i),(20,j),(21,k),(22,m),(30,n),(31,o),(32,p),(33,q)]
theorem tableX_ok (lim : Nat) (H : Heap) (n : Int) (hn : -9223372036854775808 ≤ n ∧ n ≤ 9223372036854775807) (l : List Pl) (x : AV) (hx : SrcP H x l) : ACall sig lim 9 [AV.i n, x] H fun r H' => r = .tup [tbAV (tabS n l), AV.i (chS n l)] ∧ H' = H := by
 have q0 : True := trivial
 have q5 : True := trivial
 refine ACall_pure (fa := fa9) rfl rfl rfl rfl ?_
 have tr : ∀ a0 a1 : AV, env0 fa9.keep [a0, a1] = lc_tableX_ok a0 a1 .any .any .any .any .any .any .any .any .any .any .any .any .any .any := fun a0 a1 => rfl
 refine W_to (tr _ _) ?_; clear tr
 refine at_seq rfl ?_
 refine rg rfl ?_
 refine Rq ?_
 refine Rq ?_
 have tr : ∀ a b c d e f g h i j k m n o p q r s : AV, let l := lc_tableX_ok a b c d e f g h i j k m n o p q; trim ((5,s)::(4,r)::l) l = lc_tableX_ok a b r s e f g h i j k m n o p q := by intros; rfl
 refine R_nil (tr ..) ?_; clear tr
 refine then_n ?_
 refine at_seq rfl ?_
 refine at_seq rfl ?_
 refine rg rfl ?_
 refine Rq ?_
 refine Rq ?_
 refine Rcall ?_
 refine ACall_eq (checkX_ok _ _ n hn l x hx) ?_
 refine Rq ?_
 have tr : ∀ a b c d e f g h i j k m n o p q r s t u : AV, let l := lc_tableX_ok a b c d e f g h i j k m n o p q; trim ((6,u)::(13,t)::(12,s)::(11,r)::l) l = lc_tableX_ok a b c d u f g h i j k m n o p q := by intros; rfl
 refine R_nil (tr ..) ?_; clear tr
 refine then_n ?_
 refine at_seq rfl ?_
 refine rg rfl ?_
 refine Rq ?_
 refine Rq ?_
 have tr : ∀ a b c d e f g h i j k m n o p q r s : AV, let l := lc_tableX_ok a b c d e f g h i j k m n o p q; trim ((15,s)::(14,r)::l) l = lc_tableX_ok a b c d e f g h s j k m n o p q := by intros; rfl
 refine R_nil (tr ..) ?_; clear tr
 refine then_n ?_
 refine cdd (fun h1 => ?_) (fun h1 => ?_)
 ·
  try simp only [decide_eq_true_eq, decide_eq_false_iff_not, decide_eq_decide, Bool.not_eq_true', Bool.not_eq_false', beq_iff_eq, beq_eq_false_iff_ne, ne_eq, Bool.and_eq_true, Bool.and_eq_false_iff, decide_not] at h1
  refine at_seq rfl ?_
  refine rg rfl ?_
  refine Rq ?_
  refine Rq ?_
  refine Rq ?_
  have tr : ∀ a b c d e f g h i j k m n o p q r s t : AV, let l := lc_tableX_ok a b c d e f g h i j k m n o p q; trim ((5,t)::(4,s)::(16,r)::l) l = lc_tableX_ok a b s t e f g h i j k m n o p q := by intros; rfl
  refine R_nil (tr ..) ?_; clear tr
  refine then_n ?_
  refine at_ret rfl ?_
  refine then_r ?_
  first | (refine fpure ?_; refine ⟨?_, rfl⟩; rw [tabS_n (by assumption), tbAV_nil] <;> rfl; done) | (refine fin_pure (rs := [.tmp 4, .tmp 5]) rfl (by simp (disch := first | omega | (simp only [List.length_map, List.length_append, List.length_set, List.length_cons, List.length_nil]; omega)) only [go_sem, ↓reduceIte, Nat.reduceEqDiff, reduceCtorEq] <;> rfl) (v := .tup [stsAV (tbS (stds n.toNat l)), AV.i 0]) (by show AV.tup [frz _ _ 7 (.own 10 H.length 0 n.toNat), AV.i 0] = _; rw [frz_ownZ (Nat.lt_irrefl _) q9 (tab_len hc)]) ?_; refine ⟨?_, rfl⟩; rw [tabS_y hc, hc, tbAV_ne (tab_ne hc)])
 ·
  try simp only [decide_eq_true_eq, decide_eq_false_iff_not, decide_eq_decide, Bool.not_eq_true', Bool.not_eq_false', beq_iff_eq, beq_eq_false_iff_ne, ne_eq, Bool.and_eq_true, Bool.and_eq_false_iff, decide_not] at h1
  refine at_skip rfl ?_
  refine then_n ?_
  refine at_seq rfl ?_
  refine rg rfl ?_
  have hc : chS n l = 0 := by first | assumption | omega
  obtain ⟨hn2, hl4, hpl⟩ := chS_z hc
  refine Rq ?_
  refine R_makeSlice (ms27 _ _ n _ _ _ (by omega) (by omega) (by simp (disch := first | omega | (simp only [List.length_map, List.length_append, List.length_set, List.length_cons, List.length_nil]; omega)) only [go_sem, ↓reduceIte, Nat.reduceEqDiff, reduceCtorEq]) (by simp (disch := first | omega | (simp only [List.length_map, List.length_append, List.length_set, List.length_cons, List.length_nil]; omega)) only [go_sem, ↓reduceIte, Nat.reduceEqDiff, reduceCtorEq])) ?_
  refine Rq ?_
  have tr : ∀ a b c d e f g h i j k m n o p q r s t : AV, let l := lc_tableX_ok a b c d e f g h i j k m n o p q; trim ((7,t)::(18,s)::(17,r)::l) l = lc_tableX_ok a b c d e t g h i j k m n o p q := by intros; rfl
  refine R_nil (tr ..) ?_; clear tr
  refine then_n ?_
  refine at_seq rfl ?_
  refine at_seq rfl ?_
  refine rg rfl ?_
  refine Rq ?_
  refine Rq ?_
  refine Rq ?_
  have tr : ∀ a b c d e f g h i j k m n o p q r s t : AV, let l := lc_tableX_ok a b c d e f g h i j k m n o p q; trim ((21,t)::(20,s)::(19,r)::l) l = lc_tableX_ok a b c d e f g h i s t m n o p q := by intros; rfl
  refine R_nil (tr ..) ?_; clear tr
  refine then_n ?_
  refine at_block rfl ?_
  refine loop_n rfl (fun mm kv H' => ∃ i : Nat, ∃ zs : List St, ∃ x8 x22 : AV, (kv = [(8, x8), (21, AV.i (i : Int)), (22, x22)]) ∧ (mm = n.toNat - i) ∧ (H' = H ++ [some (flatZ zs)]) ∧ (i ≤ n.toNat) ∧ (zs.length = n.toNat) ∧ (∀ t, t < n.toNat → gz zs t = if t < i then ⟨t, 0, 0, 0, 0, 0, 0, 0, 0, 0⟩ else z0)) ⟨0, List.replicate n.toNat z0, _, _, rfl, rfl, rfl, by omega, by simp, by exact ini_zero _⟩ (by rfl) ?_
  rintro mm kv H' ⟨i, zs, x8, x22, rfl, rfl, rfl, hi, hz, hg⟩
  have tr : ∀ a b c d e f g h i j k m n o p q r s t : AV, upd (lc_tableX_ok a b c d e f g h i j k m n o p q) [(8,r),(21,s),(22,t)] = lc_tableX_ok a b c d e f r h i j s t n o p q := by intros; rfl
  refine W_to (tr ..) ?_; clear tr
  refine at_seq rfl ?_
  refine rg rfl ?_
  refine Rq ?_
  have tr : ∀ a b c d e f g h i j k m n o p q r : AV, let l := lc_tableX_ok a b c d e f g h i j k m n o p q; trim ((22,r)::l) l = lc_tableX_ok a b c d e f g h i j k r n o p q := by intros; rfl
  refine R_nil (tr ..) ?_; clear tr
  refine then_n ?_
  refine at_seq rfl ?_
  refine cdd (fun h2 => ?_) (fun h2 => ?_)
  ·
   try simp only [decide_eq_true_eq, decide_eq_false_iff_not, decide_eq_decide, Bool.not_eq_true', Bool.not_eq_false', beq_iff_eq, beq_eq_false_iff_ne, ne_eq, Bool.and_eq_true, Bool.and_eq_false_iff, decide_not] at h2
   refine at_skip rfl ?_
   refine then_n ?_
   refine at_seq rfl ?_
   refine at_block rfl ?_
   refine at_seq rfl ?_
   refine rg rfl ?_
   refine Rq ?_
   refine Rq ?_
   have tr : ∀ a b c d e f g h i j k m n o p q r s : AV, let l := lc_tableX_ok a b c d e f g h i j k m n o p q; trim ((8,s)::(23,r)::l) l = lc_tableX_ok a b c d e f s h i j k m n o p q := by intros; rfl
   refine R_nil (tr ..) ?_; clear tr
   refine then_n ?_
   refine rg rfl ?_
   refine Rq ?_
   refine Rq ?_
   refine Rq ?_
   refine Rq ?_
   refine Rq ?_
   refine R_store ty3 (by simp (disch := first | omega | (simp only [List.length_map, List.length_append, List.length_set, List.length_cons, List.length_nil]; omega)) only [go_sem, ↓reduceIte, Nat.reduceEqDiff, reduceCtorEq] <;> rfl) (by simp (disch := first | omega | (simp only [List.length_map, List.length_append, List.length_set, List.length_cons, List.length_nil]; omega)) only [go_sem, ↓reduceIte, Nat.reduceEqDiff, reduceCtorEq] <;> rfl) (k := flatZ zs) (by simp (disch := first | omega | (simp only [List.length_map, List.length_append, List.length_set, List.length_cons, List.length_nil]; omega)) only [go_sem, ↓reduceIte, Nat.reduceEqDiff, reduceCtorEq] <;> rfl) ⟨Nat.le_refl _, rfl, by rw [flatZ_len]; show i * 10 + 1 ≤ _; omega⟩ (k' := flatZ (zs.set i { gz zs i with tm := (i : Int) })) (setz zs i i (by omega)) (by simp (disch := first | omega | (simp only [List.length_map, List.length_append, List.length_set, List.length_cons, List.length_nil]; omega)) only [go_sem, ↓reduceIte, Nat.reduceEqDiff, reduceCtorEq] <;> rfl) ?_
   have tr : ∀ a b c d e f g h i j k m n o p q r s t u v : AV, let l := lc_tableX_ok a b c d e f g h i j k m n o p q; trim ((28,v)::(27,u)::(26,t)::(25,s)::(24,r)::l) l = lc_tableX_ok a b c d e f g h i j k m n o p q := by intros; rfl
   refine R_nil (tr ..) ?_; clear tr
   refine blk_n ?_
   refine then_n ?_
   refine rg rfl ?_
   refine Rq ?_
   refine Rq ?_
   have tr : ∀ a b c d e f g h i j k m n o p q r s : AV, let l := lc_tableX_ok a b c d e f g h i j k m n o p q; trim ((21,s)::(29,r)::l) l = lc_tableX_ok a b c d e f g h i j s m n o p q := by intros; rfl
   refine R_nil (tr ..) ?_; clear tr
   refine then_n ?_
   exact ⟨_, _, ⟨i + 1, zs.set i { gz zs i with tm := (i : Int) }, _, _, rfl, rfl, rfl, by omega, by (rw [List.length_set]; exact hz), by exact ini_step hz (by omega) hg⟩, by rfl, by omega⟩
  ·
   try simp only [decide_eq_true_eq, decide_eq_false_iff_not, decide_eq_decide, Bool.not_eq_true', Bool.not_eq_false', beq_iff_eq, beq_eq_false_iff_ne, ne_eq, Bool.and_eq_true, Bool.and_eq_false_iff, decide_not] at h2
   refine at_exit rfl ?_
   refine then_x ?_
   refine then_x ?_
   refine blk_x ?_
   refine then_n ?_
   refine at_seq rfl ?_
   refine at_seq rfl ?_
   refine rg rfl ?_
   refine Rq ?_
   refine R_q rfl (by simp only [go_sem, ↓reduceIte, Nat.reduceEqDiff]; exact hx.len) ?_
   refine Rq ?_
   have tr : ∀ a b c d e f g h i j k m n o p q r s t : AV, let l := lc_tableX_ok a b c d e f g h i j k m n o p q; trim ((32,t)::(31,s)::(30,r)::l) l = lc_tableX_ok a b c d e f g h i j k m r s t q := by intros; rfl
   refine R_nil (tr ..) ?_; clear tr
   refine then_n ?_
   refine at_block rfl ?_
   refine loop_n rfl (fun mm kv H' => ∃ u : Nat, ∃ x10 x33 : AV, (kv = [(10, x10), (32, AV.i (u : Int)), (33, x33)]) ∧ (mm = l.length - u) ∧ (hget H' H.length = some (flatZ (stds n.toNat (l.take u)))) ∧ (u ≤ l.length) ∧ (∀ b, b < H.length → hget H' b = hget H b)) ⟨0, _, _, rfl, rfl, by (rw [hget_app]; exact congrArg (fun z => some (flatZ z)) (stds_nil _ l hz (fun t ht => by rw [hg t ht, if_pos (by omega)]))), by omega, by exact keep_app⟩ (by rfl) ?_
   rintro mm kv HB ⟨u, x10, x33, rfl, rfl, q0, hu, hold⟩
   have tr : ∀ a b c d e f g h i j k m n o p q r s t : AV, upd (lc_tableX_ok a b c d e f g h i j k m n o p q) [(10,r),(32,s),(33,t)] = lc_tableX_ok a b c d e f g r i j k m n o s t := by intros; rfl
   refine W_to (tr ..) ?_; clear tr
   refine at_seq rfl ?_
   refine rg rfl ?_
   refine Rq ?_
   have tr : ∀ a b c d e f g h i j k m n o p q r : AV, let l := lc_tableX_ok a b c d e f g h i j k m n o p q; trim ((33,r)::l) l = lc_tableX_ok a b c d e f g h i j k m n o p r := by intros; rfl
   refine R_nil (tr ..) ?_; clear tr
   refine then_n ?_
   refine at_seq rfl ?_
   refine cdd (fun h3 => ?_) (fun h3 => ?_)
   ·
    try simp only [decide_eq_true_eq, decide_eq_false_iff_not, decide_eq_decide, Bool.not_eq_true', Bool.not_eq_false', beq_iff_eq, beq_eq_false_iff_ne, ne_eq, Bool.and_eq_true, Bool.and_eq_false_iff, decide_not] at h3
    refine at_skip rfl ?_
    refine then_n ?_
    refine at_seq rfl ?_
    refine at_block rfl ?_
    refine at_seq rfl ?_
    refine rg rfl ?_
    have hul : u < l.length := by omega
    have hpz := hpl u hul
    have hpp := plE_z hpz
    obtain ⟨b, hxe, hb0⟩ := hx.own (i := u) (by omega)
    subst hxe
    have lb := hget_lt hb0
    have hb := (hold b lb).trans hb0
    refine R_q rfl (by simp (disch := first | omega | (simp only [List.length_map, List.length_append, List.length_set, List.length_cons, List.length_nil]; omega)) only [go_sem, ↓reduceIte, Nat.reduceEqDiff, reduceCtorEq] <;> rfl) ?_
    refine R_q (r := .agg (plC (gp l u))) rfl (by simp (disch := first | omega | (simp only [List.length_map, List.length_append, List.length_set, List.length_cons, List.length_nil]; omega)) only [go_sem, ↓reduceIte, Nat.reduceEqDiff, reduceCtorEq, hb] <;> exact ld_pl l u (by omega)) ?_
    have lq0 := hget_lt q0
    refine A_alloc rfl ?_
    intro H5 n5
    have en5 := n5.len
    have q0 := (n5.old _ (hget_lt q0)).trans q0
    have q5 := n5.new
    refine A_store ty46 (by simp (disch := first | omega | (simp only [List.length_map, List.length_append, List.length_set, List.length_cons, List.length_nil]; omega)) only [go_sem, ↓reduceIte, Nat.reduceEqDiff, reduceCtorEq] <;> rfl) (by simp (disch := first | omega | (simp only [List.length_map, List.length_append, List.length_set, List.length_cons, List.length_nil]; omega)) only [go_sem, ↓reduceIte, Nat.reduceEqDiff, reduceCtorEq] <;> rfl) q5 ⟨by omega, rfl, Nat.le_refl 8⟩ (k' := plC (gp l u)) rfl ?_
    intro H6 w6
    have q0 := (w6.old _ (by omega)).trans q0
    have q5 := w6.new
    have e6 := w6.len
    have tr : ∀ a b c d e f g h i j k m n o p q r s t : AV, let l := lc_tableX_ok a b c d e f g h i j k m n o p q; trim ((10,t)::(35,s)::(34,r)::l) l = lc_tableX_ok a b c d e f g t i j k m n o p q := by intros; rfl
    refine R_nil (tr ..) ?_; clear tr
    refine then_n ?_
    refine at_seq rfl ?_
    refine rd rfl rfl ?_
    refine Qq ?_
    refine Qq ?_
    refine Q_q rfl (by simp (disch := first | omega | (simp only [List.length_map, List.length_append, List.length_set, List.length_cons, List.length_nil]; omega)) only [go_sem, ↓reduceIte, Nat.reduceEqDiff, reduceCtorEq, q0, q5] <;> rfl) ?_
    refine Qq ?_
    refine Q_q rfl (by simp (disch := first | omega | (simp only [List.length_map, List.length_append, List.length_set, List.length_cons, List.length_nil]; omega)) only [go_sem, ↓reduceIte, Nat.reduceEqDiff, reduceCtorEq, q0, q5] <;> rfl) ?_
    refine Qq ?_
    refine Q_q rfl (by simp (disch := first | omega | (simp only [List.length_map, List.length_append, List.length_set, List.length_cons, List.length_nil]; omega)) only [go_sem, ↓reduceIte, Nat.reduceEqDiff, reduceCtorEq, q0, q5] <;> rfl) ?_
    refine Qq ?_
    refine Q_q rfl (by simp (disch := first | omega | (simp only [List.length_map, List.length_append, List.length_set, List.length_cons, List.length_nil]; omega)) only [go_sem, ↓reduceIte, Nat.reduceEqDiff, reduceCtorEq, q0, q5] <;> rfl) ?_
    refine Qq ?_
    refine Q_q rfl (by simp (disch := first | omega | (simp only [List.length_map, List.length_append, List.length_set, List.length_cons, List.length_nil]; omega)) only [go_sem, ↓reduceIte, Nat.reduceEqDiff, reduceCtorEq, q0, q5] <;> rfl) ?_
    refine Qq ?_
    refine Q_q rfl (by simp (disch := first | omega | (simp only [List.length_map, List.length_append, List.length_set, List.length_cons, List.length_nil]; omega)) only [go_sem, ↓reduceIte, Nat.reduceEqDiff, reduceCtorEq, q0, q5] <;> rfl) ?_
    refine Q_nil ?_
    refine Rcall ?_
    refine ACall_mono (count2_ok _ _ H.length (stds n.toNat (l.take u)) (gp l u).ho.toNat (by rw [stds_len]; omega) (Nat.le_refl _) q0 u (by omega) (by rw [stds_get (by omega)]; have h9 := stdS_inv hpl (((gp l u).ho.toNat : Nat) : Int) u (by omega); rw [h9.1]; exact h9) (gp l u) (gp l u).hr (gp l u).hb (gp l u).ar (gp l u).ab 1 (by omega) (by omega) (by omega) (by omega) (.inl rfl)) ?_
    rintro _ H7 ⟨rfl, q0, b7⟩
    have q5 := (b7.old _ (by omega) (by omega)).trans q5
    have e7 := b7.len
    have tr : ∀ a b c d e f g h i j k m n o p q r s t u v w x y z A B C D E : AV, let l := lc_tableX_ok a b c d e f g h i j k m n o p q; trim ((49,E)::(48,D)::(47,C)::(46,B)::(45,A)::(44,z)::(43,y)::(42,x)::(41,w)::(40,v)::(39,u)::(38,t)::(37,s)::(36,r)::l) l = lc_tableX_ok a b c d e f g h i j k m n o p q := by intros; rfl
    refine R_nil (tr ..) ?_; clear tr
    refine then_n ?_
    refine rd rfl rfl ?_
    refine Qq ?_
    refine Qq ?_
    refine Q_q rfl (by simp (disch := first | omega | (simp only [List.length_map, List.length_append, List.length_set, List.length_cons, List.length_nil]; omega)) only [go_sem, ↓reduceIte, Nat.reduceEqDiff, reduceCtorEq, q0, q5] <;> rfl) ?_
    refine Qq ?_
    refine Q_q rfl (by simp (disch := first | omega | (simp only [List.length_map, List.length_append, List.length_set, List.length_cons, List.length_nil]; omega)) only [go_sem, ↓reduceIte, Nat.reduceEqDiff, reduceCtorEq, q0, q5] <;> rfl) ?_
    refine Qq ?_
    refine Q_q rfl (by simp (disch := first | omega | (simp only [List.length_map, List.length_append, List.length_set, List.length_cons, List.length_nil]; omega)) only [go_sem, ↓reduceIte, Nat.reduceEqDiff, reduceCtorEq, q0, q5] <;> rfl) ?_
    refine Qq ?_
    refine Q_q rfl (by simp (disch := first | omega | (simp only [List.length_map, List.length_append, List.length_set, List.length_cons, List.length_nil]; omega)) only [go_sem, ↓reduceIte, Nat.reduceEqDiff, reduceCtorEq, q0, q5] <;> rfl) ?_
    refine Qq ?_
    refine Q_q rfl (by simp (disch := first | omega | (simp only [List.length_map, List.length_append, List.length_set, List.length_cons, List.length_nil]; omega)) only [go_sem, ↓reduceIte, Nat.reduceEqDiff, reduceCtorEq, q0, q5] <;> rfl) ?_
    refine Qq ?_
    refine Q_q rfl (by simp (disch := first | omega | (simp only [List.length_map, List.length_append, List.length_set, List.length_cons, List.length_nil]; omega)) only [go_sem, ↓reduceIte, Nat.reduceEqDiff, reduceCtorEq, q0, q5] <;> rfl) ?_
    refine Q_nil ?_
    refine Rcall ?_
    refine ACall_mono (count2_ok _ _ H.length ((stds n.toNat (l.take u)).set (gp l u).ho.toNat (cnS (gz (stds n.toNat (l.take u)) (gp l u).ho.toNat) (gp l u).wi (gp l u).hr (gp l u).hb (gp l u).ar (gp l u).ab 1)) (gp l u).aw.toNat (by rw [List.length_set, stds_len]; omega) (Nat.le_refl _) q0 u (by omega) (by rw [gz_set (by rw [stds_len]; omega), if_neg (by omega), stds_get (by omega)]; have h9 := stdS_inv hpl (((gp l u).aw.toNat : Nat) : Int) u (by omega); rw [h9.1]; exact h9) (gp l u) (gp l u).ar (gp l u).ab (gp l u).hr (gp l u).hb 2 (by omega) (by omega) (by omega) (by omega) (.inr rfl)) ?_
    rintro _ H8 ⟨rfl, q0, b8⟩
    rw [gz_set (by rw [stds_len]; omega), if_neg (by omega), stds_step (by omega) hul hpz] at q0
    have tr : ∀ a b c d e f g h i j k m n o p q r s t u v w x y z A B C D E : AV, let l := lc_tableX_ok a b c d e f g h i j k m n o p q; trim ((63,E)::(62,D)::(61,C)::(60,B)::(59,A)::(58,z)::(57,y)::(56,x)::(55,w)::(54,v)::(53,u)::(52,t)::(51,s)::(50,r)::l) l = lc_tableX_ok a b c d e f g h i j k m n o p q := by intros; rfl
    refine R_nil (tr ..) ?_; clear tr
    refine blk_n ?_
    refine then_n ?_
    refine rg rfl ?_
    refine Rq ?_
    refine Rq ?_
    have tr : ∀ a b c d e f g h i j k m n o p q r s : AV, let l := lc_tableX_ok a b c d e f g h i j k m n o p q; trim ((32,s)::(64,r)::l) l = lc_tableX_ok a b c d e f g h i j k m n o s q := by intros; rfl
    refine R_nil (tr ..) ?_; clear tr
    refine then_n ?_
    exact ⟨_, _, ⟨u + 1, _, _, rfl, rfl, by exact q0, by omega, by (intro c hc9; rw [b8.old c (by omega) (by omega), b7.old c (by omega) (by omega), w6.old c (by omega), n5.old c (by omega)]; exact hold c hc9)⟩, by rfl, by omega⟩
   ·
    try simp only [decide_eq_true_eq, decide_eq_false_iff_not, decide_eq_decide, Bool.not_eq_true', Bool.not_eq_false', beq_iff_eq, beq_eq_false_iff_ne, ne_eq, Bool.and_eq_true, Bool.and_eq_false_iff, decide_not] at h3
    refine at_exit rfl ?_
    refine then_x ?_
    refine then_x ?_
    refine blk_x ?_
    refine then_n ?_
    refine at_seq rfl ?_
    refine rg rfl ?_
    obtain rfl : u = l.length := by omega
    rw [List.take_length] at q0
    refine Rq ?_
    refine Rcall ?_
    refine ACall_eff (p := sortV) rfl rfl rfl (sort_eff (n := n.toNat) q0 (Nat.le_refl _) (by omega) (stds_len _ _) (by omega) (tab_ok hc).1 (tab_ok hc).2) ?_
    have w9 := MWrote.of HB (flatZ (tbS (stds n.toNat l))) (hget_lt q0)
    have q9 := w9.new
    have tr : ∀ a b c d e f g h i j k m n o p q r s : AV, let l := lc_tableX_ok a b c d e f g h i j k m n o p q; trim ((66,s)::(65,r)::l) l = lc_tableX_ok a b c d e f g h i j k m n o p q := by intros; rfl
    refine R_nil (tr ..) ?_; clear tr
    refine then_n ?_
    refine at_seq rfl ?_
    refine rg rfl ?_
    refine Rq ?_
    refine Rq ?_
    refine Rq ?_
    have tr : ∀ a b c d e f g h i j k m n o p q r s t : AV, let l := lc_tableX_ok a b c d e f g h i j k m n o p q; trim ((5,t)::(4,s)::(67,r)::l) l = lc_tableX_ok a b s t e f g h i j k m n o p q := by intros; rfl
    refine R_nil (tr ..) ?_; clear tr
    refine then_n ?_
    refine at_ret rfl ?_
    first | (refine fpure ?_; refine ⟨?_, rfl⟩; rw [tabS_n (by assumption), tbAV_nil] <;> rfl; done) | (refine fin_pure (rs := [.tmp 4, .tmp 5]) rfl (by simp (disch := first | omega | (simp only [List.length_map, List.length_append, List.length_set, List.length_cons, List.length_nil]; omega)) only [go_sem, ↓reduceIte, Nat.reduceEqDiff, reduceCtorEq] <;> rfl) (v := .tup [stsAV (tbS (stds n.toNat l)), AV.i 0]) (by show AV.tup [frz _ _ 7 (.own 10 H.length 0 n.toNat), AV.i 0] = _; rw [frz_ownZ (Nat.lt_irrefl _) q9 (tab_len hc)]) ?_; refine ⟨?_, rfl⟩; rw [tabS_y hc, hc, tbAV_ne (tab_ne hc)])

end Go.Proofs.Ytdmeioppkannlaa
end
