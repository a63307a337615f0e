/-
  Texts of TopSplit, part 12 of 15. Walks of chapters 37, 39 and 40. The steps are written by program (walk.py).
-/
import Derived.Test.YtaoondlakhocnaaKTopSplit9
import Derived.Test.YtaoondlakhocnaaKTopSplit8
import Derived.Test.YtaoondlakhocnaaKTopSplit10
section
set_option linter.unusedSimpArgs false
set_option linter.unusedVariables false
set_option maxHeartbeats 40000000
set_option maxRecDepth 4000
namespace Go.Proofs.Ytaoondlakhocnaa
open Go Go.Am

abbrev lc_clone_ok (a b c : AV) : Env := [(0,a),(2,b),(4,c)]
theorem clone_ok (lim : Nat) (H : Heap) (hlim : lim ≤ H.length) (l : List Stp) (h0 : 0 < l.length) (h1 : l.length ≤ 1000) :
    ACall sig lim 61 [stopsAV l] H fun r H' => ∃ b, r = .own 3 b 0 l.length ∧ H.length ≤ b ∧ hget H' b = some (flatS l) ∧ ∀ c, c < H.length → hget H' c = hget H c := by
 refine ACall_own (fa := fa61) rfl rfl rfl rfl ?_
 have tr : ∀ a0 : AV, env0 fa61.keep [a0] = [(0,a0),(2,.any),(4,.any)] := fun a0 => rfl
 refine W_to (tr _) ?_; clear tr
 refine at_seq rfl ?_
 refine rg rfl ?_
 refine Rq ?_
 have tr : ∀ a b c d : AV, let l := lc_clone_ok a b c; trim ((2,d)::l) l = [(0,a),(2,d),(4,c)] := by intros; rfl
 refine R_nil (tr ..) ?_; clear tr
 refine then_n ?_
 refine at_seq rfl ?_
 refine at_seq rfl ?_
 refine rg rfl ?_
 refine Rq ?_
 refine R_q rfl (nil25 _ _ h0) ?_
 have tr : ∀ a b c d e : AV, let l := lc_clone_ok a b c; trim ((4,e)::(3,d)::l) l = [(0,a),(2,b),(4,e)] := by intros; rfl
 refine R_nil (tr ..) ?_; clear tr
 refine then_n ?_
 refine cdd (fun h1 => ?_) (fun h1 => ?_)
 ·
  try simp only [decide_eq_true_eq, decide_eq_false_iff_not, Bool.not_eq_true', Bool.not_eq_false', beq_iff_eq, beq_eq_false_iff_ne, ne_eq] at h1
  cases h1
 ·
  try simp only [decide_eq_true_eq, decide_eq_false_iff_not, Bool.not_eq_true', Bool.not_eq_false', beq_iff_eq, beq_eq_false_iff_ne, ne_eq] at h1
  refine at_skip rfl ?_
  refine then_n ?_
  refine at_seq rfl ?_
  refine rg rfl ?_
  refine A_buildSlice (bs25e _ _ _) ?_
  intro H1 n1
  have en1 := n1.len
  have q1 : hget H1 H.length = some (flatS []) := n1.new
  refine Rq ?_
  obtain ⟨H2, ha2, g2⟩ := app25g (lim := lim) (n := 0) q1 (src_all l) (by omega) rfl (by omega)
  refine R_append (by simp (disch := first | omega | (simp only [List.length_map, List.length_append, List.length_set, List.length_cons, List.length_nil]; omega)) only [go_sem, ↓reduceIte, Nat.reduceEqDiff, reduceCtorEq]; exact ha2) ?_
  have eg2 := g2.len
  refine Rq ?_
  have tr : ∀ a b c d e f g : AV, let l := lc_clone_ok a b c; trim ((2,g)::(7,f)::(6,e)::(5,d)::l) l = [(0,a),(2,g),(4,c)] := by intros; rfl
  refine R_nil (tr ..) ?_; clear tr
  refine then_n ?_
  refine at_ret rfl ?_
  refine fin_own rfl (by simp only [go_sem, ↓reduceIte, Nat.reduceEqDiff]; rfl) ?_
  exact ⟨_, by first | rfl | (rw [Nat.zero_add]; rfl), by omega, g2.new, fun c hc => (g2.old c (by omega) (by omega)).trans (n1.old c hc)⟩

abbrev lc_split_ok (a b c d e f g h i j : AV) : Env := [(0,a),(1,b),(2,c),(6,d),(7,e),(8,f),(9,g),(17,h),(31,i),(34,j)]
theorem split_ok (lim : Nat) (H : Heap) (l : List Stp) (i t : Int) :
    ACall sig lim 43 [stopsAV l, AV.i i, AV.i t] H fun r H' => r = .tup [splA l i t, AV.i (splE l i t)] ∧ H' = H := by
 have q8 : True := trivial
 have q9 : True := trivial
 have qn : True := trivial
 refine ACall_pure (fa := fa43) rfl rfl rfl rfl ?_
 have tr : ∀ a0 a1 a2 : AV, env0 fa43.keep [a0, a1, a2] = [(0,a0),(1,a1),(2,a2),(6,.any),(7,.any),(8,.any),(9,.any),(17,.any),(31,.any),(34,.any)] := fun a0 a1 a2 => rfl
 refine W_to (tr _ _ _) ?_; clear tr
 refine at_seq rfl ?_
 refine rg rfl ?_
 refine Rq ?_
 refine Rq ?_
 have tr : ∀ a b c d e f g h i j k m : AV, let l := lc_split_ok a b c d e f g h i j; trim ((7,m)::(6,k)::l) l = [(0,a),(1,b),(2,c),(6,k),(7,m),(8,f),(9,g),(17,h),(31,i),(34,j)] := by intros; rfl
 refine R_nil (tr ..) ?_; clear tr
 refine then_n ?_
 refine at_seq rfl ?_
 refine at_seq rfl ?_
 refine rg rfl ?_
 refine Rq ?_
 refine Rq ?_
 refine Rq ?_
 refine Rp_split (fun h1 => ?_) (fun h1 => ?_)
 ·
  try simp only [decide_eq_true_eq, decide_eq_false_iff_not, Bool.not_eq_true', Bool.not_eq_false', beq_iff_eq, beq_eq_false_iff_ne, ne_eq] at h1
  refine Rn ?_
  refine Rn ?_
  refine Rn ?_
  refine Rn ?_
  refine Rq ?_
  have tr : ∀ a b c d e f g h i j k m n o p q r s : AV, let l := lc_split_ok a b c d e f g h i j; trim ((17,s)::(16,r)::(15,q)::(14,p)::(13,o)::(12,n)::(11,m)::(10,k)::l) l = [(0,a),(1,b),(2,c),(6,d),(7,e),(8,f),(9,g),(17,s),(31,i),(34,j)] := by intros; rfl
  refine R_nil (tr ..) ?_; clear tr
  refine then_n ?_
  refine cdt ?_
  refine at_seq rfl ?_
  refine rg rfl ?_
  refine Rq ?_
  refine Rq ?_
  have tr : ∀ a b c d e f g h i j k m : AV, let l := lc_split_ok a b c d e f g h i j; trim ((7,m)::(6,k)::l) l = [(0,a),(1,b),(2,c),(6,k),(7,m),(8,f),(9,g),(17,h),(31,i),(34,j)] := by intros; rfl
  refine R_nil (tr ..) ?_; clear tr
  refine then_n ?_
  refine at_ret rfl ?_
  refine then_r ?_
  refine fpure ?_
  refine ⟨?_, rfl⟩
  have hs : splE l i t = 2 := by rw [splE, if_pos (by omega)]
  rw [hs, splA_n (by omega)]
 ·
  try simp only [decide_eq_true_eq, decide_eq_false_iff_not, Bool.not_eq_true', Bool.not_eq_false', beq_iff_eq, beq_eq_false_iff_ne, ne_eq] at h1
  refine Ry ?_
  refine Rq ?_
  refine Ry ?_
  refine Rq ?_
  refine Ry ?_
  refine Rq ?_
  refine Ry ?_
  refine Rq ?_
  refine Rq ?_
  have tr : ∀ a b c d e f g h i j k m n o p q r s : AV, let l := lc_split_ok a b c d e f g h i j; trim ((17,s)::(16,r)::(15,q)::(14,p)::(13,o)::(12,n)::(11,m)::(10,k)::l) l = [(0,a),(1,b),(2,c),(6,d),(7,e),(8,f),(9,g),(17,s),(31,i),(34,j)] := by intros; rfl
  refine R_nil (tr ..) ?_; clear tr
  refine then_n ?_
  refine cdd (fun h2 => ?_) (fun h2 => ?_)
  ·
   try simp only [decide_eq_true_eq, decide_eq_false_iff_not, Bool.not_eq_true', Bool.not_eq_false', beq_iff_eq, beq_eq_false_iff_ne, ne_eq] at h2
   refine at_seq rfl ?_
   refine rg rfl ?_
   refine Rq ?_
   refine Rq ?_
   have tr : ∀ a b c d e f g h i j k m : AV, let l := lc_split_ok a b c d e f g h i j; trim ((7,m)::(6,k)::l) l = [(0,a),(1,b),(2,c),(6,k),(7,m),(8,f),(9,g),(17,h),(31,i),(34,j)] := by intros; rfl
   refine R_nil (tr ..) ?_; clear tr
   refine then_n ?_
   refine at_ret rfl ?_
   refine then_r ?_
   refine fpure ?_
   refine ⟨?_, rfl⟩
   have hs : splE l i t = 2 := by rw [splE, if_pos (by omega)]
   rw [hs, splA_n (by omega)]
  ·
   try simp only [decide_eq_true_eq, decide_eq_false_iff_not, Bool.not_eq_true', Bool.not_eq_false', beq_iff_eq, beq_eq_false_iff_ne, ne_eq] at h2
   refine at_skip rfl ?_
   refine then_n ?_
   refine at_seq rfl ?_
   refine rg rfl ?_
   refine Rq ?_
   refine Rq ?_
   have hir : 0 ≤ i ∧ i < l.length := by omega
   obtain ⟨hi0, hi1⟩ : 0 ≤ i ∧ i.toNat < l.length := by omega
   refine R_q (r := .ele (flatS l) (i.toNat * 3)) rfl (by simp (disch := first | omega | (simp only [List.length_map, List.length_append, List.length_set, List.length_cons, List.length_nil]; omega)) only [go_sem, ↓reduceIte, Nat.reduceEqDiff, reduceCtorEq] <;> rfl) ?_
   refine R_q (r := .agg (stC (gt l i.toNat))) rfl (by simp (disch := first | omega | (simp only [List.length_map, List.length_append, List.length_set, List.length_cons, List.length_nil]; omega)) only [go_sem, ↓reduceIte, Nat.reduceEqDiff, reduceCtorEq] <;> exact ld_stop l i.toNat (by omega)) ?_
   refine A_alloc rfl ?_
   intro H1 n1
   have en1 := n1.len
   have q8 := n1.new
   have lq8 := hget_lt q8
   refine A_store ty56 (by simp (disch := first | omega | (simp only [List.length_map, List.length_append, List.length_set, List.length_cons, List.length_nil]; omega)) only [go_sem, ↓reduceIte, Nat.reduceEqDiff, reduceCtorEq, q8] <;> rfl) (by simp (disch := first | omega | (simp only [List.length_map, List.length_append, List.length_set, List.length_cons, List.length_nil]; omega)) only [go_sem, ↓reduceIte, Nat.reduceEqDiff, reduceCtorEq, q8] <;> rfl) q8 ⟨by omega, rfl, by first | exact Nat.le_refl _ | simp⟩ (k' := stC (gt l i.toNat)) rfl ?_
   intro H2 w1
   have ew1 := w1.len
   have q8 := w1.new
   have tr : ∀ a b c d e f g h i j k m n o p : AV, let l := lc_split_ok a b c d e f g h i j; trim ((8,p)::(21,o)::(20,n)::(19,m)::(18,k)::l) l = [(0,a),(1,b),(2,c),(6,d),(7,e),(8,p),(9,g),(17,h),(31,i),(34,j)] := by intros; rfl
   refine R_nil (tr ..) ?_; clear tr
   refine then_n ?_
   refine at_seq rfl ?_
   refine at_seq rfl ?_
   refine rg rfl ?_
   refine Rq ?_
   refine Rq ?_
   refine R_q rfl (by simp (disch := first | omega | (simp only [List.length_map, List.length_append, List.length_set, List.length_cons, List.length_nil]; omega)) only [go_sem, ↓reduceIte, Nat.reduceEqDiff, reduceCtorEq, q8, q9, qn] <;> rfl) ?_
   refine Rq ?_
   refine Rq ?_
   refine Rp_split (fun h3 => ?_) (fun h3 => ?_)
   ·
    try simp only [decide_eq_true_eq, decide_eq_false_iff_not, Bool.not_eq_true', Bool.not_eq_false', beq_iff_eq, beq_eq_false_iff_ne, ne_eq] at h3
    refine Rn ?_
    refine Rn ?_
    refine Rn ?_
    refine Rn ?_
    refine Rq ?_
    have tr : ∀ a b c d e f g h i j k m n o p q r s t u : AV, let l := lc_split_ok a b c d e f g h i j; trim ((31,u)::(30,t)::(29,s)::(28,r)::(27,q)::(26,p)::(25,o)::(24,n)::(23,m)::(22,k)::l) l = [(0,a),(1,b),(2,c),(6,d),(7,e),(8,f),(9,g),(17,h),(31,u),(34,j)] := by intros; rfl
    refine R_nil (tr ..) ?_; clear tr
    refine then_n ?_
    refine cdt ?_
    refine at_seq rfl ?_
    refine rg rfl ?_
    refine Rq ?_
    refine Rq ?_
    have tr : ∀ a b c d e f g h i j k m : AV, let l := lc_split_ok a b c d e f g h i j; trim ((7,m)::(6,k)::l) l = [(0,a),(1,b),(2,c),(6,k),(7,m),(8,f),(9,g),(17,h),(31,i),(34,j)] := by intros; rfl
    refine R_nil (tr ..) ?_; clear tr
    refine then_n ?_
    refine at_ret rfl ?_
    refine then_r ?_
    refine fpure ?_
    refine ⟨?_, rfl⟩
    have hs : splE l i t = 1 := by rw [splE, if_neg (by omega), if_pos (by omega)]
    rw [hs, splA_n (by omega)]
   ·
    try simp only [decide_eq_true_eq, decide_eq_false_iff_not, Bool.not_eq_true', Bool.not_eq_false', beq_iff_eq, beq_eq_false_iff_ne, ne_eq] at h3
    refine Ry ?_
    refine Rq ?_
    refine Ry ?_
    refine Rq ?_
    refine Ry ?_
    refine R_q rfl (by simp (disch := first | omega | (simp only [List.length_map, List.length_append, List.length_set, List.length_cons, List.length_nil]; omega)) only [go_sem, ↓reduceIte, Nat.reduceEqDiff, reduceCtorEq, q8, q9, qn] <;> rfl) ?_
    refine Ry ?_
    refine Rq ?_
    refine Rq ?_
    have tr : ∀ a b c d e f g h i j k m n o p q r s t u : AV, let l := lc_split_ok a b c d e f g h i j; trim ((31,u)::(30,t)::(29,s)::(28,r)::(27,q)::(26,p)::(25,o)::(24,n)::(23,m)::(22,k)::l) l = [(0,a),(1,b),(2,c),(6,d),(7,e),(8,f),(9,g),(17,h),(31,u),(34,j)] := by intros; rfl
    refine R_nil (tr ..) ?_; clear tr
    refine then_n ?_
    refine cdd (fun h4 => ?_) (fun h4 => ?_)
    ·
     try simp only [decide_eq_true_eq, decide_eq_false_iff_not, Bool.not_eq_true', Bool.not_eq_false', beq_iff_eq, beq_eq_false_iff_ne, ne_eq] at h4
     refine at_seq rfl ?_
     refine rg rfl ?_
     refine Rq ?_
     refine Rq ?_
     have tr : ∀ a b c d e f g h i j k m : AV, let l := lc_split_ok a b c d e f g h i j; trim ((7,m)::(6,k)::l) l = [(0,a),(1,b),(2,c),(6,k),(7,m),(8,f),(9,g),(17,h),(31,i),(34,j)] := by intros; rfl
     refine R_nil (tr ..) ?_; clear tr
     refine then_n ?_
     refine at_ret rfl ?_
     refine then_r ?_
     refine fpure ?_
     refine ⟨?_, rfl⟩
     have hs : splE l i t = 1 := by rw [splE, if_neg (by omega), if_pos (by omega)]
     rw [hs, splA_n (by omega)]
    ·
     try simp only [decide_eq_true_eq, decide_eq_false_iff_not, Bool.not_eq_true', Bool.not_eq_false', beq_iff_eq, beq_eq_false_iff_ne, ne_eq] at h4
     refine at_skip rfl ?_
     refine then_n ?_
     refine at_seq rfl ?_
     refine at_seq rfl ?_
     refine rg rfl ?_
     refine Rq ?_
     refine Rq ?_
     refine Rq ?_
     have tr : ∀ a b c d e f g h i j k m n : AV, let l := lc_split_ok a b c d e f g h i j; trim ((34,n)::(33,m)::(32,k)::l) l = [(0,a),(1,b),(2,c),(6,d),(7,e),(8,f),(9,g),(17,h),(31,i),(34,n)] := by intros; rfl
     refine R_nil (tr ..) ?_; clear tr
     refine then_n ?_
     refine cdd (fun h5 => ?_) (fun h5 => ?_)
     ·
      try simp only [decide_eq_true_eq, decide_eq_false_iff_not, Bool.not_eq_true', Bool.not_eq_false', beq_iff_eq, beq_eq_false_iff_ne, ne_eq] at h5
      refine at_seq rfl ?_
      refine rg rfl ?_
      refine Rq ?_
      refine Rq ?_
      have tr : ∀ a b c d e f g h i j k m : AV, let l := lc_split_ok a b c d e f g h i j; trim ((7,m)::(6,k)::l) l = [(0,a),(1,b),(2,c),(6,k),(7,m),(8,f),(9,g),(17,h),(31,i),(34,j)] := by intros; rfl
      refine R_nil (tr ..) ?_; clear tr
      refine then_n ?_
      refine at_ret rfl ?_
      refine then_r ?_
      refine fpure ?_
      refine ⟨?_, rfl⟩
      have hs : splE l i t = 9 := by rw [splE, if_neg (by omega), if_neg (by omega), if_pos (by omega)]
      rw [hs, splA_n (by omega)]
     ·
      try simp only [decide_eq_true_eq, decide_eq_false_iff_not, Bool.not_eq_true', Bool.not_eq_false', beq_iff_eq, beq_eq_false_iff_ne, ne_eq] at h5
      refine at_skip rfl ?_
      refine then_n ?_
      refine at_seq rfl ?_
      refine rg rfl ?_
      have hz : splE l i t = 0 := splE_0 (by omega) (by omega) (by omega)
      have hl20 : l.length < 20 := by omega
      refine Rq ?_
      refine Rcall ?_
      refine ACall_mono (clone_ok _ _ (by omega) l (by omega) (by omega)) ?_
      rintro r H3 ⟨b9, rfl, hb9, q9, hold⟩
      have q8 := (hold _ (hget_lt q8)).trans q8
      have lq8 := hget_lt q8
      have lq9 := hget_lt q9
      refine Rq ?_
      have tr : ∀ a b c d e f g h i j k m n : AV, let l := lc_split_ok a b c d e f g h i j; trim ((9,n)::(36,m)::(35,k)::l) l = [(0,a),(1,b),(2,c),(6,d),(7,e),(8,f),(9,n),(17,h),(31,i),(34,j)] := by intros; rfl
      refine R_nil (tr ..) ?_; clear tr
      refine then_n ?_
      refine at_seq rfl ?_
      refine rg rfl ?_
      refine Rq ?_
      refine Rq ?_
      refine Rq ?_
      refine R_q (r := .ptr b9 (i.toNat * 3)) rfl (by simp (disch := first | omega | (simp only [List.length_map, List.length_append, List.length_set, List.length_cons, List.length_nil]; omega)) only [go_sem, ↓reduceIte, Nat.reduceEqDiff, reduceCtorEq, q8, q9] <;> rfl) ?_
      refine Rq ?_
      have lq8 := hget_lt q8
      have lq9 := hget_lt q9
      refine A_store ty2 (by simp (disch := first | omega | (simp only [List.length_map, List.length_append, List.length_set, List.length_cons, List.length_nil]; omega)) only [go_sem, ↓reduceIte, Nat.reduceEqDiff, reduceCtorEq, q8, q9] <;> rfl) (by simp (disch := first | omega | (simp only [List.length_map, List.length_append, List.length_set, List.length_cons, List.length_nil]; omega)) only [go_sem, ↓reduceIte, Nat.reduceEqDiff, reduceCtorEq, q8, q9] <;> rfl) q9 ⟨by omega, rfl, by simp only [flat_len]; omega⟩ (k' := flatS (l.set i.toNat ⟨(gt l i.toNat).b, t, (gt l i.toNat).w⟩)) (flatS_set1 l i.toNat t (by omega)) ?_
      intro H4 w4
      have ew4 := w4.len
      have q8 := (w4.old _ (by omega)).trans q8
      have q9 := w4.new
      have tr : ∀ a b c d e f g h i j k m n o p : AV, let l := lc_split_ok a b c d e f g h i j; trim ((41,p)::(40,o)::(39,n)::(38,m)::(37,k)::l) l = [(0,a),(1,b),(2,c),(6,d),(7,e),(8,f),(9,g),(17,h),(31,i),(34,j)] := by intros; rfl
      refine R_nil (tr ..) ?_; clear tr
      refine then_n ?_
      refine at_seq rfl ?_
      refine rg rfl ?_
      refine Rq ?_
      refine Rq ?_
      have lq8 := hget_lt q8
      have lq9 := hget_lt q9
      refine A_store ty2 (by simp (disch := first | omega | (simp only [List.length_map, List.length_append, List.length_set, List.length_cons, List.length_nil]; omega)) only [go_sem, ↓reduceIte, Nat.reduceEqDiff, reduceCtorEq, q8, q9] <;> rfl) (by simp (disch := first | omega | (simp only [List.length_map, List.length_append, List.length_set, List.length_cons, List.length_nil]; omega)) only [go_sem, ↓reduceIte, Nat.reduceEqDiff, reduceCtorEq, q8, q9] <;> rfl) q8 ⟨by omega, rfl, by first | exact Nat.le_refl _ | simp⟩ (k' := stC ⟨t, (gt l i.toNat).a, (gt l i.toNat).w⟩) rfl ?_
      intro H5 w5
      have ew5 := w5.len
      have q9 := (w5.old _ (by omega)).trans q9
      have q8 := w5.new
      have tr : ∀ a b c d e f g h i j k m : AV, let l := lc_split_ok a b c d e f g h i j; trim ((43,m)::(42,k)::l) l = [(0,a),(1,b),(2,c),(6,d),(7,e),(8,f),(9,g),(17,h),(31,i),(34,j)] := by intros; rfl
      refine R_nil (tr ..) ?_; clear tr
      refine then_n ?_
      refine at_seq rfl ?_
      refine rg rfl ?_
      refine Rq ?_
      refine Rq ?_
      refine R_q (r := AV.i (i + 1)) rfl (by simp (disch := first | omega | (simp only [List.length_map, List.length_append, List.length_set, List.length_cons, List.length_nil]; omega)) only [go_sem, ↓reduceIte, Nat.reduceEqDiff, reduceCtorEq] <;> rfl) ?_
      refine R_q rfl (by simp (disch := first | omega | (simp only [List.length_map, List.length_append, List.length_set, List.length_cons, List.length_nil]; omega)) only [go_sem, ↓reduceIte, Nat.reduceEqDiff, reduceCtorEq, q8, q9, qn] <;> rfl) ?_
      have lq8 := hget_lt q8
      have lq9 := hget_lt q9
      refine A_buildSlice (bs25 _ _ _ _ ⟨t, (gt l i.toNat).a, (gt l i.toNat).w⟩ (by simp (disch := first | omega | (simp only [List.length_map, List.length_append, List.length_set, List.length_cons, List.length_nil]; omega)) only [go_sem, ↓reduceIte, Nat.reduceEqDiff, reduceCtorEq, q8, q9] <;> rfl)) ?_
      intro H6 n6
      have en6 := n6.len
      have q9 := (n6.old _ (hget_lt q9)).trans q9
      have qn := n6.new
      have lq9 := hget_lt q9
      have hr := insV_ok (lim := H.length) q9 qn (by omega) (by omega) (by omega) (i := i + 1) (by rw [List.length_set]; omega) (by rw [List.length_set]; omega) (by rw [List.length_set]; omega) (n := l.length) (by rw [List.length_set])
      refine ACall_eff (p := insV) rfl rfl rfl hr ?_
      rewrite [show (i + 1).toNat = i.toNat + 1 by omega, spl_ins t (by omega)]
      refine Rq ?_
      refine Rq ?_
      have tr : ∀ a b c d e f g h i j k m n o p q r s : AV, let l := lc_split_ok a b c d e f g h i j; trim ((7,s)::(6,r)::(49,q)::(48,p)::(47,o)::(46,n)::(45,m)::(44,k)::l) l = [(0,a),(1,b),(2,c),(6,r),(7,s),(8,f),(9,g),(17,h),(31,i),(34,j)] := by intros; rfl
      refine R_nil (tr ..) ?_; clear tr
      refine then_n ?_
      refine at_ret rfl ?_
      have q9 : hget (hset H6 b9 none ++ [some (flatS (spl l i.toNat t))]) H6.length = some (flatS (spl l i.toNat t)) := by simp [hget, hset]
      have e2 : l.length + 1 = (spl l i.toNat t).length := (spl_len t (by omega)).symm
      refine fin_pure (rs := [.tmp 6, .tmp 7]) rfl (by simp (disch := first | omega | (simp only [List.length_map, List.length_append, List.length_set, List.length_cons, List.length_nil]; omega)) only [go_sem, ↓reduceIte, Nat.reduceEqDiff, reduceCtorEq] <;> rfl) (v := .tup [stopsAV (spl l i.toNat t), AV.i 0]) (by show AV.tup [frz _ _ 7 (.own 3 _ 0 _), AV.i 0] = _; rw [frz_own3' (by omega) q9, List.drop_zero, frz_flatS, e2]) ?_
      refine ⟨?_, rfl⟩
      rw [hz, splA_0 hz]

abbrev lc_rsplit_ok (a b c d e f g h i j : AV) : Env := [(0,a),(1,b),(2,c),(6,d),(7,e),(8,f),(9,g),(17,h),(31,i),(34,j)]
theorem rsplit_ok (lim : Nat) (H : Heap) (l : List Stp) (i t : Int) :
    ACall sig lim 44 [stopsAV l, AV.i i, AV.i t] H fun r H' => r = .tup [splA l i t, AV.i (splE l i t)] ∧ H' = H := by
 have q8 : True := trivial
 have q9 : True := trivial
 have qn : True := trivial
 refine ACall_pure (fa := fa44) rfl rfl rfl rfl ?_
 have tr : ∀ a0 a1 a2 : AV, env0 fa44.keep [a0, a1, a2] = [(0,a0),(1,a1),(2,a2),(6,.any),(7,.any),(8,.any),(9,.any),(17,.any),(31,.any),(34,.any)] := fun a0 a1 a2 => rfl
 refine W_to (tr _ _ _) ?_; clear tr
 refine at_seq rfl ?_
 refine rg rfl ?_
 refine Rq ?_
 refine Rq ?_
 have tr : ∀ a b c d e f g h i j k m : AV, let l := lc_rsplit_ok a b c d e f g h i j; trim ((7,m)::(6,k)::l) l = [(0,a),(1,b),(2,c),(6,k),(7,m),(8,f),(9,g),(17,h),(31,i),(34,j)] := by intros; rfl
 refine R_nil (tr ..) ?_; clear tr
 refine then_n ?_
 refine at_seq rfl ?_
 refine at_seq rfl ?_
 refine rg rfl ?_
 refine Rq ?_
 refine Rq ?_
 refine Rq ?_
 refine Rp_split (fun h1 => ?_) (fun h1 => ?_)
 ·
  try simp only [decide_eq_true_eq, decide_eq_false_iff_not, Bool.not_eq_true', Bool.not_eq_false', beq_iff_eq, beq_eq_false_iff_ne, ne_eq] at h1
  refine Rn ?_
  refine Rn ?_
  refine Rn ?_
  refine Rn ?_
  refine Rq ?_
  have tr : ∀ a b c d e f g h i j k m n o p q r s : AV, let l := lc_rsplit_ok a b c d e f g h i j; trim ((17,s)::(16,r)::(15,q)::(14,p)::(13,o)::(12,n)::(11,m)::(10,k)::l) l = [(0,a),(1,b),(2,c),(6,d),(7,e),(8,f),(9,g),(17,s),(31,i),(34,j)] := by intros; rfl
  refine R_nil (tr ..) ?_; clear tr
  refine then_n ?_
  refine cdt ?_
  refine at_seq rfl ?_
  refine rg rfl ?_
  refine Rq ?_
  refine Rq ?_
  have tr : ∀ a b c d e f g h i j k m : AV, let l := lc_rsplit_ok a b c d e f g h i j; trim ((7,m)::(6,k)::l) l = [(0,a),(1,b),(2,c),(6,k),(7,m),(8,f),(9,g),(17,h),(31,i),(34,j)] := by intros; rfl
  refine R_nil (tr ..) ?_; clear tr
  refine then_n ?_
  refine at_ret rfl ?_
  refine then_r ?_
  refine fpure ?_
  refine ⟨?_, rfl⟩
  have hs : splE l i t = 2 := by rw [splE, if_pos (by omega)]
  rw [hs, splA_n (by omega)]
 ·
  try simp only [decide_eq_true_eq, decide_eq_false_iff_not, Bool.not_eq_true', Bool.not_eq_false', beq_iff_eq, beq_eq_false_iff_ne, ne_eq] at h1
  refine Ry ?_
  refine Rq ?_
  refine Ry ?_
  refine Rq ?_
  refine Ry ?_
  refine Rq ?_
  refine Ry ?_
  refine Rq ?_
  refine Rq ?_
  have tr : ∀ a b c d e f g h i j k m n o p q r s : AV, let l := lc_rsplit_ok a b c d e f g h i j; trim ((17,s)::(16,r)::(15,q)::(14,p)::(13,o)::(12,n)::(11,m)::(10,k)::l) l = [(0,a),(1,b),(2,c),(6,d),(7,e),(8,f),(9,g),(17,s),(31,i),(34,j)] := by intros; rfl
  refine R_nil (tr ..) ?_; clear tr
  refine then_n ?_
  refine cdd (fun h2 => ?_) (fun h2 => ?_)
  ·
   try simp only [decide_eq_true_eq, decide_eq_false_iff_not, Bool.not_eq_true', Bool.not_eq_false', beq_iff_eq, beq_eq_false_iff_ne, ne_eq] at h2
   refine at_seq rfl ?_
   refine rg rfl ?_
   refine Rq ?_
   refine Rq ?_
   have tr : ∀ a b c d e f g h i j k m : AV, let l := lc_rsplit_ok a b c d e f g h i j; trim ((7,m)::(6,k)::l) l = [(0,a),(1,b),(2,c),(6,k),(7,m),(8,f),(9,g),(17,h),(31,i),(34,j)] := by intros; rfl
   refine R_nil (tr ..) ?_; clear tr
   refine then_n ?_
   refine at_ret rfl ?_
   refine then_r ?_
   refine fpure ?_
   refine ⟨?_, rfl⟩
   have hs : splE l i t = 2 := by rw [splE, if_pos (by omega)]
   rw [hs, splA_n (by omega)]
  ·
   try simp only [decide_eq_true_eq, decide_eq_false_iff_not, Bool.not_eq_true', Bool.not_eq_false', beq_iff_eq, beq_eq_false_iff_ne, ne_eq] at h2
   refine at_skip rfl ?_
   refine then_n ?_
   refine at_seq rfl ?_
   refine rg rfl ?_
   refine Rq ?_
   refine Rq ?_
   have hir : 0 ≤ i ∧ i < l.length := by omega
   obtain ⟨hi0, hi1⟩ : 0 ≤ i ∧ i.toNat < l.length := by omega
   refine R_q (r := .ele (flatS l) (i.toNat * 3)) rfl (by simp (disch := first | omega | (simp only [List.length_map, List.length_append, List.length_set, List.length_cons, List.length_nil]; omega)) only [go_sem, ↓reduceIte, Nat.reduceEqDiff, reduceCtorEq] <;> rfl) ?_
   refine R_q (r := .agg (stC (gt l i.toNat))) rfl (by simp (disch := first | omega | (simp only [List.length_map, List.length_append, List.length_set, List.length_cons, List.length_nil]; omega)) only [go_sem, ↓reduceIte, Nat.reduceEqDiff, reduceCtorEq] <;> exact ld_stop l i.toNat (by omega)) ?_
   refine A_alloc rfl ?_
   intro H1 n1
   have en1 := n1.len
   have q8 := n1.new
   have lq8 := hget_lt q8
   refine A_store ty56 (by simp (disch := first | omega | (simp only [List.length_map, List.length_append, List.length_set, List.length_cons, List.length_nil]; omega)) only [go_sem, ↓reduceIte, Nat.reduceEqDiff, reduceCtorEq, q8] <;> rfl) (by simp (disch := first | omega | (simp only [List.length_map, List.length_append, List.length_set, List.length_cons, List.length_nil]; omega)) only [go_sem, ↓reduceIte, Nat.reduceEqDiff, reduceCtorEq, q8] <;> rfl) q8 ⟨by omega, rfl, by first | exact Nat.le_refl _ | simp⟩ (k' := stC (gt l i.toNat)) rfl ?_
   intro H2 w1
   have ew1 := w1.len
   have q8 := w1.new
   have tr : ∀ a b c d e f g h i j k m n o p : AV, let l := lc_rsplit_ok a b c d e f g h i j; trim ((8,p)::(21,o)::(20,n)::(19,m)::(18,k)::l) l = [(0,a),(1,b),(2,c),(6,d),(7,e),(8,p),(9,g),(17,h),(31,i),(34,j)] := by intros; rfl
   refine R_nil (tr ..) ?_; clear tr
   refine then_n ?_
   refine at_seq rfl ?_
   refine at_seq rfl ?_
   refine rg rfl ?_
   refine Rq ?_
   refine Rq ?_
   refine R_q rfl (by simp (disch := first | omega | (simp only [List.length_map, List.length_append, List.length_set, List.length_cons, List.length_nil]; omega)) only [go_sem, ↓reduceIte, Nat.reduceEqDiff, reduceCtorEq, q8, q9, qn] <;> rfl) ?_
   refine Rq ?_
   refine Rq ?_
   refine Rp_split (fun h3 => ?_) (fun h3 => ?_)
   ·
    try simp only [decide_eq_true_eq, decide_eq_false_iff_not, Bool.not_eq_true', Bool.not_eq_false', beq_iff_eq, beq_eq_false_iff_ne, ne_eq] at h3
    refine Rn ?_
    refine Rn ?_
    refine Rn ?_
    refine Rn ?_
    refine Rq ?_
    have tr : ∀ a b c d e f g h i j k m n o p q r s t u : AV, let l := lc_rsplit_ok a b c d e f g h i j; trim ((31,u)::(30,t)::(29,s)::(28,r)::(27,q)::(26,p)::(25,o)::(24,n)::(23,m)::(22,k)::l) l = [(0,a),(1,b),(2,c),(6,d),(7,e),(8,f),(9,g),(17,h),(31,u),(34,j)] := by intros; rfl
    refine R_nil (tr ..) ?_; clear tr
    refine then_n ?_
    refine cdt ?_
    refine at_seq rfl ?_
    refine rg rfl ?_
    refine Rq ?_
    refine Rq ?_
    have tr : ∀ a b c d e f g h i j k m : AV, let l := lc_rsplit_ok a b c d e f g h i j; trim ((7,m)::(6,k)::l) l = [(0,a),(1,b),(2,c),(6,k),(7,m),(8,f),(9,g),(17,h),(31,i),(34,j)] := by intros; rfl
    refine R_nil (tr ..) ?_; clear tr
    refine then_n ?_
    refine at_ret rfl ?_
    refine then_r ?_
    refine fpure ?_
    refine ⟨?_, rfl⟩
    have hs : splE l i t = 1 := by rw [splE, if_neg (by omega), if_pos (by omega)]
    rw [hs, splA_n (by omega)]
   ·
    try simp only [decide_eq_true_eq, decide_eq_false_iff_not, Bool.not_eq_true', Bool.not_eq_false', beq_iff_eq, beq_eq_false_iff_ne, ne_eq] at h3
    refine Ry ?_
    refine Rq ?_
    refine Ry ?_
    refine Rq ?_
    refine Ry ?_
    refine R_q rfl (by simp (disch := first | omega | (simp only [List.length_map, List.length_append, List.length_set, List.length_cons, List.length_nil]; omega)) only [go_sem, ↓reduceIte, Nat.reduceEqDiff, reduceCtorEq, q8, q9, qn] <;> rfl) ?_
    refine Ry ?_
    refine Rq ?_
    refine Rq ?_
    have tr : ∀ a b c d e f g h i j k m n o p q r s t u : AV, let l := lc_rsplit_ok a b c d e f g h i j; trim ((31,u)::(30,t)::(29,s)::(28,r)::(27,q)::(26,p)::(25,o)::(24,n)::(23,m)::(22,k)::l) l = [(0,a),(1,b),(2,c),(6,d),(7,e),(8,f),(9,g),(17,h),(31,u),(34,j)] := by intros; rfl
    refine R_nil (tr ..) ?_; clear tr
    refine then_n ?_
    refine cdd (fun h4 => ?_) (fun h4 => ?_)
    ·
     try simp only [decide_eq_true_eq, decide_eq_false_iff_not, Bool.not_eq_true', Bool.not_eq_false', beq_iff_eq, beq_eq_false_iff_ne, ne_eq] at h4
     refine at_seq rfl ?_
     refine rg rfl ?_
     refine Rq ?_
     refine Rq ?_
     have tr : ∀ a b c d e f g h i j k m : AV, let l := lc_rsplit_ok a b c d e f g h i j; trim ((7,m)::(6,k)::l) l = [(0,a),(1,b),(2,c),(6,k),(7,m),(8,f),(9,g),(17,h),(31,i),(34,j)] := by intros; rfl
     refine R_nil (tr ..) ?_; clear tr
     refine then_n ?_
     refine at_ret rfl ?_
     refine then_r ?_
     refine fpure ?_
     refine ⟨?_, rfl⟩
     have hs : splE l i t = 1 := by rw [splE, if_neg (by omega), if_pos (by omega)]
     rw [hs, splA_n (by omega)]
    ·
     try simp only [decide_eq_true_eq, decide_eq_false_iff_not, Bool.not_eq_true', Bool.not_eq_false', beq_iff_eq, beq_eq_false_iff_ne, ne_eq] at h4
     refine at_skip rfl ?_
     refine then_n ?_
     refine at_seq rfl ?_
     refine at_seq rfl ?_
     refine rg rfl ?_
     refine Rq ?_
     refine Rq ?_
     refine Rq ?_
     have tr : ∀ a b c d e f g h i j k m n : AV, let l := lc_rsplit_ok a b c d e f g h i j; trim ((34,n)::(33,m)::(32,k)::l) l = [(0,a),(1,b),(2,c),(6,d),(7,e),(8,f),(9,g),(17,h),(31,i),(34,n)] := by intros; rfl
     refine R_nil (tr ..) ?_; clear tr
     refine then_n ?_
     refine cdd (fun h5 => ?_) (fun h5 => ?_)
     ·
      try simp only [decide_eq_true_eq, decide_eq_false_iff_not, Bool.not_eq_true', Bool.not_eq_false', beq_iff_eq, beq_eq_false_iff_ne, ne_eq] at h5
      refine at_seq rfl ?_
      refine rg rfl ?_
      refine Rq ?_
      refine Rq ?_
      have tr : ∀ a b c d e f g h i j k m : AV, let l := lc_rsplit_ok a b c d e f g h i j; trim ((7,m)::(6,k)::l) l = [(0,a),(1,b),(2,c),(6,k),(7,m),(8,f),(9,g),(17,h),(31,i),(34,j)] := by intros; rfl
      refine R_nil (tr ..) ?_; clear tr
      refine then_n ?_
      refine at_ret rfl ?_
      refine then_r ?_
      refine fpure ?_
      refine ⟨?_, rfl⟩
      have hs : splE l i t = 9 := by rw [splE, if_neg (by omega), if_neg (by omega), if_pos (by omega)]
      rw [hs, splA_n (by omega)]
     ·
      try simp only [decide_eq_true_eq, decide_eq_false_iff_not, Bool.not_eq_true', Bool.not_eq_false', beq_iff_eq, beq_eq_false_iff_ne, ne_eq] at h5
      refine at_skip rfl ?_
      refine then_n ?_
      refine at_seq rfl ?_
      refine rg rfl ?_
      have hz : splE l i t = 0 := splE_0 (by omega) (by omega) (by omega)
      have hl20 : l.length < 20 := by omega
      refine A_buildSlice (bs25e _ _ _) ?_
      intro H3 n3
      have en3 := n3.len
      have q8 := (n3.old _ (hget_lt q8)).trans q8
      have q9 : hget H3 _ = some (flatS []) := n3.new
      refine Rq ?_
      refine Rq ?_
      refine R_q (r := .sl i.toNat (flatS l)) rfl (by simp (disch := first | omega | (simp only [List.length_map, List.length_append, List.length_set, List.length_cons, List.length_nil]; omega)) only [go_sem, ↓reduceIte, Nat.reduceEqDiff, reduceCtorEq] <;> exact sl_hi (by omega) (by omega)) ?_
      have lq8 := hget_lt q8
      have lq9 := hget_lt q9
      have ha := app25g (lim := H.length) (n := 0) q9 (src_sl (k := 0) (n := i.toNat) (l := l) (by omega)) (by omega) rfl (by omega)
      refine A_append (by simp (disch := first | omega | (simp only [List.length_map, List.length_append, List.length_set, List.length_cons, List.length_nil]; omega)) only [go_sem, ↓reduceIte, Nat.reduceEqDiff, reduceCtorEq, q8]; exact ha) ?_
      intro H4 g4
      have eg4 := g4.len
      have q8 := (g4.old _ (by omega) lq8).trans q8
      have q9 := g4.new
      refine Rq ?_
      have tr : ∀ a b c d e f g h i j k m n o p q : AV, let l := lc_rsplit_ok a b c d e f g h i j; trim ((9,q)::(39,p)::(38,o)::(37,n)::(36,m)::(35,k)::l) l = [(0,a),(1,b),(2,c),(6,d),(7,e),(8,f),(9,q),(17,h),(31,i),(34,j)] := by intros; rfl
      refine R_nil (tr ..) ?_; clear tr
      refine then_n ?_
      refine at_seq rfl ?_
      refine rg rfl ?_
      refine Rq ?_
      refine Rq ?_
      refine R_q rfl (by simp (disch := first | omega | (simp only [List.length_map, List.length_append, List.length_set, List.length_cons, List.length_nil]; omega)) only [go_sem, ↓reduceIte, Nat.reduceEqDiff, reduceCtorEq, q8, q9, qn] <;> rfl) ?_
      refine Rq ?_
      refine Rq ?_
      refine R_q rfl (by simp (disch := first | omega | (simp only [List.length_map, List.length_append, List.length_set, List.length_cons, List.length_nil]; omega)) only [go_sem, ↓reduceIte, Nat.reduceEqDiff, reduceCtorEq, q8, q9, qn] <;> rfl) ?_
      refine R_q (r := .agg (stC ⟨(gt l i.toNat).b, t, (gt l i.toNat).w⟩)) rfl (by simp (disch := first | omega | (simp only [List.length_map, List.length_append, List.length_set, List.length_cons, List.length_nil]; omega)) only [go_sem, ↓reduceIte, Nat.reduceEqDiff, reduceCtorEq, q8] <;> exact bld56 _ _ _) ?_
      refine Rq ?_
      refine Rq ?_
      refine R_q rfl (by simp (disch := first | omega | (simp only [List.length_map, List.length_append, List.length_set, List.length_cons, List.length_nil]; omega)) only [go_sem, ↓reduceIte, Nat.reduceEqDiff, reduceCtorEq, q8, q9, qn] <;> rfl) ?_
      refine Rq ?_
      refine R_q rfl (by simp (disch := first | omega | (simp only [List.length_map, List.length_append, List.length_set, List.length_cons, List.length_nil]; omega)) only [go_sem, ↓reduceIte, Nat.reduceEqDiff, reduceCtorEq, q8, q9, qn] <;> rfl) ?_
      refine R_q (r := .agg (stC ⟨t, (gt l i.toNat).a, (gt l i.toNat).w⟩)) rfl (by simp (disch := first | omega | (simp only [List.length_map, List.length_append, List.length_set, List.length_cons, List.length_nil]; omega)) only [go_sem, ↓reduceIte, Nat.reduceEqDiff, reduceCtorEq, q8] <;> exact bld56 _ _ _) ?_
      have lq8 := hget_lt q8
      have lq9 := hget_lt q9
      refine A_buildSlice (bs25two _ _ _ _ _ ⟨(gt l i.toNat).b, t, (gt l i.toNat).w⟩ ⟨t, (gt l i.toNat).a, (gt l i.toNat).w⟩ (by simp (disch := first | omega | (simp only [List.length_map, List.length_append, List.length_set, List.length_cons, List.length_nil]; omega)) only [go_sem, ↓reduceIte, Nat.reduceEqDiff, reduceCtorEq, q8] <;> rfl) (by simp (disch := first | omega | (simp only [List.length_map, List.length_append, List.length_set, List.length_cons, List.length_nil]; omega)) only [go_sem, ↓reduceIte, Nat.reduceEqDiff, reduceCtorEq, q8] <;> rfl)) ?_
      intro H5 n5
      have en5 := n5.len
      have q8 := (n5.old _ (hget_lt q8)).trans q8
      have q9 := (n5.old _ (hget_lt q9)).trans q9
      have qn := n5.new
      have lq8 := hget_lt q8
      have lq9 := hget_lt q9
      have lqn := hget_lt qn
      have ha2 := app25g (lim := H.length) (n := i.toNat) (m := 2) q9 (y := .own 3 H4.length 0 2) (u := [⟨(gt l i.toNat).b, t, (gt l i.toNat).w⟩, ⟨t, (gt l i.toNat).a, (gt l i.toNat).w⟩]) (by simp only [srcCells, qn]; rfl) (by omega) (by rw [List.nil_append, List.length_take]; omega) (by omega)
      refine A_append (by simp (disch := first | omega | (simp only [List.length_map, List.length_append, List.length_set, List.length_cons, List.length_nil]; omega)) only [go_sem, ↓reduceIte, Nat.reduceEqDiff, reduceCtorEq, q8]; exact ha2) ?_
      intro H6 g6
      have eg6 := g6.len
      have q8 := (g6.old _ (by omega) lq8).trans q8
      have q9 := g6.new
      refine Rq ?_
      have tr : ∀ a b c d e f g h i j k m n o p q r s t u v w x y z A : AV, let l := lc_rsplit_ok a b c d e f g h i j; trim ((9,A)::(54,z)::(53,y)::(52,x)::(51,w)::(50,v)::(49,u)::(48,t)::(47,s)::(46,r)::(45,q)::(44,p)::(43,o)::(42,n)::(41,m)::(40,k)::l) l = [(0,a),(1,b),(2,c),(6,d),(7,e),(8,f),(9,A),(17,h),(31,i),(34,j)] := by intros; rfl
      refine R_nil (tr ..) ?_; clear tr
      refine then_n ?_
      refine at_seq rfl ?_
      refine rg rfl ?_
      refine Rq ?_
      refine Rq ?_
      refine Rq ?_
      refine R_q (r := AV.i (i + 1)) rfl (by simp (disch := first | omega | (simp only [List.length_map, List.length_append, List.length_set, List.length_cons, List.length_nil]; omega)) only [go_sem, ↓reduceIte, Nat.reduceEqDiff, reduceCtorEq] <;> rfl) ?_
      refine R_q (r := stopsAV (l.drop (i + 1).toNat)) rfl (by simp (disch := first | omega | (simp only [List.length_map, List.length_append, List.length_set, List.length_cons, List.length_nil]; omega)) only [go_sem, ↓reduceIte, Nat.reduceEqDiff, reduceCtorEq] <;> exact sl_lo (by omega) (by omega)) ?_
      have lq8 := hget_lt q8
      have lq9 := hget_lt q9
      have ha3 := app25g (lim := H.length) (n := i.toNat + 2) q9 (src_all (l.drop (i + 1).toNat)) (by omega) (by simp; omega) (by simp; omega)
      refine A_append (by simp (disch := first | omega | (simp only [List.length_map, List.length_append, List.length_set, List.length_cons, List.length_nil]; omega)) only [go_sem, ↓reduceIte, Nat.reduceEqDiff, reduceCtorEq, q8]; exact ha3) ?_
      intro H7 g7
      have eg7 := g7.len
      have q8 := (g7.old _ (by omega) lq8).trans q8
      have q9 := g7.new
      refine Rq ?_
      refine Rq ?_
      have tr : ∀ a b c d e f g h i j k m n o p q r s : AV, let l := lc_rsplit_ok a b c d e f g h i j; trim ((7,s)::(6,r)::(60,q)::(59,p)::(58,o)::(57,n)::(56,m)::(55,k)::l) l = [(0,a),(1,b),(2,c),(6,r),(7,s),(8,f),(9,g),(17,h),(31,i),(34,j)] := by intros; rfl
      refine R_nil (tr ..) ?_; clear tr
      refine then_n ?_
      refine at_ret rfl ?_
      have e : [] ++ l.take i.toNat ++ [⟨(gt l i.toNat).b, t, (gt l i.toNat).w⟩, ⟨t, (gt l i.toNat).a, (gt l i.toNat).w⟩] ++ l.drop (i + 1).toNat = spl l i.toNat t := by rw [show (i + 1).toNat = i.toNat + 1 by omega]; rfl
      rewrite [e] at q9
      have e2 : i.toNat + 2 + (l.drop (i + 1).toNat).length = (spl l i.toNat t).length := by rw [← e]; simp; omega
      refine fin_pure (rs := [.tmp 6, .tmp 7]) rfl (by simp (disch := first | omega | (simp only [List.length_map, List.length_append, List.length_set, List.length_cons, List.length_nil]; omega)) only [go_sem, ↓reduceIte, Nat.reduceEqDiff, reduceCtorEq] <;> rfl) (v := .tup [stopsAV (spl l i.toNat t), AV.i 0]) (by show AV.tup [frz _ _ 7 (.own 3 _ 0 _), AV.i 0] = _; rw [frz_own3' (by omega) q9, List.drop_zero, frz_flatS, e2]) ?_
      refine ⟨?_, rfl⟩
      rw [hz, splA_0 hz]

end Go.Proofs.Ytaoondlakhocnaa
end
section
set_option linter.unusedSimpArgs false
set_option linter.unusedVariables false
set_option maxHeartbeats 40000000
set_option maxRecDepth 4000
namespace Go.Proofs.Ytaoondlakhocnaa
open Go Go.Am

theorem bld34g {rows : Tb} {b c d e : Int} {x y : AV} (hx : cellsOf x = some [x]) (hy : cellsOf y = some [y]) : buildV Try.prog 34 [(0, .agg [rowsAV rows]), (1, AV.i b), (2, AV.i c), (3, AV.i d), (4, AV.i e), (5, x), (6, y)] = some (.agg [rowsAV rows, AV.i b, AV.i c, AV.i d, AV.i e, x, y]) := by
  simp only [buildV, ty34, places, ty24, ty3, ty2, ty25, fillA, hx, hy]; rfl
abbrev lc_of_gen (a b c : AV) : Env := [(0,a),(1,b),(2,c)]
theorem of_gen (lim : Nat) (H : Heap) (rows : Tb) (per tot wth balls : Int) (x y : AV) (hcx : cellsOf x = some [x]) (hcy : cellsOf y = some [y]) (hsx : storable x = true) (hsy : storable y = true) (hx : ∀ H', frz H' H.length 7 x = x) (hy : ∀ H', frz H' H.length 7 y = y) :
    ACall sig lim 30 [.agg [rowsAV rows, AV.i per, AV.i tot, AV.i wth, AV.i balls, x, y]] H fun r H' => r = .agg [rowsAV rows, AV.i per, AV.i tot, AV.i wth, AV.i balls, x, y] ∧ H' = H := by
 refine ACall_pure (fa := fa30) rfl rfl rfl rfl ?_
 have tr : ∀ a0 : AV, env0 fa30.keep [a0] = [(0,a0),(1,.any),(2,.any)] := fun a0 => rfl
 refine W_to (tr _) ?_; clear tr
 refine at_seq rfl ?_
 refine rg rfl ?_
 refine R_box rfl (by simp (disch := first | omega | (simp only [List.length_map, List.length_append, List.length_set, List.length_cons, List.length_nil]; omega)) only [go_sem, ↓reduceIte, Nat.reduceEqDiff, reduceCtorEq, hsx, hsy] <;> rfl) rfl rfl ?_
 refine R_alloc (by simp (disch := first | omega | (simp only [List.length_map, List.length_append, List.length_set, List.length_cons, List.length_nil]; omega)) only [go_sem, ↓reduceIte, Nat.reduceEqDiff, reduceCtorEq, hsx, hsy] <;> rfl) rfl (by simp only [List.map_cons, List.map_nil]; rfl) ?_
 have tr : ∀ a b c d e : AV, let l := lc_of_gen a b c; trim ((2,e)::(1,d)::l) l = [(0,a),(1,d),(2,e)] := by intros; rfl
 refine R_nil (tr ..) ?_; clear tr
 refine then_n ?_
 refine at_seq rfl ?_
 refine rg rfl ?_
 refine Rq ?_
 refine R_q rfl (by simp (disch := first | omega | (simp only [List.length_map, List.length_append, List.length_set, List.length_cons, List.length_nil]; omega)) only [go_sem, ↓reduceIte, Nat.reduceEqDiff, reduceCtorEq, hsx, hsy] <;> rfl) ?_
 refine Rq ?_
 refine R_q rfl (by simp (disch := first | omega | (simp only [List.length_map, List.length_append, List.length_set, List.length_cons, List.length_nil]; omega)) only [go_sem, ↓reduceIte, Nat.reduceEqDiff, reduceCtorEq, hsx, hsy] <;> rfl) ?_
 refine Rq ?_
 refine R_q rfl (by simp (disch := first | omega | (simp only [List.length_map, List.length_append, List.length_set, List.length_cons, List.length_nil]; omega)) only [go_sem, ↓reduceIte, Nat.reduceEqDiff, reduceCtorEq, hsx, hsy] <;> rfl) ?_
 refine Rq ?_
 refine R_q rfl (by simp (disch := first | omega | (simp only [List.length_map, List.length_append, List.length_set, List.length_cons, List.length_nil]; omega)) only [go_sem, ↓reduceIte, Nat.reduceEqDiff, reduceCtorEq, hsx, hsy] <;> rfl) ?_
 refine Rq ?_
 refine R_q rfl (by simp (disch := first | omega | (simp only [List.length_map, List.length_append, List.length_set, List.length_cons, List.length_nil]; omega)) only [go_sem, ↓reduceIte, Nat.reduceEqDiff, reduceCtorEq, hsx, hsy] <;> rfl) ?_
 refine Rq ?_
 refine R_q rfl (by simp (disch := first | omega | (simp only [List.length_map, List.length_append, List.length_set, List.length_cons, List.length_nil]; omega)) only [go_sem, ↓reduceIte, Nat.reduceEqDiff, reduceCtorEq, hsx, hsy] <;> rfl) ?_
 refine Rq ?_
 refine R_q rfl (by simp (disch := first | omega | (simp only [List.length_map, List.length_append, List.length_set, List.length_cons, List.length_nil]; omega)) only [go_sem, ↓reduceIte, Nat.reduceEqDiff, reduceCtorEq, hsx, hsy] <;> rfl) ?_
 refine R_q rfl (by simp only [go_sem, ↓reduceIte, Nat.reduceEqDiff, List.map_cons, List.map_nil]; exact bld34g hcx hcy) ?_
 refine R_store ty34 (by simp (disch := first | omega | (simp only [List.length_map, List.length_append, List.length_set, List.length_cons, List.length_nil]; omega)) only [go_sem, ↓reduceIte, Nat.reduceEqDiff, reduceCtorEq, hsx, hsy] <;> rfl) (by simp (disch := first | omega | (simp only [List.length_map, List.length_append, List.length_set, List.length_cons, List.length_nil]; omega)) only [go_sem, ↓reduceIte, Nat.reduceEqDiff, reduceCtorEq, hsx, hsy] <;> rfl) (by simp (disch := first | omega | (simp only [List.length_map, List.length_append, List.length_set, List.length_cons, List.length_nil]; omega)) only [go_sem, ↓reduceIte, Nat.reduceEqDiff, reduceCtorEq, hsx, hsy] <;> rfl) (by simp) (by rfl) (by simp (disch := first | omega | (simp only [List.length_map, List.length_append, List.length_set, List.length_cons, List.length_nil]; omega)) only [go_sem, ↓reduceIte, Nat.reduceEqDiff, reduceCtorEq, hsx, hsy] <;> rfl) ?_
 have tr : ∀ a b c d e f g h i j k m n o p q r s : AV, let l := lc_of_gen a b c; trim ((17,s)::(16,r)::(15,q)::(14,p)::(13,o)::(12,n)::(11,m)::(10,k)::(9,j)::(8,i)::(7,h)::(6,g)::(5,f)::(4,e)::(3,d)::l) l = [(0,a),(1,b),(2,c)] := by intros; rfl
 refine R_nil (tr ..) ?_; clear tr
 refine then_n ?_
 refine at_ret rfl ?_
 refine fin_pure (rs := [.cell 2 34]) rfl (by simp only [go_sem, ↓reduceIte, Nat.reduceEqDiff]; rfl) (by simp only [go_sem, ↓reduceIte, Nat.reduceEqDiff]; rfl) ?_
 refine ⟨?_, rfl⟩
 show AV.agg (List.map _ [rowsAV rows, AV.i per, AV.i tot, AV.i wth, AV.i balls, x, y]) = _
 simp only [List.map_cons, List.map_nil, frz_rows, frz_i, hx, hy]

abbrev lc_small40_len (a b c d e f g h i j : AV) : Env := [(0,a),(1,b),(2,c),(4,d),(21,e),(24,f),(25,g),(26,h),(27,i),(32,j)]
theorem small40_len (lim : Nat) (H : Heap) (rows : Tb) (per tot wth balls : Int) (l m : List Stp) :
    ACall sig lim 29 [.agg [rowsAV rows, AV.i per, AV.i tot, AV.i wth, AV.i balls, stopsAV l, stopsAV m]] H fun r H' => (∃ b : Bool, r = .v (.bool b) ∧ (b = true → l.length ≤ 1000 ∧ m.length ≤ 1000)) ∧ H' = H := by
 refine ACall_pure (fa := fa29) rfl rfl rfl rfl ?_
 have tr : ∀ a0 : AV, env0 fa29.keep [a0] = [(0,a0),(1,.any),(2,.any),(4,.any),(21,.any),(24,.any),(25,.any),(26,.any),(27,.any),(32,.any)] := fun a0 => rfl
 refine W_to (tr _) ?_; clear tr
 refine at_seq rfl ?_
 refine rg rfl ?_
 refine R_box rfl (by simp (disch := first | omega | (simp only [List.length_map, List.length_append, List.length_set, List.length_cons, List.length_nil]; omega)) only [go_sem, ↓reduceIte, Nat.reduceEqDiff, reduceCtorEq] <;> rfl) rfl rfl ?_
 refine Rq ?_
 have tr : ∀ a b c d e f g h i j k m : AV, let l := lc_small40_len a b c d e f g h i j; trim ((2,m)::(1,k)::l) l = [(0,a),(1,k),(2,m),(4,d),(21,e),(24,f),(25,g),(26,h),(27,i),(32,j)] := by intros; rfl
 refine R_nil (tr ..) ?_; clear tr
 refine then_n ?_
 refine at_seq rfl ?_
 refine at_seq rfl ?_
 refine rg rfl ?_
 refine Rq ?_
 refine Rq ?_
 refine Rq ?_
 refine Rq ?_
 refine Rq ?_
 refine Rp_split (fun h1 => ?_) (fun h1 => ?_)
 ·
  try simp only [decide_eq_true_eq, decide_eq_false_iff_not, Bool.not_eq_true', Bool.not_eq_false', beq_iff_eq, beq_eq_false_iff_ne, ne_eq] at h1
  refine Rn ?_
  refine Rn ?_
  refine Rn ?_
  refine Rn ?_
  refine Rq ?_
  refine Rq ?_
  refine Rn ?_
  refine Rn ?_
  refine Rn ?_
  refine Rn ?_
  refine Rn ?_
  refine Rq ?_
  have tr : ∀ a b c d e f g h i j k m n o p q r s t u v w x y z A B : AV, let l := lc_small40_len a b c d e f g h i j; trim ((21,B)::(20,A)::(19,z)::(18,y)::(17,x)::(16,w)::(15,v)::(14,u)::(13,t)::(12,s)::(11,r)::(10,q)::(9,p)::(8,o)::(7,n)::(6,m)::(5,k)::l) l = [(0,a),(1,b),(2,c),(4,d),(21,B),(24,f),(25,g),(26,h),(27,i),(32,j)] := by intros; rfl
  refine R_nil (tr ..) ?_; clear tr
  refine then_n ?_
  refine cdt ?_
  refine at_seq rfl ?_
  refine rg rfl ?_
  refine Rq ?_
  have tr : ∀ a b c d e f g h i j k : AV, let l := lc_small40_len a b c d e f g h i j; trim ((2,k)::l) l = [(0,a),(1,b),(2,k),(4,d),(21,e),(24,f),(25,g),(26,h),(27,i),(32,j)] := by intros; rfl
  refine R_nil (tr ..) ?_; clear tr
  refine then_n ?_
  refine at_ret rfl ?_
  refine then_r ?_
  refine fpure ?_
  exact ⟨⟨_, rfl, fun hh => by first | omega | (cases hh; done) | (simp only [decide_eq_true_eq] at hh; omega)⟩, rfl⟩
 ·
  try simp only [decide_eq_true_eq, decide_eq_false_iff_not, Bool.not_eq_true', Bool.not_eq_false', beq_iff_eq, beq_eq_false_iff_ne, ne_eq] at h1
  refine Ry ?_
  refine Rq ?_
  refine Ry ?_
  refine Rq ?_
  refine Ry ?_
  refine Rq ?_
  refine Ry ?_
  refine Rq ?_
  refine Rq ?_
  refine Rq ?_
  refine Rp_split (fun h2 => ?_) (fun h2 => ?_)
  ·
   try simp only [decide_eq_true_eq, decide_eq_false_iff_not, Bool.not_eq_true', Bool.not_eq_false', beq_iff_eq, beq_eq_false_iff_ne, ne_eq] at h2
   refine Rn ?_
   refine Rn ?_
   refine Rn ?_
   refine Rn ?_
   refine Rn ?_
   refine Rq ?_
   have tr : ∀ a b c d e f g h i j k m n o p q r s t u v w x y z A B : AV, let l := lc_small40_len a b c d e f g h i j; trim ((21,B)::(20,A)::(19,z)::(18,y)::(17,x)::(16,w)::(15,v)::(14,u)::(13,t)::(12,s)::(11,r)::(10,q)::(9,p)::(8,o)::(7,n)::(6,m)::(5,k)::l) l = [(0,a),(1,b),(2,c),(4,d),(21,B),(24,f),(25,g),(26,h),(27,i),(32,j)] := by intros; rfl
   refine R_nil (tr ..) ?_; clear tr
   refine then_n ?_
   refine cdt ?_
   refine at_seq rfl ?_
   refine rg rfl ?_
   refine Rq ?_
   have tr : ∀ a b c d e f g h i j k : AV, let l := lc_small40_len a b c d e f g h i j; trim ((2,k)::l) l = [(0,a),(1,b),(2,k),(4,d),(21,e),(24,f),(25,g),(26,h),(27,i),(32,j)] := by intros; rfl
   refine R_nil (tr ..) ?_; clear tr
   refine then_n ?_
   refine at_ret rfl ?_
   refine then_r ?_
   refine fpure ?_
   exact ⟨⟨_, rfl, fun hh => by first | omega | (cases hh; done) | (simp only [decide_eq_true_eq] at hh; omega)⟩, rfl⟩
  ·
   try simp only [decide_eq_true_eq, decide_eq_false_iff_not, Bool.not_eq_true', Bool.not_eq_false', beq_iff_eq, beq_eq_false_iff_ne, ne_eq] at h2
   refine Ry ?_
   refine Rq ?_
   refine Ry ?_
   refine Rq ?_
   refine Ry ?_
   refine Rq ?_
   refine Ry ?_
   refine Rq ?_
   refine Ry ?_
   refine Rq ?_
   refine Rq ?_
   have tr : ∀ a b c d e f g h i j k m n o p q r s t u v w x y z A B : AV, let l := lc_small40_len a b c d e f g h i j; trim ((21,B)::(20,A)::(19,z)::(18,y)::(17,x)::(16,w)::(15,v)::(14,u)::(13,t)::(12,s)::(11,r)::(10,q)::(9,p)::(8,o)::(7,n)::(6,m)::(5,k)::l) l = [(0,a),(1,b),(2,c),(4,d),(21,B),(24,f),(25,g),(26,h),(27,i),(32,j)] := by intros; rfl
   refine R_nil (tr ..) ?_; clear tr
   refine then_n ?_
   refine cdd (fun h3 => ?_) (fun h3 => ?_)
   ·
    try simp only [decide_eq_true_eq, decide_eq_false_iff_not, Bool.not_eq_true', Bool.not_eq_false', beq_iff_eq, beq_eq_false_iff_ne, ne_eq] at h3
    refine at_seq rfl ?_
    refine rg rfl ?_
    refine Rq ?_
    have tr : ∀ a b c d e f g h i j k : AV, let l := lc_small40_len a b c d e f g h i j; trim ((2,k)::l) l = [(0,a),(1,b),(2,k),(4,d),(21,e),(24,f),(25,g),(26,h),(27,i),(32,j)] := by intros; rfl
    refine R_nil (tr ..) ?_; clear tr
    refine then_n ?_
    refine at_ret rfl ?_
    refine then_r ?_
    refine fpure ?_
    exact ⟨⟨_, rfl, fun hh => by first | omega | (cases hh; done) | (simp only [decide_eq_true_eq] at hh; omega)⟩, rfl⟩
   ·
    try simp only [decide_eq_true_eq, decide_eq_false_iff_not, Bool.not_eq_true', Bool.not_eq_false', beq_iff_eq, beq_eq_false_iff_ne, ne_eq] at h3
    refine at_skip rfl ?_
    refine then_n ?_
    refine at_seq rfl ?_
    refine at_seq rfl ?_
    refine rg rfl ?_
    refine Rq ?_
    refine Rq ?_
    refine Rq ?_
    refine Rq ?_
    refine Rq ?_
    have tr : ∀ a b c d e f g h i j k m n o p : AV, let l := lc_small40_len a b c d e f g h i j; trim ((26,p)::(25,o)::(24,n)::(23,m)::(22,k)::l) l = [(0,a),(1,b),(2,c),(4,d),(21,e),(24,n),(25,o),(26,p),(27,i),(32,j)] := by intros; rfl
    refine R_nil (tr ..) ?_; clear tr
    refine then_n ?_
    refine at_block rfl ?_
    refine loop_n rfl (fun mm kv H' => ∃ u : Nat, ∃ x2 x4 x27 x32 : AV, (kv = [(2, x2), (4, x4), (26, AV.i u), (27, x27), (32, x32)]) ∧ (mm = rows.length - u) ∧ (H' = H ++ [some [rowsAV rows, AV.i per, AV.i tot, AV.i wth, AV.i balls, stopsAV l, stopsAV m]]) ∧ (u ≤ rows.length)) ⟨0, _, _, _, _, rfl, rfl, rfl, by omega⟩ (by rfl) ?_
    rintro mm kv H' ⟨u, x2, x4, x27, x32, rfl, rfl, rfl, hu⟩
    have tr : ∀ a b c d e f g h i j k m n o p : AV, upd [(0,a),(1,b),(2,c),(4,d),(21,e),(24,f),(25,g),(26,h),(27,i),(32,j)] [(2,k),(4,m),(26,n),(27,o),(32,p)] = [(0,a),(1,b),(2,k),(4,m),(21,e),(24,f),(25,g),(26,n),(27,o),(32,p)] := by intros; rfl
    refine W_to (tr ..) ?_; clear tr
    refine at_seq rfl ?_
    refine rg rfl ?_
    refine Rq ?_
    have tr : ∀ a b c d e f g h i j k : AV, let l := lc_small40_len a b c d e f g h i j; trim ((27,k)::l) l = [(0,a),(1,b),(2,c),(4,d),(21,e),(24,f),(25,g),(26,h),(27,k),(32,j)] := by intros; rfl
    refine R_nil (tr ..) ?_; clear tr
    refine then_n ?_
    refine at_seq rfl ?_
    refine cdd (fun h4 => ?_) (fun h4 => ?_)
    ·
     try simp only [decide_eq_true_eq, decide_eq_false_iff_not, Bool.not_eq_true', Bool.not_eq_false', beq_iff_eq, beq_eq_false_iff_ne, ne_eq] at h4
     refine at_skip rfl ?_
     refine then_n ?_
     refine at_seq rfl ?_
     refine at_block rfl ?_
     refine at_seq rfl ?_
     refine rg rfl ?_
     refine Rq ?_
     refine Rq ?_
     refine Rq ?_
     have tr : ∀ a b c d e f g h i j k m n : AV, let l := lc_small40_len a b c d e f g h i j; trim ((4,n)::(29,m)::(28,k)::l) l = [(0,a),(1,b),(2,c),(4,n),(21,e),(24,f),(25,g),(26,h),(27,i),(32,j)] := by intros; rfl
     refine R_nil (tr ..) ?_; clear tr
     refine then_n ?_
     refine at_seq rfl ?_
     refine rg rfl ?_
     refine Rq ?_
     refine Rq ?_
     refine Rq ?_
     have tr : ∀ a b c d e f g h i j k m n : AV, let l := lc_small40_len a b c d e f g h i j; trim ((32,n)::(31,m)::(30,k)::l) l = [(0,a),(1,b),(2,c),(4,d),(21,e),(24,f),(25,g),(26,h),(27,i),(32,n)] := by intros; rfl
     refine R_nil (tr ..) ?_; clear tr
     refine then_n ?_
     refine cdd (fun h5 => ?_) (fun h5 => ?_)
     ·
      try simp only [decide_eq_true_eq, decide_eq_false_iff_not, Bool.not_eq_true', Bool.not_eq_false', beq_iff_eq, beq_eq_false_iff_ne, ne_eq] at h5
      refine at_seq rfl ?_
      refine rg rfl ?_
      refine Rq ?_
      have tr : ∀ a b c d e f g h i j k : AV, let l := lc_small40_len a b c d e f g h i j; trim ((2,k)::l) l = [(0,a),(1,b),(2,k),(4,d),(21,e),(24,f),(25,g),(26,h),(27,i),(32,j)] := by intros; rfl
      refine R_nil (tr ..) ?_; clear tr
      refine then_n ?_
      refine at_ret rfl ?_
      refine blk_r ?_
      refine then_r ?_
      refine then_r ?_
      refine blk_r ?_
      refine then_r ?_
      refine fpure ?_
      exact ⟨⟨_, rfl, fun hh => by first | omega | (cases hh; done) | (simp only [decide_eq_true_eq] at hh; omega)⟩, rfl⟩
     ·
      try simp only [decide_eq_true_eq, decide_eq_false_iff_not, Bool.not_eq_true', Bool.not_eq_false', beq_iff_eq, beq_eq_false_iff_ne, ne_eq] at h5
      refine at_skip rfl ?_
      refine blk_n ?_
      refine then_n ?_
      refine rg rfl ?_
      refine Rq ?_
      refine Rq ?_
      have tr : ∀ a b c d e f g h i j k m : AV, let l := lc_small40_len a b c d e f g h i j; trim ((26,m)::(33,k)::l) l = [(0,a),(1,b),(2,c),(4,d),(21,e),(24,f),(25,g),(26,m),(27,i),(32,j)] := by intros; rfl
      refine R_nil (tr ..) ?_; clear tr
      refine then_n ?_
      exact ⟨_, _, ⟨u + 1, _, _, _, _, rfl, rfl, rfl, by omega⟩, by rfl, by omega⟩
    ·
     try simp only [decide_eq_true_eq, decide_eq_false_iff_not, Bool.not_eq_true', Bool.not_eq_false', beq_iff_eq, beq_eq_false_iff_ne, ne_eq] at h4
     refine at_exit rfl ?_
     refine then_x ?_
     refine then_x ?_
     refine blk_x ?_
     refine then_n ?_
     refine at_seq rfl ?_
     refine rg rfl ?_
     refine Rq ?_
     have tr : ∀ a b c d e f g h i j k : AV, let l := lc_small40_len a b c d e f g h i j; trim ((2,k)::l) l = [(0,a),(1,b),(2,k),(4,d),(21,e),(24,f),(25,g),(26,h),(27,i),(32,j)] := by intros; rfl
     refine R_nil (tr ..) ?_; clear tr
     refine then_n ?_
     refine at_ret rfl ?_
     refine fpure ?_
     exact ⟨⟨_, rfl, fun hh => by first | omega | (cases hh; done) | (simp only [decide_eq_true_eq] at hh; omega)⟩, rfl⟩

end Go.Proofs.Ytaoondlakhocnaa
end
section
set_option linter.unusedSimpArgs false
set_option linter.unusedVariables false
set_option maxHeartbeats 40000000
set_option maxRecDepth 4000
namespace Go.Proofs.Ytaoondlakhocnaa
open Go Go.Am

abbrev lc_dvd_ok (a b c d e f g h i j k m n o p : AV) : Env := [(0,a),(1,b),(4,c),(6,d),(7,e),(8,f),(9,g),(10,h),(11,i),(12,j),(13,k),(17,m),(18,n),(19,o),(29,p)]
theorem dvd_ok (lim : Nat) (H : Heap) (l : List Stp) (ns : List Int) (hl : l.length ≤ 1000) (hn : ns.length ≤ 1000) :
    ACall sig lim 20 [stopsAV l, rowAV ns] H fun r H' => r = stopsAV (dvd l ns) ∧ H' = H := by
 refine ACall_pure (fa := fa20) rfl rfl rfl rfl ?_
 have tr : ∀ a0 a1 : AV, env0 fa20.keep [a0, a1] = [(0,a0),(1,a1),(4,.any),(6,.any),(7,.any),(8,.any),(9,.any),(10,.any),(11,.any),(12,.any),(13,.any),(17,.any),(18,.any),(19,.any),(29,.any)] := fun a0 a1 => rfl
 refine W_to (tr _ _) ?_; clear tr
 refine at_seq rfl ?_
 refine rg rfl ?_
 refine Rq ?_
 have tr : ∀ a b c d e f g h i j k m n o p q : AV, let l := lc_dvd_ok a b c d e f g h i j k m n o p; trim ((4,q)::l) l = [(0,a),(1,b),(4,q),(6,d),(7,e),(8,f),(9,g),(10,h),(11,i),(12,j),(13,k),(17,m),(18,n),(19,o),(29,p)] := by intros; rfl
 refine R_nil (tr ..) ?_; clear tr
 refine then_n ?_
 refine at_seq rfl ?_
 refine at_seq rfl ?_
 refine rg rfl ?_
 refine Rq ?_
 refine Rq ?_
 refine Rq ?_
 have tr : ∀ a b c d e f g h i j k m n o p q r s : AV, let l := lc_dvd_ok a b c d e f g h i j k m n o p; trim ((12,s)::(11,r)::(10,q)::l) l = [(0,a),(1,b),(4,c),(6,d),(7,e),(8,f),(9,g),(10,q),(11,r),(12,s),(13,k),(17,m),(18,n),(19,o),(29,p)] := by intros; rfl
 refine R_nil (tr ..) ?_; clear tr
 refine then_n ?_
 refine at_block rfl ?_
 refine loop_n rfl (fun mm kv H' => ∃ u : Nat, ∃ m : List Stp, ∃ x6 x7 x8 x9 x13 x17 x18 x19 x29 : AV, (kv = [(0, stopsAV m), (6, x6), (7, x7), (8, x8), (9, x9), (12, AV.i u), (13, x13), (17, x17), (18, x18), (19, x19), (29, x29)]) ∧ (mm = ns.length - u) ∧ (H = H') ∧ (u ≤ ns.length) ∧ (m = dvd l (ns.take u))) ⟨0, l, _, _, _, _, _, _, _, _, _, rfl, rfl, by rfl, by omega, by rfl⟩ (by rfl) ?_
 rintro mm kv H1 ⟨u, m, x6, x7, x8, x9, x13, x17, x18, x19, x29, rfl, rfl, hH1, hu, hm⟩
 have tr : ∀ a b c d e f g h i j k m n o p q r s t u v w x y z A : AV, upd [(0,a),(1,b),(4,c),(6,d),(7,e),(8,f),(9,g),(10,h),(11,i),(12,j),(13,k),(17,m),(18,n),(19,o),(29,p)] [(0,q),(6,r),(7,s),(8,t),(9,u),(12,v),(13,w),(17,x),(18,y),(19,z),(29,A)] = [(0,q),(1,b),(4,c),(6,r),(7,s),(8,t),(9,u),(10,h),(11,i),(12,v),(13,w),(17,x),(18,y),(19,z),(29,A)] := by intros; rfl
 refine W_to (tr ..) ?_; clear tr
 subst hH1
 have hmd : m.length ≤ max l.length 20 := hm ▸ (dvd_dv l (ns.take u)).len
 refine at_seq rfl ?_
 refine rg rfl ?_
 refine Rq ?_
 have tr : ∀ a b c d e f g h i j k m n o p q : AV, let l := lc_dvd_ok a b c d e f g h i j k m n o p; trim ((13,q)::l) l = [(0,a),(1,b),(4,c),(6,d),(7,e),(8,f),(9,g),(10,h),(11,i),(12,j),(13,q),(17,m),(18,n),(19,o),(29,p)] := by intros; rfl
 refine R_nil (tr ..) ?_; clear tr
 refine then_n ?_
 refine at_seq rfl ?_
 refine cdd (fun h1 => ?_) (fun h1 => ?_)
 ·
  try simp only [decide_eq_true_eq, decide_eq_false_iff_not, Bool.not_eq_true', Bool.not_eq_false', beq_iff_eq, beq_eq_false_iff_ne, ne_eq] at h1
  refine at_skip rfl ?_
  refine then_n ?_
  refine at_seq rfl ?_
  refine at_block rfl ?_
  refine at_seq rfl ?_
  refine rg rfl ?_
  refine Rq ?_
  refine R_q (r := AV.i (gi ns u)) rfl (by simp (disch := first | omega | (simp only [List.length_map, List.length_append, List.length_set, List.length_cons, List.length_nil]; omega)) only [go_sem, ↓reduceIte, Nat.reduceEqDiff, reduceCtorEq] <;> first | rfl | exact gi_at (ns := ns) (u := u) (by omega) | exact gi_at1 (ns := ns) (u := u) (by omega)) ?_
  refine Rq ?_
  have tr : ∀ a b c d e f g h i j k m n o p q r s : AV, let l := lc_dvd_ok a b c d e f g h i j k m n o p; trim ((6,s)::(15,r)::(14,q)::l) l = [(0,a),(1,b),(4,c),(6,s),(7,e),(8,f),(9,g),(10,h),(11,i),(12,j),(13,k),(17,m),(18,n),(19,o),(29,p)] := by intros; rfl
  refine R_nil (tr ..) ?_; clear tr
  refine then_n ?_
  refine at_seq rfl ?_
  refine rg rfl ?_
  refine Rq ?_
  refine Rq ?_
  refine Rq ?_
  have tr : ∀ a b c d e f g h i j k m n o p q r s : AV, let l := lc_dvd_ok a b c d e f g h i j k m n o p; trim ((18,s)::(17,r)::(16,q)::l) l = [(0,a),(1,b),(4,c),(6,d),(7,e),(8,f),(9,g),(10,h),(11,i),(12,j),(13,k),(17,r),(18,s),(19,o),(29,p)] := by intros; rfl
  refine R_nil (tr ..) ?_; clear tr
  refine then_n ?_
  refine at_block rfl ?_
  refine loop_n rfl (fun mm kv H' => ∃ v : Nat, ∃ x7 x8 x9 x19 x29 : AV, (kv = [(0, stopsAV m), (7, x7), (8, x8), (9, x9), (18, AV.i v), (19, x19), (29, x29)]) ∧ (mm = m.length - v) ∧ (H = H') ∧ (v ≤ m.length) ∧ (∀ k, k < v → splE m (k : Int) (gi ns u) ≠ 0)) ⟨0, _, _, _, _, _, rfl, rfl, by rfl, by omega, by exact fun k h => absurd h (by omega)⟩ (by rfl) ?_
  rintro mm kv H2 ⟨v, x7, x8, x9, x19, x29, rfl, rfl, hH2, hv, hk⟩
  have tr : ∀ a b c d e f g h i j k m n o p q r s t u v w : AV, upd [(0,a),(1,b),(4,c),(6,d),(7,e),(8,f),(9,g),(10,h),(11,i),(12,j),(13,k),(17,m),(18,n),(19,o),(29,p)] [(0,q),(7,r),(8,s),(9,t),(18,u),(19,v),(29,w)] = [(0,q),(1,b),(4,c),(6,d),(7,r),(8,s),(9,t),(10,h),(11,i),(12,j),(13,k),(17,m),(18,u),(19,v),(29,w)] := by intros; rfl
  refine W_to (tr ..) ?_; clear tr
  subst hH2
  refine at_seq rfl ?_
  refine rg rfl ?_
  refine Rq ?_
  have tr : ∀ a b c d e f g h i j k m n o p q : AV, let l := lc_dvd_ok a b c d e f g h i j k m n o p; trim ((19,q)::l) l = [(0,a),(1,b),(4,c),(6,d),(7,e),(8,f),(9,g),(10,h),(11,i),(12,j),(13,k),(17,m),(18,n),(19,q),(29,p)] := by intros; rfl
  refine R_nil (tr ..) ?_; clear tr
  refine then_n ?_
  refine at_seq rfl ?_
  refine cdd (fun h2 => ?_) (fun h2 => ?_)
  ·
   try simp only [decide_eq_true_eq, decide_eq_false_iff_not, Bool.not_eq_true', Bool.not_eq_false', beq_iff_eq, beq_eq_false_iff_ne, ne_eq] at h2
   refine at_skip rfl ?_
   refine then_n ?_
   refine at_seq rfl ?_
   refine at_block rfl ?_
   refine at_seq rfl ?_
   refine rg rfl ?_
   refine Rq ?_
   refine Rq ?_
   have tr : ∀ a b c d e f g h i j k m n o p q r : AV, let l := lc_dvd_ok a b c d e f g h i j k m n o p; trim ((7,r)::(20,q)::l) l = [(0,a),(1,b),(4,c),(6,d),(7,r),(8,f),(9,g),(10,h),(11,i),(12,j),(13,k),(17,m),(18,n),(19,o),(29,p)] := by intros; rfl
   refine R_nil (tr ..) ?_; clear tr
   refine then_n ?_
   refine at_seq rfl ?_
   refine rg rfl ?_
   refine Rq ?_
   refine Rq ?_
   refine Rq ?_
   refine Rcall ?_
   refine ACall_eq (split_ok _ _ m v (gi ns u)) ?_
   refine Rq ?_
   refine Rq ?_
   refine Rq ?_
   refine Rq ?_
   refine Rq ?_
   have tr : ∀ a b c d e f g h i j k m n o p q r s t u v w x y : AV, let l := lc_dvd_ok a b c d e f g h i j k m n o p; trim ((9,y)::(8,x)::(27,w)::(26,v)::(21,u)::(25,t)::(24,s)::(23,r)::(22,q)::l) l = [(0,a),(1,b),(4,c),(6,d),(7,e),(8,x),(9,y),(10,h),(11,i),(12,j),(13,k),(17,m),(18,n),(19,o),(29,p)] := by intros; rfl
   refine R_nil (tr ..) ?_; clear tr
   refine then_n ?_
   refine at_seq rfl ?_
   refine rg rfl ?_
   refine Rq ?_
   refine Rq ?_
   have tr : ∀ a b c d e f g h i j k m n o p q r : AV, let l := lc_dvd_ok a b c d e f g h i j k m n o p; trim ((29,r)::(28,q)::l) l = [(0,a),(1,b),(4,c),(6,d),(7,e),(8,f),(9,g),(10,h),(11,i),(12,j),(13,k),(17,m),(18,n),(19,o),(29,r)] := by intros; rfl
   refine R_nil (tr ..) ?_; clear tr
   refine then_n ?_
   refine cdd (fun h3 => ?_) (fun h3 => ?_)
   ·
    try simp only [decide_eq_true_eq, decide_eq_false_iff_not, Bool.not_eq_true', Bool.not_eq_false', beq_iff_eq, beq_eq_false_iff_ne, ne_eq] at h3
    refine at_seq rfl ?_
    refine rg rfl ?_
    have hz : splE m (v : Int) (gi ns u) = 0 := by assumption
    rewrite [splA_0 hz, show (v : Int).toNat = v by omega]
    refine Rq ?_
    refine Rq ?_
    have tr : ∀ a b c d e f g h i j k m n o p q r : AV, let l := lc_dvd_ok a b c d e f g h i j k m n o p; trim ((0,r)::(30,q)::l) l = [(0,r),(1,b),(4,c),(6,d),(7,e),(8,f),(9,g),(10,h),(11,i),(12,j),(13,k),(17,m),(18,n),(19,o),(29,p)] := by intros; rfl
    refine R_nil (tr ..) ?_; clear tr
    refine then_n ?_
    refine at_exit rfl ?_
    refine blk_p (by decide) ?_
    refine then_x ?_
    refine then_x ?_
    refine blk_x ?_
    refine blk_n ?_
    refine then_n ?_
    refine rg rfl ?_
    refine Rq ?_
    refine Rq ?_
    have tr : ∀ a b c d e f g h i j k m n o p q r : AV, let l := lc_dvd_ok a b c d e f g h i j k m n o p; trim ((12,r)::(32,q)::l) l = [(0,a),(1,b),(4,c),(6,d),(7,e),(8,f),(9,g),(10,h),(11,i),(12,r),(13,k),(17,m),(18,n),(19,o),(29,p)] := by intros; rfl
    refine R_nil (tr ..) ?_; clear tr
    refine then_n ?_
    exact ⟨_, _, ⟨u + 1, (spl m v (gi ns u)), _, _, _, _, _, _, _, _, _, rfl, rfl, by rfl, by omega, by first | (rw [dvd_step (by omega), ← hm, dv1_miss (by omega) hk]; done) | (rw [dvd_step (by omega), ← hm, dv1_hit (by omega) hk hz]; done)⟩, by rfl, by omega⟩
   ·
    try simp only [decide_eq_true_eq, decide_eq_false_iff_not, Bool.not_eq_true', Bool.not_eq_false', beq_iff_eq, beq_eq_false_iff_ne, ne_eq] at h3
    refine at_skip rfl ?_
    refine blk_n ?_
    refine then_n ?_
    refine rg rfl ?_
    refine Rq ?_
    refine Rq ?_
    have tr : ∀ a b c d e f g h i j k m n o p q r : AV, let l := lc_dvd_ok a b c d e f g h i j k m n o p; trim ((18,r)::(31,q)::l) l = [(0,a),(1,b),(4,c),(6,d),(7,e),(8,f),(9,g),(10,h),(11,i),(12,j),(13,k),(17,m),(18,r),(19,o),(29,p)] := by intros; rfl
    refine R_nil (tr ..) ?_; clear tr
    refine then_n ?_
    exact ⟨_, _, ⟨v + 1, _, _, _, _, _, rfl, rfl, by rfl, by omega, by exact all_step3 hk (by assumption)⟩, by rfl, by omega⟩
  ·
   try simp only [decide_eq_true_eq, decide_eq_false_iff_not, Bool.not_eq_true', Bool.not_eq_false', beq_iff_eq, beq_eq_false_iff_ne, ne_eq] at h2
   refine at_exit rfl ?_
   refine then_x ?_
   refine then_x ?_
   refine blk_x ?_
   refine blk_n ?_
   refine then_n ?_
   refine rg rfl ?_
   refine Rq ?_
   refine Rq ?_
   have tr : ∀ a b c d e f g h i j k m n o p q r : AV, let l := lc_dvd_ok a b c d e f g h i j k m n o p; trim ((12,r)::(32,q)::l) l = [(0,a),(1,b),(4,c),(6,d),(7,e),(8,f),(9,g),(10,h),(11,i),(12,r),(13,k),(17,m),(18,n),(19,o),(29,p)] := by intros; rfl
   refine R_nil (tr ..) ?_; clear tr
   refine then_n ?_
   exact ⟨_, _, ⟨u + 1, m, _, _, _, _, _, _, _, _, _, rfl, rfl, by rfl, by omega, by first | (rw [dvd_step (by omega), ← hm, dv1_miss (by omega) hk]; done) | (rw [dvd_step (by omega), ← hm, dv1_hit (by omega) hk hz]; done)⟩, by rfl, by omega⟩
 ·
  try simp only [decide_eq_true_eq, decide_eq_false_iff_not, Bool.not_eq_true', Bool.not_eq_false', beq_iff_eq, beq_eq_false_iff_ne, ne_eq] at h1
  refine at_exit rfl ?_
  refine then_x ?_
  refine then_x ?_
  refine blk_x ?_
  refine then_n ?_
  refine at_seq rfl ?_
  refine rg rfl ?_
  refine Rq ?_
  refine Rq ?_
  have tr : ∀ a b c d e f g h i j k m n o p q r : AV, let l := lc_dvd_ok a b c d e f g h i j k m n o p; trim ((4,r)::(33,q)::l) l = [(0,a),(1,b),(4,r),(6,d),(7,e),(8,f),(9,g),(10,h),(11,i),(12,j),(13,k),(17,m),(18,n),(19,o),(29,p)] := by intros; rfl
  refine R_nil (tr ..) ?_; clear tr
  refine then_n ?_
  refine at_ret rfl ?_
  refine fpure ?_
  refine ⟨?_, rfl⟩
  rw [hm, dvd_full hu (by omega)]
  exact frz_stops _ _ _ _

abbrev lc_small20_ok (a b c : AV) : Env := [(0,a),(1,b),(2,c)]
theorem small20_ok (lim : Nat) (H : Heap) (rows : Tb) (per tot wth balls : Int) (l m : List Stp) :
    ACall sig lim 17 [.agg [rowsAV rows, AV.i per, AV.i tot, AV.i wth, AV.i balls, stopsAV l, stopsAV m]] H fun r H' => (∃ b : Bool, r = .v (.bool b) ∧ (b = true → l.length ≤ 8 ∧ m.length ≤ 8)) ∧ H' = H := by
 refine ACall_pure (fa := fa17) rfl rfl rfl rfl ?_
 have tr : ∀ a0 : AV, env0 fa17.keep [a0] = [(0,a0),(1,.any),(2,.any)] := fun a0 => rfl
 refine W_to (tr _) ?_; clear tr
 refine at_seq rfl ?_
 refine rg rfl ?_
 refine R_box rfl (by simp (disch := first | omega | (simp only [List.length_map, List.length_append, List.length_set, List.length_cons, List.length_nil]; omega)) only [go_sem, ↓reduceIte, Nat.reduceEqDiff, reduceCtorEq] <;> rfl) rfl rfl ?_
 refine Rq ?_
 have tr : ∀ a b c d e : AV, let l := lc_small20_ok a b c; trim ((2,e)::(1,d)::l) l = [(0,a),(1,d),(2,e)] := by intros; rfl
 refine R_nil (tr ..) ?_; clear tr
 refine then_n ?_
 refine at_seq rfl ?_
 refine rg rfl ?_
 refine Rq ?_
 refine Rq ?_
 refine Rq ?_
 refine Rq ?_
 refine Rq ?_
 refine Rp_split (fun h1 => ?_) (fun h1 => ?_)
 ·
  try simp only [decide_eq_true_eq, decide_eq_false_iff_not, Bool.not_eq_true', Bool.not_eq_false', beq_iff_eq, beq_eq_false_iff_ne, ne_eq] at h1
  refine Ry ?_
  refine Rq ?_
  refine Ry ?_
  refine Rq ?_
  refine Ry ?_
  refine Rq ?_
  refine Ry ?_
  refine Rq ?_
  refine Rq ?_
  refine Rq ?_
  refine Rp_split (fun h2 => ?_) (fun h2 => ?_)
  ·
   try simp only [decide_eq_true_eq, decide_eq_false_iff_not, Bool.not_eq_true', Bool.not_eq_false', beq_iff_eq, beq_eq_false_iff_ne, ne_eq] at h2
   refine Ry ?_
   refine Rq ?_
   refine Ry ?_
   refine Rq ?_
   refine Ry ?_
   refine Rq ?_
   refine Ry ?_
   refine Rq ?_
   refine Ry ?_
   refine Rq ?_
   refine Rq ?_
   refine Rq ?_
   have tr : ∀ a b c d e f g h i j k m n o p q r s t u v : AV, let l := lc_small20_ok a b c; trim ((2,v)::(19,u)::(18,t)::(17,s)::(16,r)::(15,q)::(14,p)::(13,o)::(12,n)::(11,m)::(10,k)::(9,j)::(8,i)::(7,h)::(6,g)::(5,f)::(4,e)::(3,d)::l) l = [(0,a),(1,b),(2,v)] := by intros; rfl
   refine R_nil (tr ..) ?_; clear tr
   refine then_n ?_
   refine at_ret rfl ?_
   refine fpure ?_
   exact ⟨⟨_, rfl, fun hh => by first | omega | (cases hh; done) | (simp only [decide_eq_true_eq] at hh; omega)⟩, rfl⟩
  ·
   try simp only [decide_eq_true_eq, decide_eq_false_iff_not, Bool.not_eq_true', Bool.not_eq_false', beq_iff_eq, beq_eq_false_iff_ne, ne_eq] at h2
   refine Rn ?_
   refine Rn ?_
   refine Rn ?_
   refine Rn ?_
   refine Rn ?_
   refine Rq ?_
   refine Rq ?_
   have tr : ∀ a b c d e f g h i j k m n o p q r s t u v : AV, let l := lc_small20_ok a b c; trim ((2,v)::(19,u)::(18,t)::(17,s)::(16,r)::(15,q)::(14,p)::(13,o)::(12,n)::(11,m)::(10,k)::(9,j)::(8,i)::(7,h)::(6,g)::(5,f)::(4,e)::(3,d)::l) l = [(0,a),(1,b),(2,v)] := by intros; rfl
   refine R_nil (tr ..) ?_; clear tr
   refine then_n ?_
   refine at_ret rfl ?_
   refine fpure ?_
   exact ⟨⟨_, rfl, fun hh => by first | omega | (cases hh; done) | (simp only [decide_eq_true_eq] at hh; omega)⟩, rfl⟩
 ·
  try simp only [decide_eq_true_eq, decide_eq_false_iff_not, Bool.not_eq_true', Bool.not_eq_false', beq_iff_eq, beq_eq_false_iff_ne, ne_eq] at h1
  refine Rn ?_
  refine Rn ?_
  refine Rn ?_
  refine Rn ?_
  refine Rq ?_
  refine Rq ?_
  refine Rn ?_
  refine Rn ?_
  refine Rn ?_
  refine Rn ?_
  refine Rn ?_
  refine Rq ?_
  refine Rq ?_
  have tr : ∀ a b c d e f g h i j k m n o p q r s t u v : AV, let l := lc_small20_ok a b c; trim ((2,v)::(19,u)::(18,t)::(17,s)::(16,r)::(15,q)::(14,p)::(13,o)::(12,n)::(11,m)::(10,k)::(9,j)::(8,i)::(7,h)::(6,g)::(5,f)::(4,e)::(3,d)::l) l = [(0,a),(1,b),(2,v)] := by intros; rfl
  refine R_nil (tr ..) ?_; clear tr
  refine then_n ?_
  refine at_ret rfl ?_
  refine fpure ?_
  exact ⟨⟨_, rfl, fun hh => by first | omega | (cases hh; done) | (simp only [decide_eq_true_eq] at hh; omega)⟩, rfl⟩

abbrev lc_of20_gen (a b c : AV) : Env := [(0,a),(1,b),(2,c)]
theorem of20_gen (lim : Nat) (H : Heap) (rows : Tb) (per tot wth balls : Int) (x y : AV) (hcx : cellsOf x = some [x]) (hcy : cellsOf y = some [y]) (hsx : storable x = true) (hsy : storable y = true) (hx : ∀ H', frz H' H.length 7 x = x) (hy : ∀ H', frz H' H.length 7 y = y) :
    ACall sig lim 18 [.agg [rowsAV rows, AV.i per, AV.i tot, AV.i wth, AV.i balls, x, y]] H fun r H' => r = .agg [rowsAV rows, AV.i per, AV.i tot, AV.i wth, AV.i balls, x, y] ∧ H' = H := by
 refine ACall_pure (fa := fa18) rfl rfl rfl rfl ?_
 have tr : ∀ a0 : AV, env0 fa18.keep [a0] = [(0,a0),(1,.any),(2,.any)] := fun a0 => rfl
 refine W_to (tr _) ?_; clear tr
 refine at_seq rfl ?_
 refine rg rfl ?_
 refine R_box rfl (by simp (disch := first | omega | (simp only [List.length_map, List.length_append, List.length_set, List.length_cons, List.length_nil]; omega)) only [go_sem, ↓reduceIte, Nat.reduceEqDiff, reduceCtorEq, hsx, hsy] <;> rfl) rfl rfl ?_
 refine R_alloc (by simp (disch := first | omega | (simp only [List.length_map, List.length_append, List.length_set, List.length_cons, List.length_nil]; omega)) only [go_sem, ↓reduceIte, Nat.reduceEqDiff, reduceCtorEq, hsx, hsy] <;> rfl) rfl (by simp only [List.map_cons, List.map_nil]; rfl) ?_
 have tr : ∀ a b c d e : AV, let l := lc_of20_gen a b c; trim ((2,e)::(1,d)::l) l = [(0,a),(1,d),(2,e)] := by intros; rfl
 refine R_nil (tr ..) ?_; clear tr
 refine then_n ?_
 refine at_seq rfl ?_
 refine rg rfl ?_
 refine Rq ?_
 refine R_q rfl (by simp (disch := first | omega | (simp only [List.length_map, List.length_append, List.length_set, List.length_cons, List.length_nil]; omega)) only [go_sem, ↓reduceIte, Nat.reduceEqDiff, reduceCtorEq, hsx, hsy] <;> rfl) ?_
 refine Rq ?_
 refine R_q rfl (by simp (disch := first | omega | (simp only [List.length_map, List.length_append, List.length_set, List.length_cons, List.length_nil]; omega)) only [go_sem, ↓reduceIte, Nat.reduceEqDiff, reduceCtorEq, hsx, hsy] <;> rfl) ?_
 refine Rq ?_
 refine R_q rfl (by simp (disch := first | omega | (simp only [List.length_map, List.length_append, List.length_set, List.length_cons, List.length_nil]; omega)) only [go_sem, ↓reduceIte, Nat.reduceEqDiff, reduceCtorEq, hsx, hsy] <;> rfl) ?_
 refine Rq ?_
 refine R_q rfl (by simp (disch := first | omega | (simp only [List.length_map, List.length_append, List.length_set, List.length_cons, List.length_nil]; omega)) only [go_sem, ↓reduceIte, Nat.reduceEqDiff, reduceCtorEq, hsx, hsy] <;> rfl) ?_
 refine Rq ?_
 refine R_q rfl (by simp (disch := first | omega | (simp only [List.length_map, List.length_append, List.length_set, List.length_cons, List.length_nil]; omega)) only [go_sem, ↓reduceIte, Nat.reduceEqDiff, reduceCtorEq, hsx, hsy] <;> rfl) ?_
 refine Rq ?_
 refine R_q rfl (by simp (disch := first | omega | (simp only [List.length_map, List.length_append, List.length_set, List.length_cons, List.length_nil]; omega)) only [go_sem, ↓reduceIte, Nat.reduceEqDiff, reduceCtorEq, hsx, hsy] <;> rfl) ?_
 refine Rq ?_
 refine R_q rfl (by simp (disch := first | omega | (simp only [List.length_map, List.length_append, List.length_set, List.length_cons, List.length_nil]; omega)) only [go_sem, ↓reduceIte, Nat.reduceEqDiff, reduceCtorEq, hsx, hsy] <;> rfl) ?_
 refine R_q rfl (by simp only [go_sem, ↓reduceIte, Nat.reduceEqDiff, List.map_cons, List.map_nil]; exact bld34g hcx hcy) ?_
 refine R_store ty34 (by simp (disch := first | omega | (simp only [List.length_map, List.length_append, List.length_set, List.length_cons, List.length_nil]; omega)) only [go_sem, ↓reduceIte, Nat.reduceEqDiff, reduceCtorEq, hsx, hsy] <;> rfl) (by simp (disch := first | omega | (simp only [List.length_map, List.length_append, List.length_set, List.length_cons, List.length_nil]; omega)) only [go_sem, ↓reduceIte, Nat.reduceEqDiff, reduceCtorEq, hsx, hsy] <;> rfl) (by simp (disch := first | omega | (simp only [List.length_map, List.length_append, List.length_set, List.length_cons, List.length_nil]; omega)) only [go_sem, ↓reduceIte, Nat.reduceEqDiff, reduceCtorEq, hsx, hsy] <;> rfl) (by simp) (by rfl) (by simp (disch := first | omega | (simp only [List.length_map, List.length_append, List.length_set, List.length_cons, List.length_nil]; omega)) only [go_sem, ↓reduceIte, Nat.reduceEqDiff, reduceCtorEq, hsx, hsy] <;> rfl) ?_
 have tr : ∀ a b c d e f g h i j k m n o p q r s : AV, let l := lc_of20_gen a b c; trim ((17,s)::(16,r)::(15,q)::(14,p)::(13,o)::(12,n)::(11,m)::(10,k)::(9,j)::(8,i)::(7,h)::(6,g)::(5,f)::(4,e)::(3,d)::l) l = [(0,a),(1,b),(2,c)] := by intros; rfl
 refine R_nil (tr ..) ?_; clear tr
 refine then_n ?_
 refine at_ret rfl ?_
 refine fin_pure (rs := [.cell 2 34]) rfl (by simp only [go_sem, ↓reduceIte, Nat.reduceEqDiff]; rfl) (by simp only [go_sem, ↓reduceIte, Nat.reduceEqDiff]; rfl) ?_
 refine ⟨?_, rfl⟩
 show AV.agg (List.map _ [rowsAV rows, AV.i per, AV.i tot, AV.i wth, AV.i balls, x, y]) = _
 simp only [List.map_cons, List.map_nil, frz_rows, frz_i, hx, hy]

end Go.Proofs.Ytaoondlakhocnaa
end
