/-
  Texts of TargetSplits, part 11 of 14. Walks of chapters 37, 39 and 40. The steps are written by program (walk.py).
-/
import Derived.Test.YtaoondlakhocnaaKTargetSplits9
import Derived.Test.YtaoondlakhocnaaKTargetSplits8
section
set_option linter.unusedSimpArgs false
set_option linter.unusedVariables false
set_option maxHeartbeats 40000000
set_option maxRecDepth 4000
namespace Go.Proofs.Ytaoondlakhocnaa
open Go Go.Am

abbrev lc_clone_ok (a b c : AV) : Env := [(0,a),(2,b),(4,c)]
theorem clone_ok (lim : Nat) (H : Heap) (hlim : lim ≤ H.length) (l : List Stp) (h0 : 0 < l.length) (h1 : l.length ≤ 1000) :
    ACall sig lim 61 [stopsAV l] H fun r H' => ∃ b, r = .own 3 b 0 l.length ∧ H.length ≤ b ∧ hget H' b = some (flatS l) ∧ ∀ c, c < H.length → hget H' c = hget H c := by
 refine ACall_own (fa := fa61) rfl rfl rfl rfl ?_
 have tr : ∀ a0 : AV, env0 fa61.keep [a0] = [(0,a0),(2,.any),(4,.any)] := fun a0 => rfl
 refine W_to (tr _) ?_; clear tr
 refine at_seq rfl ?_
 refine rg rfl ?_
 refine Rq ?_
 have tr : ∀ a b c d : AV, let l := lc_clone_ok a b c; trim ((2,d)::l) l = [(0,a),(2,d),(4,c)] := by intros; rfl
 refine R_nil (tr ..) ?_; clear tr
 refine then_n ?_
 refine at_seq rfl ?_
 refine at_seq rfl ?_
 refine rg rfl ?_
 refine Rq ?_
 refine R_q rfl (nil25 _ _ h0) ?_
 have tr : ∀ a b c d e : AV, let l := lc_clone_ok a b c; trim ((4,e)::(3,d)::l) l = [(0,a),(2,b),(4,e)] := by intros; rfl
 refine R_nil (tr ..) ?_; clear tr
 refine then_n ?_
 refine cdd (fun h1 => ?_) (fun h1 => ?_)
 ·
  try simp only [decide_eq_true_eq, decide_eq_false_iff_not, Bool.not_eq_true', Bool.not_eq_false', beq_iff_eq, beq_eq_false_iff_ne, ne_eq] at h1
  cases h1
 ·
  try simp only [decide_eq_true_eq, decide_eq_false_iff_not, Bool.not_eq_true', Bool.not_eq_false', beq_iff_eq, beq_eq_false_iff_ne, ne_eq] at h1
  refine at_skip rfl ?_
  refine then_n ?_
  refine at_seq rfl ?_
  refine rg rfl ?_
  refine A_buildSlice (bs25e _ _ _) ?_
  intro H1 n1
  have en1 := n1.len
  have q1 : hget H1 H.length = some (flatS []) := n1.new
  refine Rq ?_
  obtain ⟨H2, ha2, g2⟩ := app25g (lim := lim) (n := 0) q1 (src_all l) (by omega) rfl (by omega)
  refine R_append (by simp (disch := first | omega | (simp only [List.length_map, List.length_append, List.length_set, List.length_cons, List.length_nil]; omega)) only [go_sem, ↓reduceIte, Nat.reduceEqDiff, reduceCtorEq]; exact ha2) ?_
  have eg2 := g2.len
  refine Rq ?_
  have tr : ∀ a b c d e f g : AV, let l := lc_clone_ok a b c; trim ((2,g)::(7,f)::(6,e)::(5,d)::l) l = [(0,a),(2,g),(4,c)] := by intros; rfl
  refine R_nil (tr ..) ?_; clear tr
  refine then_n ?_
  refine at_ret rfl ?_
  refine fin_own rfl (by simp only [go_sem, ↓reduceIte, Nat.reduceEqDiff]; rfl) ?_
  exact ⟨_, by first | rfl | (rw [Nat.zero_add]; rfl), by omega, g2.new, fun c hc => (g2.old c (by omega) (by omega)).trans (n1.old c hc)⟩

abbrev lc_split_ok (a b c d e f g h i j : AV) : Env := [(0,a),(1,b),(2,c),(6,d),(7,e),(8,f),(9,g),(17,h),(31,i),(34,j)]
theorem split_ok (lim : Nat) (H : Heap) (l : List Stp) (i t : Int) :
    ACall sig lim 43 [stopsAV l, AV.i i, AV.i t] H fun r H' => r = .tup [splA l i t, AV.i (splE l i t)] ∧ H' = H := by
 have q8 : True := trivial
 have q9 : True := trivial
 have qn : True := trivial
 refine ACall_pure (fa := fa43) rfl rfl rfl rfl ?_
 have tr : ∀ a0 a1 a2 : AV, env0 fa43.keep [a0, a1, a2] = [(0,a0),(1,a1),(2,a2),(6,.any),(7,.any),(8,.any),(9,.any),(17,.any),(31,.any),(34,.any)] := fun a0 a1 a2 => rfl
 refine W_to (tr _ _ _) ?_; clear tr
 refine at_seq rfl ?_
 refine rg rfl ?_
 refine Rq ?_
 refine Rq ?_
 have tr : ∀ a b c d e f g h i j k m : AV, let l := lc_split_ok a b c d e f g h i j; trim ((7,m)::(6,k)::l) l = [(0,a),(1,b),(2,c),(6,k),(7,m),(8,f),(9,g),(17,h),(31,i),(34,j)] := by intros; rfl
 refine R_nil (tr ..) ?_; clear tr
 refine then_n ?_
 refine at_seq rfl ?_
 refine at_seq rfl ?_
 refine rg rfl ?_
 refine Rq ?_
 refine Rq ?_
 refine Rq ?_
 refine Rp_split (fun h1 => ?_) (fun h1 => ?_)
 ·
  try simp only [decide_eq_true_eq, decide_eq_false_iff_not, Bool.not_eq_true', Bool.not_eq_false', beq_iff_eq, beq_eq_false_iff_ne, ne_eq] at h1
  refine Rn ?_
  refine Rn ?_
  refine Rn ?_
  refine Rn ?_
  refine Rq ?_
  have tr : ∀ a b c d e f g h i j k m n o p q r s : AV, let l := lc_split_ok a b c d e f g h i j; trim ((17,s)::(16,r)::(15,q)::(14,p)::(13,o)::(12,n)::(11,m)::(10,k)::l) l = [(0,a),(1,b),(2,c),(6,d),(7,e),(8,f),(9,g),(17,s),(31,i),(34,j)] := by intros; rfl
  refine R_nil (tr ..) ?_; clear tr
  refine then_n ?_
  refine cdt ?_
  refine at_seq rfl ?_
  refine rg rfl ?_
  refine Rq ?_
  refine Rq ?_
  have tr : ∀ a b c d e f g h i j k m : AV, let l := lc_split_ok a b c d e f g h i j; trim ((7,m)::(6,k)::l) l = [(0,a),(1,b),(2,c),(6,k),(7,m),(8,f),(9,g),(17,h),(31,i),(34,j)] := by intros; rfl
  refine R_nil (tr ..) ?_; clear tr
  refine then_n ?_
  refine at_ret rfl ?_
  refine then_r ?_
  refine fpure ?_
  refine ⟨?_, rfl⟩
  have hs : splE l i t = 2 := by rw [splE, if_pos (by omega)]
  rw [hs, splA_n (by omega)]
 ·
  try simp only [decide_eq_true_eq, decide_eq_false_iff_not, Bool.not_eq_true', Bool.not_eq_false', beq_iff_eq, beq_eq_false_iff_ne, ne_eq] at h1
  refine Ry ?_
  refine Rq ?_
  refine Ry ?_
  refine Rq ?_
  refine Ry ?_
  refine Rq ?_
  refine Ry ?_
  refine Rq ?_
  refine Rq ?_
  have tr : ∀ a b c d e f g h i j k m n o p q r s : AV, let l := lc_split_ok a b c d e f g h i j; trim ((17,s)::(16,r)::(15,q)::(14,p)::(13,o)::(12,n)::(11,m)::(10,k)::l) l = [(0,a),(1,b),(2,c),(6,d),(7,e),(8,f),(9,g),(17,s),(31,i),(34,j)] := by intros; rfl
  refine R_nil (tr ..) ?_; clear tr
  refine then_n ?_
  refine cdd (fun h2 => ?_) (fun h2 => ?_)
  ·
   try simp only [decide_eq_true_eq, decide_eq_false_iff_not, Bool.not_eq_true', Bool.not_eq_false', beq_iff_eq, beq_eq_false_iff_ne, ne_eq] at h2
   refine at_seq rfl ?_
   refine rg rfl ?_
   refine Rq ?_
   refine Rq ?_
   have tr : ∀ a b c d e f g h i j k m : AV, let l := lc_split_ok a b c d e f g h i j; trim ((7,m)::(6,k)::l) l = [(0,a),(1,b),(2,c),(6,k),(7,m),(8,f),(9,g),(17,h),(31,i),(34,j)] := by intros; rfl
   refine R_nil (tr ..) ?_; clear tr
   refine then_n ?_
   refine at_ret rfl ?_
   refine then_r ?_
   refine fpure ?_
   refine ⟨?_, rfl⟩
   have hs : splE l i t = 2 := by rw [splE, if_pos (by omega)]
   rw [hs, splA_n (by omega)]
  ·
   try simp only [decide_eq_true_eq, decide_eq_false_iff_not, Bool.not_eq_true', Bool.not_eq_false', beq_iff_eq, beq_eq_false_iff_ne, ne_eq] at h2
   refine at_skip rfl ?_
   refine then_n ?_
   refine at_seq rfl ?_
   refine rg rfl ?_
   refine Rq ?_
   refine Rq ?_
   have hir : 0 ≤ i ∧ i < l.length := by omega
   obtain ⟨hi0, hi1⟩ : 0 ≤ i ∧ i.toNat < l.length := by omega
   refine R_q (r := .ele (flatS l) (i.toNat * 3)) rfl (by simp (disch := first | omega | (simp only [List.length_map, List.length_append, List.length_set, List.length_cons, List.length_nil]; omega)) only [go_sem, ↓reduceIte, Nat.reduceEqDiff, reduceCtorEq] <;> rfl) ?_
   refine R_q (r := .agg (stC (gt l i.toNat))) rfl (by simp (disch := first | omega | (simp only [List.length_map, List.length_append, List.length_set, List.length_cons, List.length_nil]; omega)) only [go_sem, ↓reduceIte, Nat.reduceEqDiff, reduceCtorEq] <;> exact ld_stop l i.toNat (by omega)) ?_
   refine A_alloc rfl ?_
   intro H1 n1
   have en1 := n1.len
   have q8 := n1.new
   have lq8 := hget_lt q8
   refine A_store ty56 (by simp (disch := first | omega | (simp only [List.length_map, List.length_append, List.length_set, List.length_cons, List.length_nil]; omega)) only [go_sem, ↓reduceIte, Nat.reduceEqDiff, reduceCtorEq, q8] <;> rfl) (by simp (disch := first | omega | (simp only [List.length_map, List.length_append, List.length_set, List.length_cons, List.length_nil]; omega)) only [go_sem, ↓reduceIte, Nat.reduceEqDiff, reduceCtorEq, q8] <;> rfl) q8 ⟨by omega, rfl, by first | exact Nat.le_refl _ | simp⟩ (k' := stC (gt l i.toNat)) rfl ?_
   intro H2 w1
   have ew1 := w1.len
   have q8 := w1.new
   have tr : ∀ a b c d e f g h i j k m n o p : AV, let l := lc_split_ok a b c d e f g h i j; trim ((8,p)::(21,o)::(20,n)::(19,m)::(18,k)::l) l = [(0,a),(1,b),(2,c),(6,d),(7,e),(8,p),(9,g),(17,h),(31,i),(34,j)] := by intros; rfl
   refine R_nil (tr ..) ?_; clear tr
   refine then_n ?_
   refine at_seq rfl ?_
   refine at_seq rfl ?_
   refine rg rfl ?_
   refine Rq ?_
   refine Rq ?_
   refine R_q rfl (by simp (disch := first | omega | (simp only [List.length_map, List.length_append, List.length_set, List.length_cons, List.length_nil]; omega)) only [go_sem, ↓reduceIte, Nat.reduceEqDiff, reduceCtorEq, q8, q9, qn] <;> rfl) ?_
   refine Rq ?_
   refine Rq ?_
   refine Rp_split (fun h3 => ?_) (fun h3 => ?_)
   ·
    try simp only [decide_eq_true_eq, decide_eq_false_iff_not, Bool.not_eq_true', Bool.not_eq_false', beq_iff_eq, beq_eq_false_iff_ne, ne_eq] at h3
    refine Rn ?_
    refine Rn ?_
    refine Rn ?_
    refine Rn ?_
    refine Rq ?_
    have tr : ∀ a b c d e f g h i j k m n o p q r s t u : AV, let l := lc_split_ok a b c d e f g h i j; trim ((31,u)::(30,t)::(29,s)::(28,r)::(27,q)::(26,p)::(25,o)::(24,n)::(23,m)::(22,k)::l) l = [(0,a),(1,b),(2,c),(6,d),(7,e),(8,f),(9,g),(17,h),(31,u),(34,j)] := by intros; rfl
    refine R_nil (tr ..) ?_; clear tr
    refine then_n ?_
    refine cdt ?_
    refine at_seq rfl ?_
    refine rg rfl ?_
    refine Rq ?_
    refine Rq ?_
    have tr : ∀ a b c d e f g h i j k m : AV, let l := lc_split_ok a b c d e f g h i j; trim ((7,m)::(6,k)::l) l = [(0,a),(1,b),(2,c),(6,k),(7,m),(8,f),(9,g),(17,h),(31,i),(34,j)] := by intros; rfl
    refine R_nil (tr ..) ?_; clear tr
    refine then_n ?_
    refine at_ret rfl ?_
    refine then_r ?_
    refine fpure ?_
    refine ⟨?_, rfl⟩
    have hs : splE l i t = 1 := by rw [splE, if_neg (by omega), if_pos (by omega)]
    rw [hs, splA_n (by omega)]
   ·
    try simp only [decide_eq_true_eq, decide_eq_false_iff_not, Bool.not_eq_true', Bool.not_eq_false', beq_iff_eq, beq_eq_false_iff_ne, ne_eq] at h3
    refine Ry ?_
    refine Rq ?_
    refine Ry ?_
    refine Rq ?_
    refine Ry ?_
    refine R_q rfl (by simp (disch := first | omega | (simp only [List.length_map, List.length_append, List.length_set, List.length_cons, List.length_nil]; omega)) only [go_sem, ↓reduceIte, Nat.reduceEqDiff, reduceCtorEq, q8, q9, qn] <;> rfl) ?_
    refine Ry ?_
    refine Rq ?_
    refine Rq ?_
    have tr : ∀ a b c d e f g h i j k m n o p q r s t u : AV, let l := lc_split_ok a b c d e f g h i j; trim ((31,u)::(30,t)::(29,s)::(28,r)::(27,q)::(26,p)::(25,o)::(24,n)::(23,m)::(22,k)::l) l = [(0,a),(1,b),(2,c),(6,d),(7,e),(8,f),(9,g),(17,h),(31,u),(34,j)] := by intros; rfl
    refine R_nil (tr ..) ?_; clear tr
    refine then_n ?_
    refine cdd (fun h4 => ?_) (fun h4 => ?_)
    ·
     try simp only [decide_eq_true_eq, decide_eq_false_iff_not, Bool.not_eq_true', Bool.not_eq_false', beq_iff_eq, beq_eq_false_iff_ne, ne_eq] at h4
     refine at_seq rfl ?_
     refine rg rfl ?_
     refine Rq ?_
     refine Rq ?_
     have tr : ∀ a b c d e f g h i j k m : AV, let l := lc_split_ok a b c d e f g h i j; trim ((7,m)::(6,k)::l) l = [(0,a),(1,b),(2,c),(6,k),(7,m),(8,f),(9,g),(17,h),(31,i),(34,j)] := by intros; rfl
     refine R_nil (tr ..) ?_; clear tr
     refine then_n ?_
     refine at_ret rfl ?_
     refine then_r ?_
     refine fpure ?_
     refine ⟨?_, rfl⟩
     have hs : splE l i t = 1 := by rw [splE, if_neg (by omega), if_pos (by omega)]
     rw [hs, splA_n (by omega)]
    ·
     try simp only [decide_eq_true_eq, decide_eq_false_iff_not, Bool.not_eq_true', Bool.not_eq_false', beq_iff_eq, beq_eq_false_iff_ne, ne_eq] at h4
     refine at_skip rfl ?_
     refine then_n ?_
     refine at_seq rfl ?_
     refine at_seq rfl ?_
     refine rg rfl ?_
     refine Rq ?_
     refine Rq ?_
     refine Rq ?_
     have tr : ∀ a b c d e f g h i j k m n : AV, let l := lc_split_ok a b c d e f g h i j; trim ((34,n)::(33,m)::(32,k)::l) l = [(0,a),(1,b),(2,c),(6,d),(7,e),(8,f),(9,g),(17,h),(31,i),(34,n)] := by intros; rfl
     refine R_nil (tr ..) ?_; clear tr
     refine then_n ?_
     refine cdd (fun h5 => ?_) (fun h5 => ?_)
     ·
      try simp only [decide_eq_true_eq, decide_eq_false_iff_not, Bool.not_eq_true', Bool.not_eq_false', beq_iff_eq, beq_eq_false_iff_ne, ne_eq] at h5
      refine at_seq rfl ?_
      refine rg rfl ?_
      refine Rq ?_
      refine Rq ?_
      have tr : ∀ a b c d e f g h i j k m : AV, let l := lc_split_ok a b c d e f g h i j; trim ((7,m)::(6,k)::l) l = [(0,a),(1,b),(2,c),(6,k),(7,m),(8,f),(9,g),(17,h),(31,i),(34,j)] := by intros; rfl
      refine R_nil (tr ..) ?_; clear tr
      refine then_n ?_
      refine at_ret rfl ?_
      refine then_r ?_
      refine fpure ?_
      refine ⟨?_, rfl⟩
      have hs : splE l i t = 9 := by rw [splE, if_neg (by omega), if_neg (by omega), if_pos (by omega)]
      rw [hs, splA_n (by omega)]
     ·
      try simp only [decide_eq_true_eq, decide_eq_false_iff_not, Bool.not_eq_true', Bool.not_eq_false', beq_iff_eq, beq_eq_false_iff_ne, ne_eq] at h5
      refine at_skip rfl ?_
      refine then_n ?_
      refine at_seq rfl ?_
      refine rg rfl ?_
      have hz : splE l i t = 0 := splE_0 (by omega) (by omega) (by omega)
      have hl20 : l.length < 20 := by omega
      refine Rq ?_
      refine Rcall ?_
      refine ACall_mono (clone_ok _ _ (by omega) l (by omega) (by omega)) ?_
      rintro r H3 ⟨b9, rfl, hb9, q9, hold⟩
      have q8 := (hold _ (hget_lt q8)).trans q8
      have lq8 := hget_lt q8
      have lq9 := hget_lt q9
      refine Rq ?_
      have tr : ∀ a b c d e f g h i j k m n : AV, let l := lc_split_ok a b c d e f g h i j; trim ((9,n)::(36,m)::(35,k)::l) l = [(0,a),(1,b),(2,c),(6,d),(7,e),(8,f),(9,n),(17,h),(31,i),(34,j)] := by intros; rfl
      refine R_nil (tr ..) ?_; clear tr
      refine then_n ?_
      refine at_seq rfl ?_
      refine rg rfl ?_
      refine Rq ?_
      refine Rq ?_
      refine Rq ?_
      refine R_q (r := .ptr b9 (i.toNat * 3)) rfl (by simp (disch := first | omega | (simp only [List.length_map, List.length_append, List.length_set, List.length_cons, List.length_nil]; omega)) only [go_sem, ↓reduceIte, Nat.reduceEqDiff, reduceCtorEq, q8, q9] <;> rfl) ?_
      refine Rq ?_
      have lq8 := hget_lt q8
      have lq9 := hget_lt q9
      refine A_store ty2 (by simp (disch := first | omega | (simp only [List.length_map, List.length_append, List.length_set, List.length_cons, List.length_nil]; omega)) only [go_sem, ↓reduceIte, Nat.reduceEqDiff, reduceCtorEq, q8, q9] <;> rfl) (by simp (disch := first | omega | (simp only [List.length_map, List.length_append, List.length_set, List.length_cons, List.length_nil]; omega)) only [go_sem, ↓reduceIte, Nat.reduceEqDiff, reduceCtorEq, q8, q9] <;> rfl) q9 ⟨by omega, rfl, by simp only [flat_len]; omega⟩ (k' := flatS (l.set i.toNat ⟨(gt l i.toNat).b, t, (gt l i.toNat).w⟩)) (flatS_set1 l i.toNat t (by omega)) ?_
      intro H4 w4
      have ew4 := w4.len
      have q8 := (w4.old _ (by omega)).trans q8
      have q9 := w4.new
      have tr : ∀ a b c d e f g h i j k m n o p : AV, let l := lc_split_ok a b c d e f g h i j; trim ((41,p)::(40,o)::(39,n)::(38,m)::(37,k)::l) l = [(0,a),(1,b),(2,c),(6,d),(7,e),(8,f),(9,g),(17,h),(31,i),(34,j)] := by intros; rfl
      refine R_nil (tr ..) ?_; clear tr
      refine then_n ?_
      refine at_seq rfl ?_
      refine rg rfl ?_
      refine Rq ?_
      refine Rq ?_
      have lq8 := hget_lt q8
      have lq9 := hget_lt q9
      refine A_store ty2 (by simp (disch := first | omega | (simp only [List.length_map, List.length_append, List.length_set, List.length_cons, List.length_nil]; omega)) only [go_sem, ↓reduceIte, Nat.reduceEqDiff, reduceCtorEq, q8, q9] <;> rfl) (by simp (disch := first | omega | (simp only [List.length_map, List.length_append, List.length_set, List.length_cons, List.length_nil]; omega)) only [go_sem, ↓reduceIte, Nat.reduceEqDiff, reduceCtorEq, q8, q9] <;> rfl) q8 ⟨by omega, rfl, by first | exact Nat.le_refl _ | simp⟩ (k' := stC ⟨t, (gt l i.toNat).a, (gt l i.toNat).w⟩) rfl ?_
      intro H5 w5
      have ew5 := w5.len
      have q9 := (w5.old _ (by omega)).trans q9
      have q8 := w5.new
      have tr : ∀ a b c d e f g h i j k m : AV, let l := lc_split_ok a b c d e f g h i j; trim ((43,m)::(42,k)::l) l = [(0,a),(1,b),(2,c),(6,d),(7,e),(8,f),(9,g),(17,h),(31,i),(34,j)] := by intros; rfl
      refine R_nil (tr ..) ?_; clear tr
      refine then_n ?_
      refine at_seq rfl ?_
      refine rg rfl ?_
      refine Rq ?_
      refine Rq ?_
      refine R_q (r := AV.i (i + 1)) rfl (by simp (disch := first | omega | (simp only [List.length_map, List.length_append, List.length_set, List.length_cons, List.length_nil]; omega)) only [go_sem, ↓reduceIte, Nat.reduceEqDiff, reduceCtorEq] <;> rfl) ?_
      refine R_q rfl (by simp (disch := first | omega | (simp only [List.length_map, List.length_append, List.length_set, List.length_cons, List.length_nil]; omega)) only [go_sem, ↓reduceIte, Nat.reduceEqDiff, reduceCtorEq, q8, q9, qn] <;> rfl) ?_
      have lq8 := hget_lt q8
      have lq9 := hget_lt q9
      refine A_buildSlice (bs25 _ _ _ _ ⟨t, (gt l i.toNat).a, (gt l i.toNat).w⟩ (by simp (disch := first | omega | (simp only [List.length_map, List.length_append, List.length_set, List.length_cons, List.length_nil]; omega)) only [go_sem, ↓reduceIte, Nat.reduceEqDiff, reduceCtorEq, q8, q9] <;> rfl)) ?_
      intro H6 n6
      have en6 := n6.len
      have q9 := (n6.old _ (hget_lt q9)).trans q9
      have qn := n6.new
      have lq9 := hget_lt q9
      have hr := insV_ok (lim := H.length) q9 qn (by omega) (by omega) (by omega) (i := i + 1) (by rw [List.length_set]; omega) (by rw [List.length_set]; omega) (by rw [List.length_set]; omega) (n := l.length) (by rw [List.length_set])
      refine ACall_eff (p := insV) rfl rfl rfl hr ?_
      rewrite [show (i + 1).toNat = i.toNat + 1 by omega, spl_ins t (by omega)]
      refine Rq ?_
      refine Rq ?_
      have tr : ∀ a b c d e f g h i j k m n o p q r s : AV, let l := lc_split_ok a b c d e f g h i j; trim ((7,s)::(6,r)::(49,q)::(48,p)::(47,o)::(46,n)::(45,m)::(44,k)::l) l = [(0,a),(1,b),(2,c),(6,r),(7,s),(8,f),(9,g),(17,h),(31,i),(34,j)] := by intros; rfl
      refine R_nil (tr ..) ?_; clear tr
      refine then_n ?_
      refine at_ret rfl ?_
      have q9 : hget (hset H6 b9 none ++ [some (flatS (spl l i.toNat t))]) H6.length = some (flatS (spl l i.toNat t)) := by simp [hget, hset]
      have e2 : l.length + 1 = (spl l i.toNat t).length := (spl_len t (by omega)).symm
      refine fin_pure (rs := [.tmp 6, .tmp 7]) rfl (by simp (disch := first | omega | (simp only [List.length_map, List.length_append, List.length_set, List.length_cons, List.length_nil]; omega)) only [go_sem, ↓reduceIte, Nat.reduceEqDiff, reduceCtorEq] <;> rfl) (v := .tup [stopsAV (spl l i.toNat t), AV.i 0]) (by show AV.tup [frz _ _ 7 (.own 3 _ 0 _), AV.i 0] = _; rw [frz_own3' (by omega) q9, List.drop_zero, frz_flatS, e2]) ?_
      refine ⟨?_, rfl⟩
      rw [hz, splA_0 hz]

abbrev lc_rsplit_ok (a b c d e f g h i j : AV) : Env := [(0,a),(1,b),(2,c),(6,d),(7,e),(8,f),(9,g),(17,h),(31,i),(34,j)]
theorem rsplit_ok (lim : Nat) (H : Heap) (l : List Stp) (i t : Int) :
    ACall sig lim 44 [stopsAV l, AV.i i, AV.i t] H fun r H' => r = .tup [splA l i t, AV.i (splE l i t)] ∧ H' = H := by
 have q8 : True := trivial
 have q9 : True := trivial
 have qn : True := trivial
 refine ACall_pure (fa := fa44) rfl rfl rfl rfl ?_
 have tr : ∀ a0 a1 a2 : AV, env0 fa44.keep [a0, a1, a2] = [(0,a0),(1,a1),(2,a2),(6,.any),(7,.any),(8,.any),(9,.any),(17,.any),(31,.any),(34,.any)] := fun a0 a1 a2 => rfl
 refine W_to (tr _ _ _) ?_; clear tr
 refine at_seq rfl ?_
 refine rg rfl ?_
 refine Rq ?_
 refine Rq ?_
 have tr : ∀ a b c d e f g h i j k m : AV, let l := lc_rsplit_ok a b c d e f g h i j; trim ((7,m)::(6,k)::l) l = [(0,a),(1,b),(2,c),(6,k),(7,m),(8,f),(9,g),(17,h),(31,i),(34,j)] := by intros; rfl
 refine R_nil (tr ..) ?_; clear tr
 refine then_n ?_
 refine at_seq rfl ?_
 refine at_seq rfl ?_
 refine rg rfl ?_
 refine Rq ?_
 refine Rq ?_
 refine Rq ?_
 refine Rp_split (fun h1 => ?_) (fun h1 => ?_)
 ·
  try simp only [decide_eq_true_eq, decide_eq_false_iff_not, Bool.not_eq_true', Bool.not_eq_false', beq_iff_eq, beq_eq_false_iff_ne, ne_eq] at h1
  refine Rn ?_
  refine Rn ?_
  refine Rn ?_
  refine Rn ?_
  refine Rq ?_
  have tr : ∀ a b c d e f g h i j k m n o p q r s : AV, let l := lc_rsplit_ok a b c d e f g h i j; trim ((17,s)::(16,r)::(15,q)::(14,p)::(13,o)::(12,n)::(11,m)::(10,k)::l) l = [(0,a),(1,b),(2,c),(6,d),(7,e),(8,f),(9,g),(17,s),(31,i),(34,j)] := by intros; rfl
  refine R_nil (tr ..) ?_; clear tr
  refine then_n ?_
  refine cdt ?_
  refine at_seq rfl ?_
  refine rg rfl ?_
  refine Rq ?_
  refine Rq ?_
  have tr : ∀ a b c d e f g h i j k m : AV, let l := lc_rsplit_ok a b c d e f g h i j; trim ((7,m)::(6,k)::l) l = [(0,a),(1,b),(2,c),(6,k),(7,m),(8,f),(9,g),(17,h),(31,i),(34,j)] := by intros; rfl
  refine R_nil (tr ..) ?_; clear tr
  refine then_n ?_
  refine at_ret rfl ?_
  refine then_r ?_
  refine fpure ?_
  refine ⟨?_, rfl⟩
  have hs : splE l i t = 2 := by rw [splE, if_pos (by omega)]
  rw [hs, splA_n (by omega)]
 ·
  try simp only [decide_eq_true_eq, decide_eq_false_iff_not, Bool.not_eq_true', Bool.not_eq_false', beq_iff_eq, beq_eq_false_iff_ne, ne_eq] at h1
  refine Ry ?_
  refine Rq ?_
  refine Ry ?_
  refine Rq ?_
  refine Ry ?_
  refine Rq ?_
  refine Ry ?_
  refine Rq ?_
  refine Rq ?_
  have tr : ∀ a b c d e f g h i j k m n o p q r s : AV, let l := lc_rsplit_ok a b c d e f g h i j; trim ((17,s)::(16,r)::(15,q)::(14,p)::(13,o)::(12,n)::(11,m)::(10,k)::l) l = [(0,a),(1,b),(2,c),(6,d),(7,e),(8,f),(9,g),(17,s),(31,i),(34,j)] := by intros; rfl
  refine R_nil (tr ..) ?_; clear tr
  refine then_n ?_
  refine cdd (fun h2 => ?_) (fun h2 => ?_)
  ·
   try simp only [decide_eq_true_eq, decide_eq_false_iff_not, Bool.not_eq_true', Bool.not_eq_false', beq_iff_eq, beq_eq_false_iff_ne, ne_eq] at h2
   refine at_seq rfl ?_
   refine rg rfl ?_
   refine Rq ?_
   refine Rq ?_
   have tr : ∀ a b c d e f g h i j k m : AV, let l := lc_rsplit_ok a b c d e f g h i j; trim ((7,m)::(6,k)::l) l = [(0,a),(1,b),(2,c),(6,k),(7,m),(8,f),(9,g),(17,h),(31,i),(34,j)] := by intros; rfl
   refine R_nil (tr ..) ?_; clear tr
   refine then_n ?_
   refine at_ret rfl ?_
   refine then_r ?_
   refine fpure ?_
   refine ⟨?_, rfl⟩
   have hs : splE l i t = 2 := by rw [splE, if_pos (by omega)]
   rw [hs, splA_n (by omega)]
  ·
   try simp only [decide_eq_true_eq, decide_eq_false_iff_not, Bool.not_eq_true', Bool.not_eq_false', beq_iff_eq, beq_eq_false_iff_ne, ne_eq] at h2
   refine at_skip rfl ?_
   refine then_n ?_
   refine at_seq rfl ?_
   refine rg rfl ?_
   refine Rq ?_
   refine Rq ?_
   have hir : 0 ≤ i ∧ i < l.length := by omega
   obtain ⟨hi0, hi1⟩ : 0 ≤ i ∧ i.toNat < l.length := by omega
   refine R_q (r := .ele (flatS l) (i.toNat * 3)) rfl (by simp (disch := first | omega | (simp only [List.length_map, List.length_append, List.length_set, List.length_cons, List.length_nil]; omega)) only [go_sem, ↓reduceIte, Nat.reduceEqDiff, reduceCtorEq] <;> rfl) ?_
   refine R_q (r := .agg (stC (gt l i.toNat))) rfl (by simp (disch := first | omega | (simp only [List.length_map, List.length_append, List.length_set, List.length_cons, List.length_nil]; omega)) only [go_sem, ↓reduceIte, Nat.reduceEqDiff, reduceCtorEq] <;> exact ld_stop l i.toNat (by omega)) ?_
   refine A_alloc rfl ?_
   intro H1 n1
   have en1 := n1.len
   have q8 := n1.new
   have lq8 := hget_lt q8
   refine A_store ty56 (by simp (disch := first | omega | (simp only [List.length_map, List.length_append, List.length_set, List.length_cons, List.length_nil]; omega)) only [go_sem, ↓reduceIte, Nat.reduceEqDiff, reduceCtorEq, q8] <;> rfl) (by simp (disch := first | omega | (simp only [List.length_map, List.length_append, List.length_set, List.length_cons, List.length_nil]; omega)) only [go_sem, ↓reduceIte, Nat.reduceEqDiff, reduceCtorEq, q8] <;> rfl) q8 ⟨by omega, rfl, by first | exact Nat.le_refl _ | simp⟩ (k' := stC (gt l i.toNat)) rfl ?_
   intro H2 w1
   have ew1 := w1.len
   have q8 := w1.new
   have tr : ∀ a b c d e f g h i j k m n o p : AV, let l := lc_rsplit_ok a b c d e f g h i j; trim ((8,p)::(21,o)::(20,n)::(19,m)::(18,k)::l) l = [(0,a),(1,b),(2,c),(6,d),(7,e),(8,p),(9,g),(17,h),(31,i),(34,j)] := by intros; rfl
   refine R_nil (tr ..) ?_; clear tr
   refine then_n ?_
   refine at_seq rfl ?_
   refine at_seq rfl ?_
   refine rg rfl ?_
   refine Rq ?_
   refine Rq ?_
   refine R_q rfl (by simp (disch := first | omega | (simp only [List.length_map, List.length_append, List.length_set, List.length_cons, List.length_nil]; omega)) only [go_sem, ↓reduceIte, Nat.reduceEqDiff, reduceCtorEq, q8, q9, qn] <;> rfl) ?_
   refine Rq ?_
   refine Rq ?_
   refine Rp_split (fun h3 => ?_) (fun h3 => ?_)
   ·
    try simp only [decide_eq_true_eq, decide_eq_false_iff_not, Bool.not_eq_true', Bool.not_eq_false', beq_iff_eq, beq_eq_false_iff_ne, ne_eq] at h3
    refine Rn ?_
    refine Rn ?_
    refine Rn ?_
    refine Rn ?_
    refine Rq ?_
    have tr : ∀ a b c d e f g h i j k m n o p q r s t u : AV, let l := lc_rsplit_ok a b c d e f g h i j; trim ((31,u)::(30,t)::(29,s)::(28,r)::(27,q)::(26,p)::(25,o)::(24,n)::(23,m)::(22,k)::l) l = [(0,a),(1,b),(2,c),(6,d),(7,e),(8,f),(9,g),(17,h),(31,u),(34,j)] := by intros; rfl
    refine R_nil (tr ..) ?_; clear tr
    refine then_n ?_
    refine cdt ?_
    refine at_seq rfl ?_
    refine rg rfl ?_
    refine Rq ?_
    refine Rq ?_
    have tr : ∀ a b c d e f g h i j k m : AV, let l := lc_rsplit_ok a b c d e f g h i j; trim ((7,m)::(6,k)::l) l = [(0,a),(1,b),(2,c),(6,k),(7,m),(8,f),(9,g),(17,h),(31,i),(34,j)] := by intros; rfl
    refine R_nil (tr ..) ?_; clear tr
    refine then_n ?_
    refine at_ret rfl ?_
    refine then_r ?_
    refine fpure ?_
    refine ⟨?_, rfl⟩
    have hs : splE l i t = 1 := by rw [splE, if_neg (by omega), if_pos (by omega)]
    rw [hs, splA_n (by omega)]
   ·
    try simp only [decide_eq_true_eq, decide_eq_false_iff_not, Bool.not_eq_true', Bool.not_eq_false', beq_iff_eq, beq_eq_false_iff_ne, ne_eq] at h3
    refine Ry ?_
    refine Rq ?_
    refine Ry ?_
    refine Rq ?_
    refine Ry ?_
    refine R_q rfl (by simp (disch := first | omega | (simp only [List.length_map, List.length_append, List.length_set, List.length_cons, List.length_nil]; omega)) only [go_sem, ↓reduceIte, Nat.reduceEqDiff, reduceCtorEq, q8, q9, qn] <;> rfl) ?_
    refine Ry ?_
    refine Rq ?_
    refine Rq ?_
    have tr : ∀ a b c d e f g h i j k m n o p q r s t u : AV, let l := lc_rsplit_ok a b c d e f g h i j; trim ((31,u)::(30,t)::(29,s)::(28,r)::(27,q)::(26,p)::(25,o)::(24,n)::(23,m)::(22,k)::l) l = [(0,a),(1,b),(2,c),(6,d),(7,e),(8,f),(9,g),(17,h),(31,u),(34,j)] := by intros; rfl
    refine R_nil (tr ..) ?_; clear tr
    refine then_n ?_
    refine cdd (fun h4 => ?_) (fun h4 => ?_)
    ·
     try simp only [decide_eq_true_eq, decide_eq_false_iff_not, Bool.not_eq_true', Bool.not_eq_false', beq_iff_eq, beq_eq_false_iff_ne, ne_eq] at h4
     refine at_seq rfl ?_
     refine rg rfl ?_
     refine Rq ?_
     refine Rq ?_
     have tr : ∀ a b c d e f g h i j k m : AV, let l := lc_rsplit_ok a b c d e f g h i j; trim ((7,m)::(6,k)::l) l = [(0,a),(1,b),(2,c),(6,k),(7,m),(8,f),(9,g),(17,h),(31,i),(34,j)] := by intros; rfl
     refine R_nil (tr ..) ?_; clear tr
     refine then_n ?_
     refine at_ret rfl ?_
     refine then_r ?_
     refine fpure ?_
     refine ⟨?_, rfl⟩
     have hs : splE l i t = 1 := by rw [splE, if_neg (by omega), if_pos (by omega)]
     rw [hs, splA_n (by omega)]
    ·
     try simp only [decide_eq_true_eq, decide_eq_false_iff_not, Bool.not_eq_true', Bool.not_eq_false', beq_iff_eq, beq_eq_false_iff_ne, ne_eq] at h4
     refine at_skip rfl ?_
     refine then_n ?_
     refine at_seq rfl ?_
     refine at_seq rfl ?_
     refine rg rfl ?_
     refine Rq ?_
     refine Rq ?_
     refine Rq ?_
     have tr : ∀ a b c d e f g h i j k m n : AV, let l := lc_rsplit_ok a b c d e f g h i j; trim ((34,n)::(33,m)::(32,k)::l) l = [(0,a),(1,b),(2,c),(6,d),(7,e),(8,f),(9,g),(17,h),(31,i),(34,n)] := by intros; rfl
     refine R_nil (tr ..) ?_; clear tr
     refine then_n ?_
     refine cdd (fun h5 => ?_) (fun h5 => ?_)
     ·
      try simp only [decide_eq_true_eq, decide_eq_false_iff_not, Bool.not_eq_true', Bool.not_eq_false', beq_iff_eq, beq_eq_false_iff_ne, ne_eq] at h5
      refine at_seq rfl ?_
      refine rg rfl ?_
      refine Rq ?_
      refine Rq ?_
      have tr : ∀ a b c d e f g h i j k m : AV, let l := lc_rsplit_ok a b c d e f g h i j; trim ((7,m)::(6,k)::l) l = [(0,a),(1,b),(2,c),(6,k),(7,m),(8,f),(9,g),(17,h),(31,i),(34,j)] := by intros; rfl
      refine R_nil (tr ..) ?_; clear tr
      refine then_n ?_
      refine at_ret rfl ?_
      refine then_r ?_
      refine fpure ?_
      refine ⟨?_, rfl⟩
      have hs : splE l i t = 9 := by rw [splE, if_neg (by omega), if_neg (by omega), if_pos (by omega)]
      rw [hs, splA_n (by omega)]
     ·
      try simp only [decide_eq_true_eq, decide_eq_false_iff_not, Bool.not_eq_true', Bool.not_eq_false', beq_iff_eq, beq_eq_false_iff_ne, ne_eq] at h5
      refine at_skip rfl ?_
      refine then_n ?_
      refine at_seq rfl ?_
      refine rg rfl ?_
      have hz : splE l i t = 0 := splE_0 (by omega) (by omega) (by omega)
      have hl20 : l.length < 20 := by omega
      refine A_buildSlice (bs25e _ _ _) ?_
      intro H3 n3
      have en3 := n3.len
      have q8 := (n3.old _ (hget_lt q8)).trans q8
      have q9 : hget H3 _ = some (flatS []) := n3.new
      refine Rq ?_
      refine Rq ?_
      refine R_q (r := .sl i.toNat (flatS l)) rfl (by simp (disch := first | omega | (simp only [List.length_map, List.length_append, List.length_set, List.length_cons, List.length_nil]; omega)) only [go_sem, ↓reduceIte, Nat.reduceEqDiff, reduceCtorEq] <;> exact sl_hi (by omega) (by omega)) ?_
      have lq8 := hget_lt q8
      have lq9 := hget_lt q9
      have ha := app25g (lim := H.length) (n := 0) q9 (src_sl (k := 0) (n := i.toNat) (l := l) (by omega)) (by omega) rfl (by omega)
      refine A_append (by simp (disch := first | omega | (simp only [List.length_map, List.length_append, List.length_set, List.length_cons, List.length_nil]; omega)) only [go_sem, ↓reduceIte, Nat.reduceEqDiff, reduceCtorEq, q8]; exact ha) ?_
      intro H4 g4
      have eg4 := g4.len
      have q8 := (g4.old _ (by omega) lq8).trans q8
      have q9 := g4.new
      refine Rq ?_
      have tr : ∀ a b c d e f g h i j k m n o p q : AV, let l := lc_rsplit_ok a b c d e f g h i j; trim ((9,q)::(39,p)::(38,o)::(37,n)::(36,m)::(35,k)::l) l = [(0,a),(1,b),(2,c),(6,d),(7,e),(8,f),(9,q),(17,h),(31,i),(34,j)] := by intros; rfl
      refine R_nil (tr ..) ?_; clear tr
      refine then_n ?_
      refine at_seq rfl ?_
      refine rg rfl ?_
      refine Rq ?_
      refine Rq ?_
      refine R_q rfl (by simp (disch := first | omega | (simp only [List.length_map, List.length_append, List.length_set, List.length_cons, List.length_nil]; omega)) only [go_sem, ↓reduceIte, Nat.reduceEqDiff, reduceCtorEq, q8, q9, qn] <;> rfl) ?_
      refine Rq ?_
      refine Rq ?_
      refine R_q rfl (by simp (disch := first | omega | (simp only [List.length_map, List.length_append, List.length_set, List.length_cons, List.length_nil]; omega)) only [go_sem, ↓reduceIte, Nat.reduceEqDiff, reduceCtorEq, q8, q9, qn] <;> rfl) ?_
      refine R_q (r := .agg (stC ⟨(gt l i.toNat).b, t, (gt l i.toNat).w⟩)) rfl (by simp (disch := first | omega | (simp only [List.length_map, List.length_append, List.length_set, List.length_cons, List.length_nil]; omega)) only [go_sem, ↓reduceIte, Nat.reduceEqDiff, reduceCtorEq, q8] <;> exact bld56 _ _ _) ?_
      refine Rq ?_
      refine Rq ?_
      refine R_q rfl (by simp (disch := first | omega | (simp only [List.length_map, List.length_append, List.length_set, List.length_cons, List.length_nil]; omega)) only [go_sem, ↓reduceIte, Nat.reduceEqDiff, reduceCtorEq, q8, q9, qn] <;> rfl) ?_
      refine Rq ?_
      refine R_q rfl (by simp (disch := first | omega | (simp only [List.length_map, List.length_append, List.length_set, List.length_cons, List.length_nil]; omega)) only [go_sem, ↓reduceIte, Nat.reduceEqDiff, reduceCtorEq, q8, q9, qn] <;> rfl) ?_
      refine R_q (r := .agg (stC ⟨t, (gt l i.toNat).a, (gt l i.toNat).w⟩)) rfl (by simp (disch := first | omega | (simp only [List.length_map, List.length_append, List.length_set, List.length_cons, List.length_nil]; omega)) only [go_sem, ↓reduceIte, Nat.reduceEqDiff, reduceCtorEq, q8] <;> exact bld56 _ _ _) ?_
      have lq8 := hget_lt q8
      have lq9 := hget_lt q9
      refine A_buildSlice (bs25two _ _ _ _ _ ⟨(gt l i.toNat).b, t, (gt l i.toNat).w⟩ ⟨t, (gt l i.toNat).a, (gt l i.toNat).w⟩ (by simp (disch := first | omega | (simp only [List.length_map, List.length_append, List.length_set, List.length_cons, List.length_nil]; omega)) only [go_sem, ↓reduceIte, Nat.reduceEqDiff, reduceCtorEq, q8] <;> rfl) (by simp (disch := first | omega | (simp only [List.length_map, List.length_append, List.length_set, List.length_cons, List.length_nil]; omega)) only [go_sem, ↓reduceIte, Nat.reduceEqDiff, reduceCtorEq, q8] <;> rfl)) ?_
      intro H5 n5
      have en5 := n5.len
      have q8 := (n5.old _ (hget_lt q8)).trans q8
      have q9 := (n5.old _ (hget_lt q9)).trans q9
      have qn := n5.new
      have lq8 := hget_lt q8
      have lq9 := hget_lt q9
      have lqn := hget_lt qn
      have ha2 := app25g (lim := H.length) (n := i.toNat) (m := 2) q9 (y := .own 3 H4.length 0 2) (u := [⟨(gt l i.toNat).b, t, (gt l i.toNat).w⟩, ⟨t, (gt l i.toNat).a, (gt l i.toNat).w⟩]) (by simp only [srcCells, qn]; rfl) (by omega) (by rw [List.nil_append, List.length_take]; omega) (by omega)
      refine A_append (by simp (disch := first | omega | (simp only [List.length_map, List.length_append, List.length_set, List.length_cons, List.length_nil]; omega)) only [go_sem, ↓reduceIte, Nat.reduceEqDiff, reduceCtorEq, q8]; exact ha2) ?_
      intro H6 g6
      have eg6 := g6.len
      have q8 := (g6.old _ (by omega) lq8).trans q8
      have q9 := g6.new
      refine Rq ?_
      have tr : ∀ a b c d e f g h i j k m n o p q r s t u v w x y z A : AV, let l := lc_rsplit_ok a b c d e f g h i j; trim ((9,A)::(54,z)::(53,y)::(52,x)::(51,w)::(50,v)::(49,u)::(48,t)::(47,s)::(46,r)::(45,q)::(44,p)::(43,o)::(42,n)::(41,m)::(40,k)::l) l = [(0,a),(1,b),(2,c),(6,d),(7,e),(8,f),(9,A),(17,h),(31,i),(34,j)] := by intros; rfl
      refine R_nil (tr ..) ?_; clear tr
      refine then_n ?_
      refine at_seq rfl ?_
      refine rg rfl ?_
      refine Rq ?_
      refine Rq ?_
      refine Rq ?_
      refine R_q (r := AV.i (i + 1)) rfl (by simp (disch := first | omega | (simp only [List.length_map, List.length_append, List.length_set, List.length_cons, List.length_nil]; omega)) only [go_sem, ↓reduceIte, Nat.reduceEqDiff, reduceCtorEq] <;> rfl) ?_
      refine R_q (r := stopsAV (l.drop (i + 1).toNat)) rfl (by simp (disch := first | omega | (simp only [List.length_map, List.length_append, List.length_set, List.length_cons, List.length_nil]; omega)) only [go_sem, ↓reduceIte, Nat.reduceEqDiff, reduceCtorEq] <;> exact sl_lo (by omega) (by omega)) ?_
      have lq8 := hget_lt q8
      have lq9 := hget_lt q9
      have ha3 := app25g (lim := H.length) (n := i.toNat + 2) q9 (src_all (l.drop (i + 1).toNat)) (by omega) (by simp; omega) (by simp; omega)
      refine A_append (by simp (disch := first | omega | (simp only [List.length_map, List.length_append, List.length_set, List.length_cons, List.length_nil]; omega)) only [go_sem, ↓reduceIte, Nat.reduceEqDiff, reduceCtorEq, q8]; exact ha3) ?_
      intro H7 g7
      have eg7 := g7.len
      have q8 := (g7.old _ (by omega) lq8).trans q8
      have q9 := g7.new
      refine Rq ?_
      refine Rq ?_
      have tr : ∀ a b c d e f g h i j k m n o p q r s : AV, let l := lc_rsplit_ok a b c d e f g h i j; trim ((7,s)::(6,r)::(60,q)::(59,p)::(58,o)::(57,n)::(56,m)::(55,k)::l) l = [(0,a),(1,b),(2,c),(6,r),(7,s),(8,f),(9,g),(17,h),(31,i),(34,j)] := by intros; rfl
      refine R_nil (tr ..) ?_; clear tr
      refine then_n ?_
      refine at_ret rfl ?_
      have e : [] ++ l.take i.toNat ++ [⟨(gt l i.toNat).b, t, (gt l i.toNat).w⟩, ⟨t, (gt l i.toNat).a, (gt l i.toNat).w⟩] ++ l.drop (i + 1).toNat = spl l i.toNat t := by rw [show (i + 1).toNat = i.toNat + 1 by omega]; rfl
      rewrite [e] at q9
      have e2 : i.toNat + 2 + (l.drop (i + 1).toNat).length = (spl l i.toNat t).length := by rw [← e]; simp; omega
      refine fin_pure (rs := [.tmp 6, .tmp 7]) rfl (by simp (disch := first | omega | (simp only [List.length_map, List.length_append, List.length_set, List.length_cons, List.length_nil]; omega)) only [go_sem, ↓reduceIte, Nat.reduceEqDiff, reduceCtorEq] <;> rfl) (v := .tup [stopsAV (spl l i.toNat t), AV.i 0]) (by show AV.tup [frz _ _ 7 (.own 3 _ 0 _), AV.i 0] = _; rw [frz_own3' (by omega) q9, List.drop_zero, frz_flatS, e2]) ?_
      refine ⟨?_, rfl⟩
      rw [hz, splA_0 hz]

end Go.Proofs.Ytaoondlakhocnaa
end
section
set_option linter.unusedSimpArgs false
set_option linter.unusedVariables false
set_option maxHeartbeats 40000000
set_option maxRecDepth 4000
namespace Go.Proofs.Ytaoondlakhocnaa
open Go Go.Am

abbrev lc_target_fz (a b c d e f g h i : AV) : Env := [(0,a),(1,b),(2,c),(3,d),(4,e),(5,f),(6,g),(7,h),(16,i)]
theorem target_fz (lim : Nat) (H : Heap) (rows : Tb) (per tot wth balls : Int) (l m : List Stp) (x y : AV) (hx : frz H 0 7 x = stopsAV l) (hy : frz H 0 7 y = stopsAV m) :
    ACall sig lim 19 [.agg [rowsAV rows, AV.i per, AV.i tot, AV.i wth, AV.i balls, x, y]] H fun r H' => r = .tup [AV.i (tgtS rows per tot wth balls l m).1, AV.i (tgtS rows per tot wth balls l m).2] ∧ H' = H := by
 have hargs : [AV.agg [rowsAV rows, AV.i per, AV.i tot, AV.i wth, AV.i balls, x, y]].map (frz H 0 8) = [.agg [rowsAV rows, AV.i per, AV.i tot, AV.i wth, AV.i balls, stopsAV l, stopsAV m]] := by
   show [AV.agg [frz H 0 7 (rowsAV rows), AV.i per, AV.i tot, AV.i wth, AV.i balls, frz H 0 7 x, frz H 0 7 y]] = _
   rw [frz_rows, hx, hy]
 refine ACall_data (fa := fa19) rfl rfl rfl rfl hargs ?_
 have tr : ∀ a0 : AV, env0 fa19.keep [a0] = [(0,a0),(1,.any),(2,.any),(3,.any),(4,.any),(5,.any),(6,.any),(7,.any),(16,.any)] := fun a0 => rfl
 refine W_to (tr _) ?_; clear tr
 refine at_seq rfl ?_
 refine rg rfl ?_
 refine R_box rfl (by simp (disch := first | omega | (simp only [List.length_map, List.length_append, List.length_set, List.length_cons, List.length_nil]; omega)) only [go_sem, ↓reduceIte, Nat.reduceEqDiff, reduceCtorEq] <;> rfl) rfl rfl ?_
 refine Rq ?_
 refine Rq ?_
 have tr : ∀ a b c d e f g h i j k m : AV, let l := lc_target_fz a b c d e f g h i; trim ((3,m)::(2,k)::(1,j)::l) l = [(0,a),(1,j),(2,k),(3,m),(4,e),(5,f),(6,g),(7,h),(16,i)] := by intros; rfl
 refine R_nil (tr ..) ?_; clear tr
 refine then_n ?_
 refine at_seq rfl ?_
 refine rg rfl ?_
 refine Rq ?_
 refine Rcall ?_
 refine ACall_eq (res_ok _ _ rows per tot wth balls l m) ?_
 refine Rq ?_
 refine Rq ?_
 refine Rq ?_
 refine Rq ?_
 refine Rq ?_
 refine Rq ?_
 refine Rq ?_
 refine Rq ?_
 refine Rq ?_
 have tr : ∀ a b c d e f g h i j k m n o p q r s t u : AV, let l := lc_target_fz a b c d e f g h i; trim ((7,u)::(6,t)::(5,s)::(4,r)::(14,q)::(13,p)::(12,o)::(11,n)::(8,m)::(10,k)::(9,j)::l) l = [(0,a),(1,b),(2,c),(3,d),(4,r),(5,s),(6,t),(7,u),(16,i)] := by intros; rfl
 refine R_nil (tr ..) ?_; clear tr
 refine then_n ?_
 refine at_seq rfl ?_
 refine at_seq rfl ?_
 refine rg rfl ?_
 refine Rq ?_
 refine Rq ?_
 have tr : ∀ a b c d e f g h i j k : AV, let l := lc_target_fz a b c d e f g h i; trim ((16,k)::(15,j)::l) l = [(0,a),(1,b),(2,c),(3,d),(4,e),(5,f),(6,g),(7,h),(16,k)] := by intros; rfl
 refine R_nil (tr ..) ?_; clear tr
 refine then_n ?_
 refine cdd (fun h1 => ?_) (fun h1 => ?_)
 ·
  try simp only [decide_eq_true_eq, decide_eq_false_iff_not, Bool.not_eq_true', Bool.not_eq_false', beq_iff_eq, beq_eq_false_iff_ne, ne_eq] at h1
  refine at_seq rfl ?_
  refine rg rfl ?_
  refine Rq ?_
  refine Rq ?_
  refine Rq ?_
  have tr : ∀ a b c d e f g h i j k m : AV, let l := lc_target_fz a b c d e f g h i; trim ((3,m)::(2,k)::(17,j)::l) l = [(0,a),(1,b),(2,k),(3,m),(4,e),(5,f),(6,g),(7,h),(16,i)] := by intros; rfl
  refine R_nil (tr ..) ?_; clear tr
  refine then_n ?_
  refine at_ret rfl ?_
  refine then_r ?_
  refine fpure ?_
  refine ⟨rfl, ?_, rfl⟩
  rw [tgtS, if_pos (by assumption)]
 ·
  try simp only [decide_eq_true_eq, decide_eq_false_iff_not, Bool.not_eq_true', Bool.not_eq_false', beq_iff_eq, beq_eq_false_iff_ne, ne_eq] at h1
  refine at_skip rfl ?_
  refine then_n ?_
  refine at_seq rfl ?_
  refine rg rfl ?_
  have e3 : res3 rows per balls l m = 10000 * per := by rw [res3, if_pos (by assumption)]
  have hper := res_per (by assumption : resE rows per balls l m = 0)
  refine Rq ?_
  refine Rq ?_
  refine Rq ?_
  refine Rq ?_
  refine Rq ?_
  refine Rq ?_
  refine Rq ?_
  refine Rcall ?_
  refine ACall_eq (rev_ok _ _ tot (res1 rows per balls l m) (res2 rows per balls l m) (res3 rows per balls l m) wth) ?_
  refine Rq ?_
  refine Rq ?_
  refine Rq ?_
  refine Rq ?_
  have tr : ∀ a b c d e f g h i j k m n o p q r s t u v : AV, let l := lc_target_fz a b c d e f g h i; trim ((3,v)::(2,u)::(27,t)::(26,s)::(25,r)::(24,q)::(23,p)::(22,o)::(21,n)::(20,m)::(19,k)::(18,j)::l) l = [(0,a),(1,b),(2,u),(3,v),(4,e),(5,f),(6,g),(7,h),(16,i)] := by intros; rfl
  refine R_nil (tr ..) ?_; clear tr
  refine then_n ?_
  refine at_ret rfl ?_
  refine fpure ?_
  refine ⟨rfl, ?_, rfl⟩
  rw [tgtS, if_neg (by omega)]

end Go.Proofs.Ytaoondlakhocnaa
end
section
set_option linter.unusedSimpArgs false
set_option linter.unusedVariables false
set_option maxHeartbeats 40000000
set_option maxRecDepth 4000
namespace Go.Proofs.Ytaoondlakhocnaa
open Go Go.Am

theorem tgt_ok (lim : Nat) (H : Heap) (rows : Tb) (per tot wth balls : Int) (l m : List Stp) : ACall sig lim 19 [.agg [rowsAV rows, AV.i per, AV.i tot, AV.i wth, AV.i balls, stopsAV l, stopsAV m]] H fun r H' => r = .tup [AV.i (tgtS rows per tot wth balls l m).1, AV.i (tgtS rows per tot wth balls l m).2] ∧ H' = H :=
  target_fz lim H rows per tot wth balls l m _ _ (frz_stops _ _ _ _) (frz_stops _ _ _ _)
abbrev lc_pat_ok (a b c d e f g h i j k m n o p q r s t : AV) : Env := [(0,a),(1,b),(2,c),(3,d),(6,e),(7,f),(9,g),(10,h),(11,i),(12,j),(13,k),(14,m),(15,n),(16,o),(17,p),(25,q),(38,r),(46,s),(68,t)]
theorem pat_ok (lim : Nat) (H : Heap) (rows : Tb) (per tot wth balls : Int) (l m : List Stp) (n w : Int) :
    ACall sig lim 23 [.agg [rowsAV rows, AV.i per, AV.i tot, AV.i wth, AV.i balls, stopsAV l, stopsAV m], AV.i n, AV.i w] H fun r H' => r = .tup [AV.i (patS rows per tot wth balls l m n w).1, AV.i (patS rows per tot wth balls l m n w).2] ∧ H' = H := by
 refine ACall_pure (fa := fa23) rfl rfl rfl rfl ?_
 have tr : ∀ a0 a1 a2 : AV, env0 fa23.keep [a0, a1, a2] = [(0,a0),(1,a1),(2,a2),(3,.any),(6,.any),(7,.any),(9,.any),(10,.any),(11,.any),(12,.any),(13,.any),(14,.any),(15,.any),(16,.any),(17,.any),(25,.any),(38,.any),(46,.any),(68,.any)] := fun a0 a1 a2 => rfl
 refine W_to (tr _ _ _) ?_; clear tr
 refine at_seq rfl ?_
 refine rg rfl ?_
 refine R_box rfl (by simp (disch := first | omega | (simp only [List.length_map, List.length_append, List.length_set, List.length_cons, List.length_nil]; omega)) only [go_sem, ↓reduceIte, Nat.reduceEqDiff, reduceCtorEq] <;> rfl) rfl rfl ?_
 refine Rq ?_
 refine Rq ?_
 have tr : ∀ a b c d e f g h i j k m n o p q r s t u v w : AV, let l := lc_pat_ok a b c d e f g h i j k m n o p q r s t; trim ((7,w)::(6,v)::(3,u)::l) l = [(0,a),(1,b),(2,c),(3,u),(6,v),(7,w),(9,g),(10,h),(11,i),(12,j),(13,k),(14,m),(15,n),(16,o),(17,p),(25,q),(38,r),(46,s),(68,t)] := by intros; rfl
 refine R_nil (tr ..) ?_; clear tr
 refine then_n ?_
 refine at_seq rfl ?_
 refine at_seq rfl ?_
 refine rg rfl ?_
 refine Rq ?_
 refine Rcall ?_
 refine ACall_eq (tgt_ok _ _ rows per tot wth balls l m) ?_
 refine Rq ?_
 refine Rq ?_
 refine Rq ?_
 refine Rq ?_
 refine Rq ?_
 have tr : ∀ a b c d e f g h i j k m n o p q r s t u v w x y z A : AV, let l := lc_pat_ok a b c d e f g h i j k m n o p q r s t; trim ((9,A)::(8,z)::(23,y)::(22,x)::(19,w)::(21,v)::(20,u)::l) l = [(0,a),(1,b),(2,c),(3,d),(6,e),(7,f),(9,A),(10,h),(11,i),(12,j),(13,k),(14,m),(15,n),(16,o),(17,p),(25,q),(38,r),(46,s),(68,t)] := by intros; rfl
 refine R_nil (tr ..) ?_; clear tr
 refine then_n ?_
 refine at_seq rfl ?_
 refine rg rfl ?_
 refine Rq ?_
 refine Rq ?_
 have tr : ∀ a b c d e f g h i j k m n o p q r s t u v : AV, let l := lc_pat_ok a b c d e f g h i j k m n o p q r s t; trim ((25,v)::(24,u)::l) l = [(0,a),(1,b),(2,c),(3,d),(6,e),(7,f),(9,g),(10,h),(11,i),(12,j),(13,k),(14,m),(15,n),(16,o),(17,p),(25,v),(38,r),(46,s),(68,t)] := by intros; rfl
 refine R_nil (tr ..) ?_; clear tr
 refine then_n ?_
 refine cdd (fun h1 => ?_) (fun h1 => ?_)
 ·
  try simp only [decide_eq_true_eq, decide_eq_false_iff_not, Bool.not_eq_true', Bool.not_eq_false', beq_iff_eq, beq_eq_false_iff_ne, ne_eq] at h1
  refine at_seq rfl ?_
  refine rg rfl ?_
  refine Rq ?_
  refine Rq ?_
  refine Rq ?_
  have tr : ∀ a b c d e f g h i j k m n o p q r s t u v w : AV, let l := lc_pat_ok a b c d e f g h i j k m n o p q r s t; trim ((7,w)::(6,v)::(26,u)::l) l = [(0,a),(1,b),(2,c),(3,d),(6,v),(7,w),(9,g),(10,h),(11,i),(12,j),(13,k),(14,m),(15,n),(16,o),(17,p),(25,q),(38,r),(46,s),(68,t)] := by intros; rfl
  refine R_nil (tr ..) ?_; clear tr
  refine then_n ?_
  refine at_ret rfl ?_
  refine then_r ?_
  refine fpure ?_
  refine ⟨?_, rfl⟩
  first | (rw [patS, if_pos (by assumption)]; done) | (rw [patS, if_neg (by omega), if_pos (by assumption)]; done) | (rw [patS, if_neg (by omega), if_neg (by omega), if_pos (by omega)]; done) | (rw [patS, if_neg (by omega), if_neg (by omega), if_neg (by omega)]; done)
 ·
  try simp only [decide_eq_true_eq, decide_eq_false_iff_not, Bool.not_eq_true', Bool.not_eq_false', beq_iff_eq, beq_eq_false_iff_ne, ne_eq] at h1
  refine at_skip rfl ?_
  refine then_n ?_
  refine at_seq rfl ?_
  refine rg rfl ?_
  refine Rq ?_
  refine Rq ?_
  refine Rq ?_
  refine Rq ?_
  refine Rq ?_
  refine Rq ?_
  refine Rcall ?_
  refine ACall_eq (at_ok _ _ rows per n w) ?_
  refine Rq ?_
  refine Rq ?_
  refine Rq ?_
  refine Rq ?_
  refine Rq ?_
  have tr : ∀ a b c d e f g h i j k m n o p q r s t u v w x y z A B C D E F : AV, let l := lc_pat_ok a b c d e f g h i j k m n o p q r s t; trim ((11,F)::(10,E)::(36,D)::(35,C)::(27,B)::(34,A)::(33,z)::(32,y)::(31,x)::(30,w)::(29,v)::(28,u)::l) l = [(0,a),(1,b),(2,c),(3,d),(6,e),(7,f),(9,g),(10,E),(11,F),(12,j),(13,k),(14,m),(15,n),(16,o),(17,p),(25,q),(38,r),(46,s),(68,t)] := by intros; rfl
  refine R_nil (tr ..) ?_; clear tr
  refine then_n ?_
  refine at_seq rfl ?_
  refine at_seq rfl ?_
  refine rg rfl ?_
  refine Rq ?_
  refine Rq ?_
  have tr : ∀ a b c d e f g h i j k m n o p q r s t u v : AV, let l := lc_pat_ok a b c d e f g h i j k m n o p q r s t; trim ((38,v)::(37,u)::l) l = [(0,a),(1,b),(2,c),(3,d),(6,e),(7,f),(9,g),(10,h),(11,i),(12,j),(13,k),(14,m),(15,n),(16,o),(17,p),(25,q),(38,v),(46,s),(68,t)] := by intros; rfl
  refine R_nil (tr ..) ?_; clear tr
  refine then_n ?_
  refine cdd (fun h2 => ?_) (fun h2 => ?_)
  ·
   try simp only [decide_eq_true_eq, decide_eq_false_iff_not, Bool.not_eq_true', Bool.not_eq_false', beq_iff_eq, beq_eq_false_iff_ne, ne_eq] at h2
   refine at_seq rfl ?_
   refine rg rfl ?_
   refine Rq ?_
   refine Rq ?_
   refine Rq ?_
   have tr : ∀ a b c d e f g h i j k m n o p q r s t u v w : AV, let l := lc_pat_ok a b c d e f g h i j k m n o p q r s t; trim ((7,w)::(6,v)::(39,u)::l) l = [(0,a),(1,b),(2,c),(3,d),(6,v),(7,w),(9,g),(10,h),(11,i),(12,j),(13,k),(14,m),(15,n),(16,o),(17,p),(25,q),(38,r),(46,s),(68,t)] := by intros; rfl
   refine R_nil (tr ..) ?_; clear tr
   refine then_n ?_
   refine at_ret rfl ?_
   refine then_r ?_
   refine fpure ?_
   refine ⟨?_, rfl⟩
   first | (rw [patS, if_pos (by assumption)]; done) | (rw [patS, if_neg (by omega), if_pos (by assumption)]; done) | (rw [patS, if_neg (by omega), if_neg (by omega), if_pos (by omega)]; done) | (rw [patS, if_neg (by omega), if_neg (by omega), if_neg (by omega)]; done)
  ·
   try simp only [decide_eq_true_eq, decide_eq_false_iff_not, Bool.not_eq_true', Bool.not_eq_false', beq_iff_eq, beq_eq_false_iff_ne, ne_eq] at h2
   refine at_skip rfl ?_
   refine then_n ?_
   refine at_seq rfl ?_
   refine rg rfl ?_
   have hE := tgt_E (by assumption : (tgtS rows per tot wth balls l m).2 = 0)
   have e3 : res3 rows per balls l m = 10000 * per := by rw [res3, if_pos hE]
   have hper := res_per hE
   have hml := (left_zero (res_zero hE).2).1.most
   have hm := most_case balls m
   refine Rq ?_
   refine Rq ?_
   refine Rq ?_
   refine Rq ?_
   have tr : ∀ a b c d e f g h i j k m n o p q r s t u v w x : AV, let l := lc_pat_ok a b c d e f g h i j k m n o p q r s t; trim ((13,x)::(12,w)::(41,v)::(40,u)::l) l = [(0,a),(1,b),(2,c),(3,d),(6,e),(7,f),(9,g),(10,h),(11,i),(12,w),(13,x),(14,m),(15,n),(16,o),(17,p),(25,q),(38,r),(46,s),(68,t)] := by intros; rfl
   refine R_nil (tr ..) ?_; clear tr
   refine then_n ?_
   refine at_seq rfl ?_
   refine at_seq rfl ?_
   refine rg rfl ?_
   refine Rq ?_
   refine Rq ?_
   refine Rq ?_
   refine Rq ?_
   have tr : ∀ a b c d e f g h i j k m n o p q r s t u v w x : AV, let l := lc_pat_ok a b c d e f g h i j k m n o p q r s t; trim ((14,x)::(44,w)::(43,v)::(42,u)::l) l = [(0,a),(1,b),(2,c),(3,d),(6,e),(7,f),(9,g),(10,h),(11,i),(12,j),(13,k),(14,x),(15,n),(16,o),(17,p),(25,q),(38,r),(46,s),(68,t)] := by intros; rfl
   refine R_nil (tr ..) ?_; clear tr
   refine then_n ?_
   refine at_seq rfl ?_
   refine rg rfl ?_
   refine Rq ?_
   refine Rq ?_
   have tr : ∀ a b c d e f g h i j k m n o p q r s t u v : AV, let l := lc_pat_ok a b c d e f g h i j k m n o p q r s t; trim ((46,v)::(45,u)::l) l = [(0,a),(1,b),(2,c),(3,d),(6,e),(7,f),(9,g),(10,h),(11,i),(12,j),(13,k),(14,m),(15,n),(16,o),(17,p),(25,q),(38,r),(46,v),(68,t)] := by intros; rfl
   refine R_nil (tr ..) ?_; clear tr
   refine then_n ?_
   refine cdd (fun h3 => ?_) (fun h3 => ?_)
   ·
    try simp only [decide_eq_true_eq, decide_eq_false_iff_not, Bool.not_eq_true', Bool.not_eq_false', beq_iff_eq, beq_eq_false_iff_ne, ne_eq] at h3
    refine rd rfl rfl ?_
    refine Qq ?_
    refine Qq ?_
    refine Qq ?_
    refine Qq ?_
    refine Qq ?_
    refine Qq ?_
    refine Qq ?_
    refine Qq ?_
    refine Qq ?_
    refine Qq ?_
    refine Qq ?_
    refine Qq ?_
    refine Qq ?_
    refine Qq ?_
    refine Qq ?_
    refine Qq ?_
    refine Q_nil ?_
    have tr : ∀ a b c d e f g h i j k m n o p q r s t u v w x y z A B C D E F G H I J : AV, let l := lc_pat_ok a b c d e f g h i j k m n o p q r s t; trim ((13,J)::(12,I)::(60,H)::(59,G)::(58,F)::(57,E)::(56,D)::(55,C)::(54,B)::(53,A)::(52,z)::(51,y)::(50,x)::(49,w)::(48,v)::(47,u)::l) l = [(0,a),(1,b),(2,c),(3,d),(6,e),(7,f),(9,g),(10,h),(11,i),(12,I),(13,J),(14,m),(15,n),(16,o),(17,p),(25,q),(38,r),(46,s),(68,t)] := by intros; rfl
    refine R_nil (tr ..) ?_; clear tr
    refine then_n ?_
    refine at_seq rfl ?_
    refine at_seq rfl ?_
    refine rg rfl ?_
    refine Rq ?_
    refine Rq ?_
    refine Rq ?_
    refine Rq ?_
    refine Rp_split (fun h4 => ?_) (fun h4 => ?_)
    ·
     try simp only [decide_eq_true_eq, decide_eq_false_iff_not, Bool.not_eq_true', Bool.not_eq_false', beq_iff_eq, beq_eq_false_iff_ne, ne_eq] at h4
     refine Rn ?_
     refine Rn ?_
     refine Rn ?_
     refine Rq ?_
     have tr : ∀ a b c d e f g h i j k m n o p q r s t u v w x y z A B : AV, let l := lc_pat_ok a b c d e f g h i j k m n o p q r s t; trim ((68,B)::(67,A)::(66,z)::(65,y)::(64,x)::(63,w)::(62,v)::(61,u)::l) l = [(0,a),(1,b),(2,c),(3,d),(6,e),(7,f),(9,g),(10,h),(11,i),(12,j),(13,k),(14,m),(15,n),(16,o),(17,p),(25,q),(38,r),(46,s),(68,B)] := by intros; rfl
     refine R_nil (tr ..) ?_; clear tr
     refine then_n ?_
     refine cdt ?_
     refine at_seq rfl ?_
     refine rg rfl ?_
     refine Rq ?_
     refine Rq ?_
     have tr : ∀ a b c d e f g h i j k m n o p q r s t u v : AV, let l := lc_pat_ok a b c d e f g h i j k m n o p q r s t; trim ((7,v)::(6,u)::l) l = [(0,a),(1,b),(2,c),(3,d),(6,u),(7,v),(9,g),(10,h),(11,i),(12,j),(13,k),(14,m),(15,n),(16,o),(17,p),(25,q),(38,r),(46,s),(68,t)] := by intros; rfl
     refine R_nil (tr ..) ?_; clear tr
     refine then_n ?_
     refine at_ret rfl ?_
     refine then_r ?_
     refine fpure ?_
     refine ⟨?_, rfl⟩
     first | (rw [patS, if_pos (by assumption)]; done) | (rw [patS, if_neg (by omega), if_pos (by assumption)]; done) | (rw [patS, if_neg (by omega), if_neg (by omega), if_pos (by omega)]; done) | (rw [patS, if_neg (by omega), if_neg (by omega), if_neg (by omega)]; done)
    ·
     try simp only [decide_eq_true_eq, decide_eq_false_iff_not, Bool.not_eq_true', Bool.not_eq_false', beq_iff_eq, beq_eq_false_iff_ne, ne_eq] at h4
     refine Ry ?_
     refine Rq ?_
     refine Ry ?_
     refine Rq ?_
     refine Ry ?_
     refine Rq ?_
     refine Rq ?_
     have tr : ∀ a b c d e f g h i j k m n o p q r s t u v w x y z A B : AV, let l := lc_pat_ok a b c d e f g h i j k m n o p q r s t; trim ((68,B)::(67,A)::(66,z)::(65,y)::(64,x)::(63,w)::(62,v)::(61,u)::l) l = [(0,a),(1,b),(2,c),(3,d),(6,e),(7,f),(9,g),(10,h),(11,i),(12,j),(13,k),(14,m),(15,n),(16,o),(17,p),(25,q),(38,r),(46,s),(68,B)] := by intros; rfl
     refine R_nil (tr ..) ?_; clear tr
     refine then_n ?_
     refine cdd (fun h5 => ?_) (fun h5 => ?_)
     ·
      try simp only [decide_eq_true_eq, decide_eq_false_iff_not, Bool.not_eq_true', Bool.not_eq_false', beq_iff_eq, beq_eq_false_iff_ne, ne_eq] at h5
      refine at_seq rfl ?_
      refine rg rfl ?_
      refine Rq ?_
      refine Rq ?_
      have tr : ∀ a b c d e f g h i j k m n o p q r s t u v : AV, let l := lc_pat_ok a b c d e f g h i j k m n o p q r s t; trim ((7,v)::(6,u)::l) l = [(0,a),(1,b),(2,c),(3,d),(6,u),(7,v),(9,g),(10,h),(11,i),(12,j),(13,k),(14,m),(15,n),(16,o),(17,p),(25,q),(38,r),(46,s),(68,t)] := by intros; rfl
      refine R_nil (tr ..) ?_; clear tr
      refine then_n ?_
      refine at_ret rfl ?_
      refine then_r ?_
      refine fpure ?_
      refine ⟨?_, rfl⟩
      first | (rw [patS, if_pos (by assumption)]; done) | (rw [patS, if_neg (by omega), if_pos (by assumption)]; done) | (rw [patS, if_neg (by omega), if_neg (by omega), if_pos (by omega)]; done) | (rw [patS, if_neg (by omega), if_neg (by omega), if_neg (by omega)]; done)
     ·
      try simp only [decide_eq_true_eq, decide_eq_false_iff_not, Bool.not_eq_true', Bool.not_eq_false', beq_iff_eq, beq_eq_false_iff_ne, ne_eq] at h5
      refine at_skip rfl ?_
      refine then_n ?_
      refine at_seq rfl ?_
      refine rg rfl ?_
      refine Rq ?_
      refine Rcall ?_
      refine ACall_eq (res_ok _ _ rows per tot wth balls l m) ?_
      refine Rq ?_
      refine Rq ?_
      refine Rq ?_
      refine Rq ?_
      refine Rq ?_
      refine Rq ?_
      refine Rq ?_
      refine Rq ?_
      refine Rq ?_
      have tr : ∀ a b c d e f g h i j k m n o p q r s t u v w x y z A B C D E : AV, let l := lc_pat_ok a b c d e f g h i j k m n o p q r s t; trim ((18,E)::(17,D)::(16,C)::(15,B)::(75,A)::(74,z)::(73,y)::(72,x)::(69,w)::(71,v)::(70,u)::l) l = [(0,a),(1,b),(2,c),(3,d),(6,e),(7,f),(9,g),(10,h),(11,i),(12,j),(13,k),(14,m),(15,B),(16,C),(17,D),(25,q),(38,r),(46,s),(68,t)] := by intros; rfl
      refine R_nil (tr ..) ?_; clear tr
      refine then_n ?_
      refine at_seq rfl ?_
      refine rg rfl ?_
      refine Rq ?_
      refine Rq ?_
      refine Rq ?_
      refine Rq ?_
      refine Rq ?_
      refine Rq ?_
      refine Rq ?_
      refine Rq ?_
      refine Rcall ?_
      refine ACall_eq (par_ok _ _ tot (res1 rows per balls l m) (res2 rows per balls l m) (atS rows per n w).1 (res3 rows per balls l m) wth) ?_
      refine Rq ?_
      refine Rq ?_
      refine Rq ?_
      refine Rq ?_
      have tr : ∀ a b c d e f g h i j k m n o p q r s t u v w x y z A B C D E F G : AV, let l := lc_pat_ok a b c d e f g h i j k m n o p q r s t; trim ((7,G)::(6,F)::(86,E)::(85,D)::(84,C)::(83,B)::(82,A)::(81,z)::(80,y)::(79,x)::(78,w)::(77,v)::(76,u)::l) l = [(0,a),(1,b),(2,c),(3,d),(6,F),(7,G),(9,g),(10,h),(11,i),(12,j),(13,k),(14,m),(15,n),(16,o),(17,p),(25,q),(38,r),(46,s),(68,t)] := by intros; rfl
      refine R_nil (tr ..) ?_; clear tr
      refine then_n ?_
      refine at_ret rfl ?_
      refine fpure ?_
      refine ⟨?_, rfl⟩
      first | (rw [patS, if_pos (by assumption)]; done) | (rw [patS, if_neg (by omega), if_pos (by assumption)]; done) | (rw [patS, if_neg (by omega), if_neg (by omega), if_pos (by omega)]; done) | (rw [patS, if_neg (by omega), if_neg (by omega), if_neg (by omega)]; done)
   ·
    try simp only [decide_eq_true_eq, decide_eq_false_iff_not, Bool.not_eq_true', Bool.not_eq_false', beq_iff_eq, beq_eq_false_iff_ne, ne_eq] at h3
    refine at_skip rfl ?_
    refine then_n ?_
    refine at_seq rfl ?_
    refine at_seq rfl ?_
    refine rg rfl ?_
    refine Rq ?_
    refine Rq ?_
    refine Rq ?_
    refine Rq ?_
    refine Rp_split (fun h6 => ?_) (fun h6 => ?_)
    ·
     try simp only [decide_eq_true_eq, decide_eq_false_iff_not, Bool.not_eq_true', Bool.not_eq_false', beq_iff_eq, beq_eq_false_iff_ne, ne_eq] at h6
     refine Rn ?_
     refine Rn ?_
     refine Rn ?_
     refine Rq ?_
     have tr : ∀ a b c d e f g h i j k m n o p q r s t u v w x y z A B : AV, let l := lc_pat_ok a b c d e f g h i j k m n o p q r s t; trim ((68,B)::(67,A)::(66,z)::(65,y)::(64,x)::(63,w)::(62,v)::(61,u)::l) l = [(0,a),(1,b),(2,c),(3,d),(6,e),(7,f),(9,g),(10,h),(11,i),(12,j),(13,k),(14,m),(15,n),(16,o),(17,p),(25,q),(38,r),(46,s),(68,B)] := by intros; rfl
     refine R_nil (tr ..) ?_; clear tr
     refine then_n ?_
     refine cdt ?_
     refine at_seq rfl ?_
     refine rg rfl ?_
     refine Rq ?_
     refine Rq ?_
     have tr : ∀ a b c d e f g h i j k m n o p q r s t u v : AV, let l := lc_pat_ok a b c d e f g h i j k m n o p q r s t; trim ((7,v)::(6,u)::l) l = [(0,a),(1,b),(2,c),(3,d),(6,u),(7,v),(9,g),(10,h),(11,i),(12,j),(13,k),(14,m),(15,n),(16,o),(17,p),(25,q),(38,r),(46,s),(68,t)] := by intros; rfl
     refine R_nil (tr ..) ?_; clear tr
     refine then_n ?_
     refine at_ret rfl ?_
     refine then_r ?_
     refine fpure ?_
     refine ⟨?_, rfl⟩
     first | (rw [patS, if_pos (by assumption)]; done) | (rw [patS, if_neg (by omega), if_pos (by assumption)]; done) | (rw [patS, if_neg (by omega), if_neg (by omega), if_pos (by omega)]; done) | (rw [patS, if_neg (by omega), if_neg (by omega), if_neg (by omega)]; done)
    ·
     try simp only [decide_eq_true_eq, decide_eq_false_iff_not, Bool.not_eq_true', Bool.not_eq_false', beq_iff_eq, beq_eq_false_iff_ne, ne_eq] at h6
     refine Ry ?_
     refine Rq ?_
     refine Ry ?_
     refine Rq ?_
     refine Ry ?_
     refine Rq ?_
     refine Rq ?_
     have tr : ∀ a b c d e f g h i j k m n o p q r s t u v w x y z A B : AV, let l := lc_pat_ok a b c d e f g h i j k m n o p q r s t; trim ((68,B)::(67,A)::(66,z)::(65,y)::(64,x)::(63,w)::(62,v)::(61,u)::l) l = [(0,a),(1,b),(2,c),(3,d),(6,e),(7,f),(9,g),(10,h),(11,i),(12,j),(13,k),(14,m),(15,n),(16,o),(17,p),(25,q),(38,r),(46,s),(68,B)] := by intros; rfl
     refine R_nil (tr ..) ?_; clear tr
     refine then_n ?_
     refine cdd (fun h7 => ?_) (fun h7 => ?_)
     ·
      try simp only [decide_eq_true_eq, decide_eq_false_iff_not, Bool.not_eq_true', Bool.not_eq_false', beq_iff_eq, beq_eq_false_iff_ne, ne_eq] at h7
      refine at_seq rfl ?_
      refine rg rfl ?_
      refine Rq ?_
      refine Rq ?_
      have tr : ∀ a b c d e f g h i j k m n o p q r s t u v : AV, let l := lc_pat_ok a b c d e f g h i j k m n o p q r s t; trim ((7,v)::(6,u)::l) l = [(0,a),(1,b),(2,c),(3,d),(6,u),(7,v),(9,g),(10,h),(11,i),(12,j),(13,k),(14,m),(15,n),(16,o),(17,p),(25,q),(38,r),(46,s),(68,t)] := by intros; rfl
      refine R_nil (tr ..) ?_; clear tr
      refine then_n ?_
      refine at_ret rfl ?_
      refine then_r ?_
      refine fpure ?_
      refine ⟨?_, rfl⟩
      first | (rw [patS, if_pos (by assumption)]; done) | (rw [patS, if_neg (by omega), if_pos (by assumption)]; done) | (rw [patS, if_neg (by omega), if_neg (by omega), if_pos (by omega)]; done) | (rw [patS, if_neg (by omega), if_neg (by omega), if_neg (by omega)]; done)
     ·
      try simp only [decide_eq_true_eq, decide_eq_false_iff_not, Bool.not_eq_true', Bool.not_eq_false', beq_iff_eq, beq_eq_false_iff_ne, ne_eq] at h7
      refine at_skip rfl ?_
      refine then_n ?_
      refine at_seq rfl ?_
      refine rg rfl ?_
      refine Rq ?_
      refine Rcall ?_
      refine ACall_eq (res_ok _ _ rows per tot wth balls l m) ?_
      refine Rq ?_
      refine Rq ?_
      refine Rq ?_
      refine Rq ?_
      refine Rq ?_
      refine Rq ?_
      refine Rq ?_
      refine Rq ?_
      refine Rq ?_
      have tr : ∀ a b c d e f g h i j k m n o p q r s t u v w x y z A B C D E : AV, let l := lc_pat_ok a b c d e f g h i j k m n o p q r s t; trim ((18,E)::(17,D)::(16,C)::(15,B)::(75,A)::(74,z)::(73,y)::(72,x)::(69,w)::(71,v)::(70,u)::l) l = [(0,a),(1,b),(2,c),(3,d),(6,e),(7,f),(9,g),(10,h),(11,i),(12,j),(13,k),(14,m),(15,B),(16,C),(17,D),(25,q),(38,r),(46,s),(68,t)] := by intros; rfl
      refine R_nil (tr ..) ?_; clear tr
      refine then_n ?_
      refine at_seq rfl ?_
      refine rg rfl ?_
      refine Rq ?_
      refine Rq ?_
      refine Rq ?_
      refine Rq ?_
      refine Rq ?_
      refine Rq ?_
      refine Rq ?_
      refine Rq ?_
      refine Rcall ?_
      refine ACall_eq (par_ok _ _ tot (res1 rows per balls l m) (res2 rows per balls l m) (atS rows per n w).1 (res3 rows per balls l m) wth) ?_
      refine Rq ?_
      refine Rq ?_
      refine Rq ?_
      refine Rq ?_
      have tr : ∀ a b c d e f g h i j k m n o p q r s t u v w x y z A B C D E F G : AV, let l := lc_pat_ok a b c d e f g h i j k m n o p q r s t; trim ((7,G)::(6,F)::(86,E)::(85,D)::(84,C)::(83,B)::(82,A)::(81,z)::(80,y)::(79,x)::(78,w)::(77,v)::(76,u)::l) l = [(0,a),(1,b),(2,c),(3,d),(6,F),(7,G),(9,g),(10,h),(11,i),(12,j),(13,k),(14,m),(15,n),(16,o),(17,p),(25,q),(38,r),(46,s),(68,t)] := by intros; rfl
      refine R_nil (tr ..) ?_; clear tr
      refine then_n ?_
      refine at_ret rfl ?_
      refine fpure ?_
      refine ⟨?_, rfl⟩
      first | (rw [patS, if_pos (by assumption)]; done) | (rw [patS, if_neg (by omega), if_pos (by assumption)]; done) | (rw [patS, if_neg (by omega), if_neg (by omega), if_pos (by omega)]; done) | (rw [patS, if_neg (by omega), if_neg (by omega), if_neg (by omega)]; done)

abbrev lc_win_ok (a b c d e f g h i j k m n : AV) : Env := [(0,a),(1,b),(2,c),(3,d),(4,e),(8,f),(9,g),(10,h),(11,i),(20,j),(22,k),(26,m),(30,n)]
theorem win_ok (lim : Nat) (H : Heap) (rows : Tb) (per tot wth balls : Int) (l m : List Stp) (k n w : Int) :
    ACall sig lim 22 [.agg [rowsAV rows, AV.i per, AV.i tot, AV.i wth, AV.i balls, stopsAV l, stopsAV m], AV.i k, AV.i n, AV.i w] H fun r H' => r = .tup [AV.i (winS rows per tot wth balls l m k n w).1, AV.i (winS rows per tot wth balls l m k n w).2] ∧ H' = H := by
 refine ACall_pure (fa := fa22) rfl rfl rfl rfl ?_
 have tr : ∀ a0 a1 a2 a3 : AV, env0 fa22.keep [a0, a1, a2, a3] = [(0,a0),(1,a1),(2,a2),(3,a3),(4,.any),(8,.any),(9,.any),(10,.any),(11,.any),(20,.any),(22,.any),(26,.any),(30,.any)] := fun a0 a1 a2 a3 => rfl
 refine W_to (tr _ _ _ _) ?_; clear tr
 refine at_seq rfl ?_
 refine rg rfl ?_
 refine R_box rfl (by simp (disch := first | omega | (simp only [List.length_map, List.length_append, List.length_set, List.length_cons, List.length_nil]; omega)) only [go_sem, ↓reduceIte, Nat.reduceEqDiff, reduceCtorEq] <;> rfl) rfl rfl ?_
 refine Rq ?_
 refine Rq ?_
 have tr : ∀ a b c d e f g h i j k m n o p q : AV, let l := lc_win_ok a b c d e f g h i j k m n; trim ((9,q)::(8,p)::(4,o)::l) l = [(0,a),(1,b),(2,c),(3,d),(4,o),(8,p),(9,q),(10,h),(11,i),(20,j),(22,k),(26,m),(30,n)] := by intros; rfl
 refine R_nil (tr ..) ?_; clear tr
 refine then_n ?_
 refine at_seq rfl ?_
 refine rg rfl ?_
 refine Rq ?_
 refine Rq ?_
 refine Rq ?_
 refine Rcall ?_
 refine ACall_eq (pat_ok _ _ rows per tot wth balls l m n w) ?_
 refine Rq ?_
 refine Rq ?_
 refine Rq ?_
 refine Rq ?_
 refine Rq ?_
 have tr : ∀ a b c d e f g h i j k m n o p q r s t u v w : AV, let l := lc_win_ok a b c d e f g h i j k m n; trim ((11,w)::(10,v)::(18,u)::(17,t)::(12,s)::(16,r)::(15,q)::(14,p)::(13,o)::l) l = [(0,a),(1,b),(2,c),(3,d),(4,e),(8,f),(9,g),(10,v),(11,w),(20,j),(22,k),(26,m),(30,n)] := by intros; rfl
 refine R_nil (tr ..) ?_; clear tr
 refine then_n ?_
 refine at_seq rfl ?_
 refine at_seq rfl ?_
 refine rg rfl ?_
 refine Rq ?_
 refine Rq ?_
 have tr : ∀ a b c d e f g h i j k m n o p : AV, let l := lc_win_ok a b c d e f g h i j k m n; trim ((20,p)::(19,o)::l) l = [(0,a),(1,b),(2,c),(3,d),(4,e),(8,f),(9,g),(10,h),(11,i),(20,p),(22,k),(26,m),(30,n)] := by intros; rfl
 refine R_nil (tr ..) ?_; clear tr
 refine then_n ?_
 refine cdd (fun h1 => ?_) (fun h1 => ?_)
 ·
  try simp only [decide_eq_true_eq, decide_eq_false_iff_not, Bool.not_eq_true', Bool.not_eq_false', beq_iff_eq, beq_eq_false_iff_ne, ne_eq] at h1
  refine at_seq rfl ?_
  refine rg rfl ?_
  refine Rq ?_
  refine Rq ?_
  refine Rq ?_
  have tr : ∀ a b c d e f g h i j k m n o p q : AV, let l := lc_win_ok a b c d e f g h i j k m n; trim ((9,q)::(8,p)::(21,o)::l) l = [(0,a),(1,b),(2,c),(3,d),(4,e),(8,p),(9,q),(10,h),(11,i),(20,j),(22,k),(26,m),(30,n)] := by intros; rfl
  refine R_nil (tr ..) ?_; clear tr
  refine then_n ?_
  refine at_ret rfl ?_
  refine then_r ?_
  refine fpure ?_
  refine ⟨?_, rfl⟩
  first | (rw [winS, if_pos (by assumption)]; done) | (rw [winS, if_neg (by omega), if_pos (by omega)]; done) | (rw [winS, if_neg (by omega), if_neg (by omega), if_pos (by omega)]; done) | (rw [winS, if_neg (by omega), if_neg (by omega), if_neg (by omega), if_pos (by omega)]; done) | (rw [winS, if_neg (by omega), if_neg (by omega), if_neg (by omega), if_neg (by omega)]; done)
 ·
  try simp only [decide_eq_true_eq, decide_eq_false_iff_not, Bool.not_eq_true', Bool.not_eq_false', beq_iff_eq, beq_eq_false_iff_ne, ne_eq] at h1
  refine at_skip rfl ?_
  refine then_n ?_
  refine at_seq rfl ?_
  refine at_block rfl ?_
  refine at_seq rfl ?_
  refine rg rfl ?_
  refine Rq ?_
  refine Rcall ?_
  refine ACall_eq (total_ok _ _ _) ?_
  refine Rq ?_
  refine Rq ?_
  have tr : ∀ a b c d e f g h i j k m n o p q r : AV, let l := lc_win_ok a b c d e f g h i j k m n; trim ((22,r)::(25,q)::(24,p)::(23,o)::l) l = [(0,a),(1,b),(2,c),(3,d),(4,e),(8,f),(9,g),(10,h),(11,i),(20,j),(22,r),(26,m),(30,n)] := by intros; rfl
  refine R_nil (tr ..) ?_; clear tr
  refine then_n ?_
  refine cdd (fun h2 => ?_) (fun h2 => ?_)
  ·
   try simp only [decide_eq_true_eq, decide_eq_false_iff_not, Bool.not_eq_true', Bool.not_eq_false', beq_iff_eq, beq_eq_false_iff_ne, ne_eq] at h2
   refine at_seq rfl ?_
   refine rg rfl ?_
   refine Rq ?_
   refine Rq ?_
   have tr : ∀ a b c d e f g h i j k m n o p : AV, let l := lc_win_ok a b c d e f g h i j k m n; trim ((9,p)::(8,o)::l) l = [(0,a),(1,b),(2,c),(3,d),(4,e),(8,o),(9,p),(10,h),(11,i),(20,j),(22,k),(26,m),(30,n)] := by intros; rfl
   refine R_nil (tr ..) ?_; clear tr
   refine then_n ?_
   refine at_ret rfl ?_
   refine blk_r ?_
   refine then_r ?_
   refine fpure ?_
   refine ⟨?_, rfl⟩
   first | (rw [winS, if_pos (by assumption)]; done) | (rw [winS, if_neg (by omega), if_pos (by omega)]; done) | (rw [winS, if_neg (by omega), if_neg (by omega), if_pos (by omega)]; done) | (rw [winS, if_neg (by omega), if_neg (by omega), if_neg (by omega), if_pos (by omega)]; done) | (rw [winS, if_neg (by omega), if_neg (by omega), if_neg (by omega), if_neg (by omega)]; done)
  ·
   try simp only [decide_eq_true_eq, decide_eq_false_iff_not, Bool.not_eq_true', Bool.not_eq_false', beq_iff_eq, beq_eq_false_iff_ne, ne_eq] at h2
   refine at_seq rfl ?_
   refine rg rfl ?_
   refine Rq ?_
   refine Rq ?_
   refine Rq ?_
   refine Rq ?_
   have tr : ∀ a b c d e f g h i j k m n o p q r : AV, let l := lc_win_ok a b c d e f g h i j k m n; trim ((26,r)::(29,q)::(28,p)::(27,o)::l) l = [(0,a),(1,b),(2,c),(3,d),(4,e),(8,f),(9,g),(10,h),(11,i),(20,j),(22,k),(26,r),(30,n)] := by intros; rfl
   refine R_nil (tr ..) ?_; clear tr
   refine then_n ?_
   refine cdd (fun h3 => ?_) (fun h3 => ?_)
   ·
    try simp only [decide_eq_true_eq, decide_eq_false_iff_not, Bool.not_eq_true', Bool.not_eq_false', beq_iff_eq, beq_eq_false_iff_ne, ne_eq] at h3
    refine at_seq rfl ?_
    refine rg rfl ?_
    refine Rq ?_
    refine Rq ?_
    have tr : ∀ a b c d e f g h i j k m n o p : AV, let l := lc_win_ok a b c d e f g h i j k m n; trim ((9,p)::(8,o)::l) l = [(0,a),(1,b),(2,c),(3,d),(4,e),(8,o),(9,p),(10,h),(11,i),(20,j),(22,k),(26,m),(30,n)] := by intros; rfl
    refine R_nil (tr ..) ?_; clear tr
    refine then_n ?_
    refine at_ret rfl ?_
    refine blk_r ?_
    refine then_r ?_
    refine fpure ?_
    refine ⟨?_, rfl⟩
    first | (rw [winS, if_pos (by assumption)]; done) | (rw [winS, if_neg (by omega), if_pos (by omega)]; done) | (rw [winS, if_neg (by omega), if_neg (by omega), if_pos (by omega)]; done) | (rw [winS, if_neg (by omega), if_neg (by omega), if_neg (by omega), if_pos (by omega)]; done) | (rw [winS, if_neg (by omega), if_neg (by omega), if_neg (by omega), if_neg (by omega)]; done)
   ·
    try simp only [decide_eq_true_eq, decide_eq_false_iff_not, Bool.not_eq_true', Bool.not_eq_false', beq_iff_eq, beq_eq_false_iff_ne, ne_eq] at h3
    refine at_seq rfl ?_
    refine rg rfl ?_
    refine Rq ?_
    refine Rq ?_
    refine Rq ?_
    refine Rq ?_
    have tr : ∀ a b c d e f g h i j k m n o p q r : AV, let l := lc_win_ok a b c d e f g h i j k m n; trim ((30,r)::(33,q)::(32,p)::(31,o)::l) l = [(0,a),(1,b),(2,c),(3,d),(4,e),(8,f),(9,g),(10,h),(11,i),(20,j),(22,k),(26,m),(30,r)] := by intros; rfl
    refine R_nil (tr ..) ?_; clear tr
    refine then_n ?_
    refine cdd (fun h4 => ?_) (fun h4 => ?_)
    ·
     try simp only [decide_eq_true_eq, decide_eq_false_iff_not, Bool.not_eq_true', Bool.not_eq_false', beq_iff_eq, beq_eq_false_iff_ne, ne_eq] at h4
     refine at_seq rfl ?_
     refine rg rfl ?_
     refine Rq ?_
     refine Rq ?_
     have tr : ∀ a b c d e f g h i j k m n o p : AV, let l := lc_win_ok a b c d e f g h i j k m n; trim ((9,p)::(8,o)::l) l = [(0,a),(1,b),(2,c),(3,d),(4,e),(8,o),(9,p),(10,h),(11,i),(20,j),(22,k),(26,m),(30,n)] := by intros; rfl
     refine R_nil (tr ..) ?_; clear tr
     refine then_n ?_
     refine at_ret rfl ?_
     refine blk_r ?_
     refine then_r ?_
     refine fpure ?_
     refine ⟨?_, rfl⟩
     first | (rw [winS, if_pos (by assumption)]; done) | (rw [winS, if_neg (by omega), if_pos (by omega)]; done) | (rw [winS, if_neg (by omega), if_neg (by omega), if_pos (by omega)]; done) | (rw [winS, if_neg (by omega), if_neg (by omega), if_neg (by omega), if_pos (by omega)]; done) | (rw [winS, if_neg (by omega), if_neg (by omega), if_neg (by omega), if_neg (by omega)]; done)
    ·
     try simp only [decide_eq_true_eq, decide_eq_false_iff_not, Bool.not_eq_true', Bool.not_eq_false', beq_iff_eq, beq_eq_false_iff_ne, ne_eq] at h4
     refine at_skip rfl ?_
     refine blk_n ?_
     refine then_n ?_
     refine at_seq rfl ?_
     refine rg rfl ?_
     refine Rq ?_
     refine Rq ?_
     have tr : ∀ a b c d e f g h i j k m n o p : AV, let l := lc_win_ok a b c d e f g h i j k m n; trim ((9,p)::(8,o)::l) l = [(0,a),(1,b),(2,c),(3,d),(4,e),(8,o),(9,p),(10,h),(11,i),(20,j),(22,k),(26,m),(30,n)] := by intros; rfl
     refine R_nil (tr ..) ?_; clear tr
     refine then_n ?_
     refine at_ret rfl ?_
     refine fpure ?_
     refine ⟨?_, rfl⟩
     first | (rw [winS, if_pos (by assumption)]; done) | (rw [winS, if_neg (by omega), if_pos (by omega)]; done) | (rw [winS, if_neg (by omega), if_neg (by omega), if_pos (by omega)]; done) | (rw [winS, if_neg (by omega), if_neg (by omega), if_neg (by omega), if_pos (by omega)]; done) | (rw [winS, if_neg (by omega), if_neg (by omega), if_neg (by omega), if_neg (by omega)]; done)

end Go.Proofs.Ytaoondlakhocnaa
end
section
set_option linter.unusedSimpArgs false
set_option linter.unusedVariables false
set_option maxHeartbeats 40000000
set_option maxRecDepth 4000
namespace Go.Proofs.Ytaoondlakhocnaa
open Go Go.Am

theorem bld34g {rows : Tb} {b c d e : Int} {x y : AV} (hx : cellsOf x = some [x]) (hy : cellsOf y = some [y]) : buildV Try.prog 34 [(0, .agg [rowsAV rows]), (1, AV.i b), (2, AV.i c), (3, AV.i d), (4, AV.i e), (5, x), (6, y)] = some (.agg [rowsAV rows, AV.i b, AV.i c, AV.i d, AV.i e, x, y]) := by
  simp only [buildV, ty34, places, ty24, ty3, ty2, ty25, fillA, hx, hy]; rfl
abbrev lc_of_gen (a b c : AV) : Env := [(0,a),(1,b),(2,c)]
theorem of_gen (lim : Nat) (H : Heap) (rows : Tb) (per tot wth balls : Int) (x y : AV) (hcx : cellsOf x = some [x]) (hcy : cellsOf y = some [y]) (hsx : storable x = true) (hsy : storable y = true) (hx : ∀ H', frz H' H.length 7 x = x) (hy : ∀ H', frz H' H.length 7 y = y) :
    ACall sig lim 30 [.agg [rowsAV rows, AV.i per, AV.i tot, AV.i wth, AV.i balls, x, y]] H fun r H' => r = .agg [rowsAV rows, AV.i per, AV.i tot, AV.i wth, AV.i balls, x, y] ∧ H' = H := by
 refine ACall_pure (fa := fa30) rfl rfl rfl rfl ?_
 have tr : ∀ a0 : AV, env0 fa30.keep [a0] = [(0,a0),(1,.any),(2,.any)] := fun a0 => rfl
 refine W_to (tr _) ?_; clear tr
 refine at_seq rfl ?_
 refine rg rfl ?_
 refine R_box rfl (by simp (disch := first | omega | (simp only [List.length_map, List.length_append, List.length_set, List.length_cons, List.length_nil]; omega)) only [go_sem, ↓reduceIte, Nat.reduceEqDiff, reduceCtorEq, hsx, hsy] <;> rfl) rfl rfl ?_
 refine R_alloc (by simp (disch := first | omega | (simp only [List.length_map, List.length_append, List.length_set, List.length_cons, List.length_nil]; omega)) only [go_sem, ↓reduceIte, Nat.reduceEqDiff, reduceCtorEq, hsx, hsy] <;> rfl) rfl (by simp only [List.map_cons, List.map_nil]; rfl) ?_
 have tr : ∀ a b c d e : AV, let l := lc_of_gen a b c; trim ((2,e)::(1,d)::l) l = [(0,a),(1,d),(2,e)] := by intros; rfl
 refine R_nil (tr ..) ?_; clear tr
 refine then_n ?_
 refine at_seq rfl ?_
 refine rg rfl ?_
 refine Rq ?_
 refine R_q rfl (by simp (disch := first | omega | (simp only [List.length_map, List.length_append, List.length_set, List.length_cons, List.length_nil]; omega)) only [go_sem, ↓reduceIte, Nat.reduceEqDiff, reduceCtorEq, hsx, hsy] <;> rfl) ?_
 refine Rq ?_
 refine R_q rfl (by simp (disch := first | omega | (simp only [List.length_map, List.length_append, List.length_set, List.length_cons, List.length_nil]; omega)) only [go_sem, ↓reduceIte, Nat.reduceEqDiff, reduceCtorEq, hsx, hsy] <;> rfl) ?_
 refine Rq ?_
 refine R_q rfl (by simp (disch := first | omega | (simp only [List.length_map, List.length_append, List.length_set, List.length_cons, List.length_nil]; omega)) only [go_sem, ↓reduceIte, Nat.reduceEqDiff, reduceCtorEq, hsx, hsy] <;> rfl) ?_
 refine Rq ?_
 refine R_q rfl (by simp (disch := first | omega | (simp only [List.length_map, List.length_append, List.length_set, List.length_cons, List.length_nil]; omega)) only [go_sem, ↓reduceIte, Nat.reduceEqDiff, reduceCtorEq, hsx, hsy] <;> rfl) ?_
 refine Rq ?_
 refine R_q rfl (by simp (disch := first | omega | (simp only [List.length_map, List.length_append, List.length_set, List.length_cons, List.length_nil]; omega)) only [go_sem, ↓reduceIte, Nat.reduceEqDiff, reduceCtorEq, hsx, hsy] <;> rfl) ?_
 refine Rq ?_
 refine R_q rfl (by simp (disch := first | omega | (simp only [List.length_map, List.length_append, List.length_set, List.length_cons, List.length_nil]; omega)) only [go_sem, ↓reduceIte, Nat.reduceEqDiff, reduceCtorEq, hsx, hsy] <;> rfl) ?_
 refine Rq ?_
 refine R_q rfl (by simp (disch := first | omega | (simp only [List.length_map, List.length_append, List.length_set, List.length_cons, List.length_nil]; omega)) only [go_sem, ↓reduceIte, Nat.reduceEqDiff, reduceCtorEq, hsx, hsy] <;> rfl) ?_
 refine R_q rfl (by simp only [go_sem, ↓reduceIte, Nat.reduceEqDiff, List.map_cons, List.map_nil]; exact bld34g hcx hcy) ?_
 refine R_store ty34 (by simp (disch := first | omega | (simp only [List.length_map, List.length_append, List.length_set, List.length_cons, List.length_nil]; omega)) only [go_sem, ↓reduceIte, Nat.reduceEqDiff, reduceCtorEq, hsx, hsy] <;> rfl) (by simp (disch := first | omega | (simp only [List.length_map, List.length_append, List.length_set, List.length_cons, List.length_nil]; omega)) only [go_sem, ↓reduceIte, Nat.reduceEqDiff, reduceCtorEq, hsx, hsy] <;> rfl) (by simp (disch := first | omega | (simp only [List.length_map, List.length_append, List.length_set, List.length_cons, List.length_nil]; omega)) only [go_sem, ↓reduceIte, Nat.reduceEqDiff, reduceCtorEq, hsx, hsy] <;> rfl) (by simp) (by rfl) (by simp (disch := first | omega | (simp only [List.length_map, List.length_append, List.length_set, List.length_cons, List.length_nil]; omega)) only [go_sem, ↓reduceIte, Nat.reduceEqDiff, reduceCtorEq, hsx, hsy] <;> rfl) ?_
 have tr : ∀ a b c d e f g h i j k m n o p q r s : AV, let l := lc_of_gen a b c; trim ((17,s)::(16,r)::(15,q)::(14,p)::(13,o)::(12,n)::(11,m)::(10,k)::(9,j)::(8,i)::(7,h)::(6,g)::(5,f)::(4,e)::(3,d)::l) l = [(0,a),(1,b),(2,c)] := by intros; rfl
 refine R_nil (tr ..) ?_; clear tr
 refine then_n ?_
 refine at_ret rfl ?_
 refine fin_pure (rs := [.cell 2 34]) rfl (by simp only [go_sem, ↓reduceIte, Nat.reduceEqDiff]; rfl) (by simp only [go_sem, ↓reduceIte, Nat.reduceEqDiff]; rfl) ?_
 refine ⟨?_, rfl⟩
 show AV.agg (List.map _ [rowsAV rows, AV.i per, AV.i tot, AV.i wth, AV.i balls, x, y]) = _
 simp only [List.map_cons, List.map_nil, frz_rows, frz_i, hx, hy]

abbrev lc_small40_len (a b c d e f g h i j : AV) : Env := [(0,a),(1,b),(2,c),(4,d),(21,e),(24,f),(25,g),(26,h),(27,i),(32,j)]
theorem small40_len (lim : Nat) (H : Heap) (rows : Tb) (per tot wth balls : Int) (l m : List Stp) :
    ACall sig lim 29 [.agg [rowsAV rows, AV.i per, AV.i tot, AV.i wth, AV.i balls, stopsAV l, stopsAV m]] H fun r H' => (∃ b : Bool, r = .v (.bool b) ∧ (b = true → l.length ≤ 1000 ∧ m.length ≤ 1000)) ∧ H' = H := by
 refine ACall_pure (fa := fa29) rfl rfl rfl rfl ?_
 have tr : ∀ a0 : AV, env0 fa29.keep [a0] = [(0,a0),(1,.any),(2,.any),(4,.any),(21,.any),(24,.any),(25,.any),(26,.any),(27,.any),(32,.any)] := fun a0 => rfl
 refine W_to (tr _) ?_; clear tr
 refine at_seq rfl ?_
 refine rg rfl ?_
 refine R_box rfl (by simp (disch := first | omega | (simp only [List.length_map, List.length_append, List.length_set, List.length_cons, List.length_nil]; omega)) only [go_sem, ↓reduceIte, Nat.reduceEqDiff, reduceCtorEq] <;> rfl) rfl rfl ?_
 refine Rq ?_
 have tr : ∀ a b c d e f g h i j k m : AV, let l := lc_small40_len a b c d e f g h i j; trim ((2,m)::(1,k)::l) l = [(0,a),(1,k),(2,m),(4,d),(21,e),(24,f),(25,g),(26,h),(27,i),(32,j)] := by intros; rfl
 refine R_nil (tr ..) ?_; clear tr
 refine then_n ?_
 refine at_seq rfl ?_
 refine at_seq rfl ?_
 refine rg rfl ?_
 refine Rq ?_
 refine Rq ?_
 refine Rq ?_
 refine Rq ?_
 refine Rq ?_
 refine Rp_split (fun h1 => ?_) (fun h1 => ?_)
 ·
  try simp only [decide_eq_true_eq, decide_eq_false_iff_not, Bool.not_eq_true', Bool.not_eq_false', beq_iff_eq, beq_eq_false_iff_ne, ne_eq] at h1
  refine Rn ?_
  refine Rn ?_
  refine Rn ?_
  refine Rn ?_
  refine Rq ?_
  refine Rq ?_
  refine Rn ?_
  refine Rn ?_
  refine Rn ?_
  refine Rn ?_
  refine Rn ?_
  refine Rq ?_
  have tr : ∀ a b c d e f g h i j k m n o p q r s t u v w x y z A B : AV, let l := lc_small40_len a b c d e f g h i j; trim ((21,B)::(20,A)::(19,z)::(18,y)::(17,x)::(16,w)::(15,v)::(14,u)::(13,t)::(12,s)::(11,r)::(10,q)::(9,p)::(8,o)::(7,n)::(6,m)::(5,k)::l) l = [(0,a),(1,b),(2,c),(4,d),(21,B),(24,f),(25,g),(26,h),(27,i),(32,j)] := by intros; rfl
  refine R_nil (tr ..) ?_; clear tr
  refine then_n ?_
  refine cdt ?_
  refine at_seq rfl ?_
  refine rg rfl ?_
  refine Rq ?_
  have tr : ∀ a b c d e f g h i j k : AV, let l := lc_small40_len a b c d e f g h i j; trim ((2,k)::l) l = [(0,a),(1,b),(2,k),(4,d),(21,e),(24,f),(25,g),(26,h),(27,i),(32,j)] := by intros; rfl
  refine R_nil (tr ..) ?_; clear tr
  refine then_n ?_
  refine at_ret rfl ?_
  refine then_r ?_
  refine fpure ?_
  exact ⟨⟨_, rfl, fun hh => by first | omega | (cases hh; done) | (simp only [decide_eq_true_eq] at hh; omega)⟩, rfl⟩
 ·
  try simp only [decide_eq_true_eq, decide_eq_false_iff_not, Bool.not_eq_true', Bool.not_eq_false', beq_iff_eq, beq_eq_false_iff_ne, ne_eq] at h1
  refine Ry ?_
  refine Rq ?_
  refine Ry ?_
  refine Rq ?_
  refine Ry ?_
  refine Rq ?_
  refine Ry ?_
  refine Rq ?_
  refine Rq ?_
  refine Rq ?_
  refine Rp_split (fun h2 => ?_) (fun h2 => ?_)
  ·
   try simp only [decide_eq_true_eq, decide_eq_false_iff_not, Bool.not_eq_true', Bool.not_eq_false', beq_iff_eq, beq_eq_false_iff_ne, ne_eq] at h2
   refine Rn ?_
   refine Rn ?_
   refine Rn ?_
   refine Rn ?_
   refine Rn ?_
   refine Rq ?_
   have tr : ∀ a b c d e f g h i j k m n o p q r s t u v w x y z A B : AV, let l := lc_small40_len a b c d e f g h i j; trim ((21,B)::(20,A)::(19,z)::(18,y)::(17,x)::(16,w)::(15,v)::(14,u)::(13,t)::(12,s)::(11,r)::(10,q)::(9,p)::(8,o)::(7,n)::(6,m)::(5,k)::l) l = [(0,a),(1,b),(2,c),(4,d),(21,B),(24,f),(25,g),(26,h),(27,i),(32,j)] := by intros; rfl
   refine R_nil (tr ..) ?_; clear tr
   refine then_n ?_
   refine cdt ?_
   refine at_seq rfl ?_
   refine rg rfl ?_
   refine Rq ?_
   have tr : ∀ a b c d e f g h i j k : AV, let l := lc_small40_len a b c d e f g h i j; trim ((2,k)::l) l = [(0,a),(1,b),(2,k),(4,d),(21,e),(24,f),(25,g),(26,h),(27,i),(32,j)] := by intros; rfl
   refine R_nil (tr ..) ?_; clear tr
   refine then_n ?_
   refine at_ret rfl ?_
   refine then_r ?_
   refine fpure ?_
   exact ⟨⟨_, rfl, fun hh => by first | omega | (cases hh; done) | (simp only [decide_eq_true_eq] at hh; omega)⟩, rfl⟩
  ·
   try simp only [decide_eq_true_eq, decide_eq_false_iff_not, Bool.not_eq_true', Bool.not_eq_false', beq_iff_eq, beq_eq_false_iff_ne, ne_eq] at h2
   refine Ry ?_
   refine Rq ?_
   refine Ry ?_
   refine Rq ?_
   refine Ry ?_
   refine Rq ?_
   refine Ry ?_
   refine Rq ?_
   refine Ry ?_
   refine Rq ?_
   refine Rq ?_
   have tr : ∀ a b c d e f g h i j k m n o p q r s t u v w x y z A B : AV, let l := lc_small40_len a b c d e f g h i j; trim ((21,B)::(20,A)::(19,z)::(18,y)::(17,x)::(16,w)::(15,v)::(14,u)::(13,t)::(12,s)::(11,r)::(10,q)::(9,p)::(8,o)::(7,n)::(6,m)::(5,k)::l) l = [(0,a),(1,b),(2,c),(4,d),(21,B),(24,f),(25,g),(26,h),(27,i),(32,j)] := by intros; rfl
   refine R_nil (tr ..) ?_; clear tr
   refine then_n ?_
   refine cdd (fun h3 => ?_) (fun h3 => ?_)
   ·
    try simp only [decide_eq_true_eq, decide_eq_false_iff_not, Bool.not_eq_true', Bool.not_eq_false', beq_iff_eq, beq_eq_false_iff_ne, ne_eq] at h3
    refine at_seq rfl ?_
    refine rg rfl ?_
    refine Rq ?_
    have tr : ∀ a b c d e f g h i j k : AV, let l := lc_small40_len a b c d e f g h i j; trim ((2,k)::l) l = [(0,a),(1,b),(2,k),(4,d),(21,e),(24,f),(25,g),(26,h),(27,i),(32,j)] := by intros; rfl
    refine R_nil (tr ..) ?_; clear tr
    refine then_n ?_
    refine at_ret rfl ?_
    refine then_r ?_
    refine fpure ?_
    exact ⟨⟨_, rfl, fun hh => by first | omega | (cases hh; done) | (simp only [decide_eq_true_eq] at hh; omega)⟩, rfl⟩
   ·
    try simp only [decide_eq_true_eq, decide_eq_false_iff_not, Bool.not_eq_true', Bool.not_eq_false', beq_iff_eq, beq_eq_false_iff_ne, ne_eq] at h3
    refine at_skip rfl ?_
    refine then_n ?_
    refine at_seq rfl ?_
    refine at_seq rfl ?_
    refine rg rfl ?_
    refine Rq ?_
    refine Rq ?_
    refine Rq ?_
    refine Rq ?_
    refine Rq ?_
    have tr : ∀ a b c d e f g h i j k m n o p : AV, let l := lc_small40_len a b c d e f g h i j; trim ((26,p)::(25,o)::(24,n)::(23,m)::(22,k)::l) l = [(0,a),(1,b),(2,c),(4,d),(21,e),(24,n),(25,o),(26,p),(27,i),(32,j)] := by intros; rfl
    refine R_nil (tr ..) ?_; clear tr
    refine then_n ?_
    refine at_block rfl ?_
    refine loop_n rfl (fun mm kv H' => ∃ u : Nat, ∃ x2 x4 x27 x32 : AV, (kv = [(2, x2), (4, x4), (26, AV.i u), (27, x27), (32, x32)]) ∧ (mm = rows.length - u) ∧ (H' = H ++ [some [rowsAV rows, AV.i per, AV.i tot, AV.i wth, AV.i balls, stopsAV l, stopsAV m]]) ∧ (u ≤ rows.length)) ⟨0, _, _, _, _, rfl, rfl, rfl, by omega⟩ (by rfl) ?_
    rintro mm kv H' ⟨u, x2, x4, x27, x32, rfl, rfl, rfl, hu⟩
    have tr : ∀ a b c d e f g h i j k m n o p : AV, upd [(0,a),(1,b),(2,c),(4,d),(21,e),(24,f),(25,g),(26,h),(27,i),(32,j)] [(2,k),(4,m),(26,n),(27,o),(32,p)] = [(0,a),(1,b),(2,k),(4,m),(21,e),(24,f),(25,g),(26,n),(27,o),(32,p)] := by intros; rfl
    refine W_to (tr ..) ?_; clear tr
    refine at_seq rfl ?_
    refine rg rfl ?_
    refine Rq ?_
    have tr : ∀ a b c d e f g h i j k : AV, let l := lc_small40_len a b c d e f g h i j; trim ((27,k)::l) l = [(0,a),(1,b),(2,c),(4,d),(21,e),(24,f),(25,g),(26,h),(27,k),(32,j)] := by intros; rfl
    refine R_nil (tr ..) ?_; clear tr
    refine then_n ?_
    refine at_seq rfl ?_
    refine cdd (fun h4 => ?_) (fun h4 => ?_)
    ·
     try simp only [decide_eq_true_eq, decide_eq_false_iff_not, Bool.not_eq_true', Bool.not_eq_false', beq_iff_eq, beq_eq_false_iff_ne, ne_eq] at h4
     refine at_skip rfl ?_
     refine then_n ?_
     refine at_seq rfl ?_
     refine at_block rfl ?_
     refine at_seq rfl ?_
     refine rg rfl ?_
     refine Rq ?_
     refine Rq ?_
     refine Rq ?_
     have tr : ∀ a b c d e f g h i j k m n : AV, let l := lc_small40_len a b c d e f g h i j; trim ((4,n)::(29,m)::(28,k)::l) l = [(0,a),(1,b),(2,c),(4,n),(21,e),(24,f),(25,g),(26,h),(27,i),(32,j)] := by intros; rfl
     refine R_nil (tr ..) ?_; clear tr
     refine then_n ?_
     refine at_seq rfl ?_
     refine rg rfl ?_
     refine Rq ?_
     refine Rq ?_
     refine Rq ?_
     have tr : ∀ a b c d e f g h i j k m n : AV, let l := lc_small40_len a b c d e f g h i j; trim ((32,n)::(31,m)::(30,k)::l) l = [(0,a),(1,b),(2,c),(4,d),(21,e),(24,f),(25,g),(26,h),(27,i),(32,n)] := by intros; rfl
     refine R_nil (tr ..) ?_; clear tr
     refine then_n ?_
     refine cdd (fun h5 => ?_) (fun h5 => ?_)
     ·
      try simp only [decide_eq_true_eq, decide_eq_false_iff_not, Bool.not_eq_true', Bool.not_eq_false', beq_iff_eq, beq_eq_false_iff_ne, ne_eq] at h5
      refine at_seq rfl ?_
      refine rg rfl ?_
      refine Rq ?_
      have tr : ∀ a b c d e f g h i j k : AV, let l := lc_small40_len a b c d e f g h i j; trim ((2,k)::l) l = [(0,a),(1,b),(2,k),(4,d),(21,e),(24,f),(25,g),(26,h),(27,i),(32,j)] := by intros; rfl
      refine R_nil (tr ..) ?_; clear tr
      refine then_n ?_
      refine at_ret rfl ?_
      refine blk_r ?_
      refine then_r ?_
      refine then_r ?_
      refine blk_r ?_
      refine then_r ?_
      refine fpure ?_
      exact ⟨⟨_, rfl, fun hh => by first | omega | (cases hh; done) | (simp only [decide_eq_true_eq] at hh; omega)⟩, rfl⟩
     ·
      try simp only [decide_eq_true_eq, decide_eq_false_iff_not, Bool.not_eq_true', Bool.not_eq_false', beq_iff_eq, beq_eq_false_iff_ne, ne_eq] at h5
      refine at_skip rfl ?_
      refine blk_n ?_
      refine then_n ?_
      refine rg rfl ?_
      refine Rq ?_
      refine Rq ?_
      have tr : ∀ a b c d e f g h i j k m : AV, let l := lc_small40_len a b c d e f g h i j; trim ((26,m)::(33,k)::l) l = [(0,a),(1,b),(2,c),(4,d),(21,e),(24,f),(25,g),(26,m),(27,i),(32,j)] := by intros; rfl
      refine R_nil (tr ..) ?_; clear tr
      refine then_n ?_
      exact ⟨_, _, ⟨u + 1, _, _, _, _, rfl, rfl, rfl, by omega⟩, by rfl, by omega⟩
    ·
     try simp only [decide_eq_true_eq, decide_eq_false_iff_not, Bool.not_eq_true', Bool.not_eq_false', beq_iff_eq, beq_eq_false_iff_ne, ne_eq] at h4
     refine at_exit rfl ?_
     refine then_x ?_
     refine then_x ?_
     refine blk_x ?_
     refine then_n ?_
     refine at_seq rfl ?_
     refine rg rfl ?_
     refine Rq ?_
     have tr : ∀ a b c d e f g h i j k : AV, let l := lc_small40_len a b c d e f g h i j; trim ((2,k)::l) l = [(0,a),(1,b),(2,k),(4,d),(21,e),(24,f),(25,g),(26,h),(27,i),(32,j)] := by intros; rfl
     refine R_nil (tr ..) ?_; clear tr
     refine then_n ?_
     refine at_ret rfl ?_
     refine fpure ?_
     exact ⟨⟨_, rfl, fun hh => by first | omega | (cases hh; done) | (simp only [decide_eq_true_eq] at hh; omega)⟩, rfl⟩

end Go.Proofs.Ytaoondlakhocnaa
end
