/-
  Texts of RaceOf, part 13 of 16. Walks of chapter 51. The steps are written by program (walk.py).
-/
import Derived.Test.YtfnapmdedmbdbaaKRaceOf7
import Derived.Test.YtfnapmdedmbdbaaKRaceOf5
import Derived.Test.YtfnapmdedmbdbaaKRaceOf11
section
set_option linter.unusedSimpArgs false
set_option linter.unusedVariables false
set_option maxHeartbeats 4000000
set_option maxRecDepth 20000
namespace Go.Proofs.Ytfnapmdedmbdbaa
open Go Go.Am
abbrev lc_standing_ok (a b c d e f g h i j k m n o p : AV) : Env := [(0,a),(1,b),(4,c),(5,d),(7,e),(10,f),(11,g),(12,h),(13,i),(19,j),(40,k),(48,m),(54,n),(59,o),(65,p)]
theorem standing_ok (lim : Nat) (H : Heap) (t : Int) (n : Int) (l : List Pl) (hpl : ∀ i, i < l.length → plE n (gp l i) = 0) (h4 : l.length ≤ 400) : ACall sig lim 30 [AV.i t, plsAV l] H fun r H' => r = stA (stdS l t) ∧ H' = H := by
 have q4 : True := trivial
 have q5 : True := trivial
 have q7 : True := trivial
 refine ACall_pure (fa := fa30) rfl rfl rfl rfl ?_
 have tr : ∀ a0 a1 : AV, env0 fa30.keep [a0, a1] = [(0,a0),(1,a1),(4,.any),(5,.any),(7,.any),(10,.any),(11,.any),(12,.any),(13,.any),(19,.any),(40,.any),(48,.any),(54,.any),(59,.any),(65,.any)] := fun a0 a1 => rfl
 refine W_to (tr _ _) ?_; clear tr
 refine at_seq rfl ?_
 refine rg rfl ?_
 refine A_alloc rfl ?_
 intro H1 n1
 have en1 := n1.len
 have q4 := n1.new
 have tr : ∀ a b c d e f g h i j k m n o p q : AV, let l := lc_standing_ok a b c d e f g h i j k m n o p; trim ((4,q)::l) l = [(0,a),(1,b),(4,q),(5,d),(7,e),(10,f),(11,g),(12,h),(13,i),(19,j),(40,k),(48,m),(54,n),(59,o),(65,p)] := by intros; rfl
 refine R_nil (tr ..) ?_; clear tr
 refine then_n ?_
 refine at_seq rfl ?_
 refine rg rfl ?_
 refine Rq ?_
 refine Rq ?_
 refine A_alloc rfl ?_
 intro H2 n2
 have en2 := n2.len
 have q4 := (n2.old _ (hget_lt q4)).trans q4
 have q5 := n2.new
 refine A_store ty47 (by simp (disch := omega) only [go_sem, ↓reduceIte, Nat.reduceEqDiff, reduceCtorEq] <;> rfl) (by simp (disch := omega) only [go_sem, ↓reduceIte, Nat.reduceEqDiff, reduceCtorEq] <;> rfl) q5 ⟨by omega, rfl, Nat.le_refl 10⟩ (k' := stW ⟨t, 0, 0, 0, 0, 0, 0, 0, 0, 0⟩) rfl ?_
 intro H3 w3
 have q4 := (w3.old _ (by omega)).trans q4
 have q5 := w3.new
 rw [en1] at q5
 rw [en1]
 have tr : ∀ a b c d e f g h i j k m n o p q r s : AV, let l := lc_standing_ok a b c d e f g h i j k m n o p; trim ((5,s)::(9,r)::(8,q)::l) l = [(0,a),(1,b),(4,c),(5,s),(7,e),(10,f),(11,g),(12,h),(13,i),(19,j),(40,k),(48,m),(54,n),(59,o),(65,p)] := by intros; rfl
 refine R_nil (tr ..) ?_; clear tr
 refine then_n ?_
 refine at_seq rfl ?_
 refine at_seq rfl ?_
 refine rg rfl ?_
 refine Rq ?_
 refine Rq ?_
 refine Rq ?_
 have tr : ∀ a b c d e f g h i j k m n o p q r s : AV, let l := lc_standing_ok a b c d e f g h i j k m n o p; trim ((12,s)::(11,r)::(10,q)::l) l = [(0,a),(1,b),(4,c),(5,d),(7,e),(10,q),(11,r),(12,s),(13,i),(19,j),(40,k),(48,m),(54,n),(59,o),(65,p)] := by intros; rfl
 refine R_nil (tr ..) ?_; clear tr
 refine then_n ?_
 refine at_block rfl ?_
 refine loop_n rfl (fun mm kv H' => ∃ u : Nat, ∃ x7 x13 x19 x40 x48 x54 x59 x65 : AV, (kv = [(7, x7), (12, AV.i (u : Int)), (13, x13), (19, x19), (40, x40), (48, x48), (54, x54), (59, x59), (65, x65)]) ∧ (mm = l.length - u) ∧ (hget H' H.length = some (stL z0)) ∧ (hget H' (H.length + 1) = some (stW (stdS (l.take u) t))) ∧ (u ≤ l.length)) ⟨0, _, _, _, _, _, _, _, _, rfl, rfl, by exact q4, by (rw [List.take_zero]; exact q5), by omega⟩ (by rfl) ?_
 rintro mm kv HB ⟨u, x7, x13, x19, x40, x48, x54, x59, x65, rfl, rfl, q4, q5, hu⟩
 have tr : ∀ a b c d e f g h i j k m n o p q r s t u v w x y : AV, upd [(0,a),(1,b),(4,c),(5,d),(7,e),(10,f),(11,g),(12,h),(13,i),(19,j),(40,k),(48,m),(54,n),(59,o),(65,p)] [(7,q),(12,r),(13,s),(19,t),(40,u),(48,v),(54,w),(59,x),(65,y)] = [(0,a),(1,b),(4,c),(5,d),(7,q),(10,f),(11,g),(12,r),(13,s),(19,t),(40,u),(48,v),(54,w),(59,x),(65,y)] := by intros; rfl
 refine W_to (tr ..) ?_; clear tr
 refine at_seq rfl ?_
 refine rg rfl ?_
 refine Rq ?_
 have tr : ∀ a b c d e f g h i j k m n o p q : AV, let l := lc_standing_ok a b c d e f g h i j k m n o p; trim ((13,q)::l) l = [(0,a),(1,b),(4,c),(5,d),(7,e),(10,f),(11,g),(12,h),(13,q),(19,j),(40,k),(48,m),(54,n),(59,o),(65,p)] := by intros; rfl
 refine R_nil (tr ..) ?_; clear tr
 refine then_n ?_
 refine at_seq rfl ?_
 refine cdd (fun h1 => ?_) (fun h1 => ?_)
 ·
  try simp only [decide_eq_true_eq, decide_eq_false_iff_not, decide_eq_decide, Bool.not_eq_true', Bool.not_eq_false', beq_iff_eq, beq_eq_false_iff_ne, ne_eq, Bool.and_eq_true, Bool.and_eq_false_iff, decide_not] at h1
  refine at_skip rfl ?_
  refine then_n ?_
  refine at_seq rfl ?_
  refine at_block rfl ?_
  refine at_seq rfl ?_
  refine rg rfl ?_
  have hul : u < l.length := by omega
  have hI := stdS_inv hpl t u (by omega)
  unfold StI at hI
  have hpp := plE_z (hpl u hul)
  refine Rq ?_
  refine R_q rfl (by simp (disch := omega) only [go_sem, ↓reduceIte, Nat.reduceEqDiff, reduceCtorEq, q4, q5, q7] <;> rfl) ?_
  have lq5 := hget_lt q5
  refine A_alloc rfl ?_
  intro H5 n5
  have en5 := n5.len
  have q4 := (n5.old _ (hget_lt q4)).trans q4
  have q5 := (n5.old _ (hget_lt q5)).trans q5
  have q7 := n5.new
  refine A_store ty67 (by simp (disch := omega) only [go_sem, ↓reduceIte, Nat.reduceEqDiff, reduceCtorEq] <;> rfl) (by simp (disch := omega) only [go_sem, ↓reduceIte, Nat.reduceEqDiff, reduceCtorEq] <;> rfl) q7 ⟨by omega, rfl, Nat.le_refl 8⟩ (k' := plC (gp l u)) rfl ?_
  intro H6 w6
  have q4 := (w6.old _ (by omega)).trans q4
  have q5 := (w6.old _ (by omega)).trans q5
  have q7 := w6.new
  have tr : ∀ a b c d e f g h i j k m n o p q r s : AV, let l := lc_standing_ok a b c d e f g h i j k m n o p; trim ((7,s)::(15,r)::(14,q)::l) l = [(0,a),(1,b),(4,c),(5,d),(7,s),(10,f),(11,g),(12,h),(13,i),(19,j),(40,k),(48,m),(54,n),(59,o),(65,p)] := by intros; rfl
  refine R_nil (tr ..) ?_; clear tr
  refine then_n ?_
  refine at_seq rfl ?_
  refine at_seq rfl ?_
  refine rg rfl ?_
  refine Rq ?_
  refine R_q rfl (by simp (disch := omega) only [go_sem, ↓reduceIte, Nat.reduceEqDiff, reduceCtorEq, q4, q5, q7] <;> rfl) ?_
  refine Rq ?_
  refine Rq ?_
  have tr : ∀ a b c d e f g h i j k m n o p q r s t : AV, let l := lc_standing_ok a b c d e f g h i j k m n o p; trim ((19,t)::(18,s)::(17,r)::(16,q)::l) l = [(0,a),(1,b),(4,c),(5,d),(7,e),(10,f),(11,g),(12,h),(13,i),(19,t),(40,k),(48,m),(54,n),(59,o),(65,p)] := by intros; rfl
  refine R_nil (tr ..) ?_; clear tr
  refine then_n ?_
  refine cdd (fun h2 => ?_) (fun h2 => ?_)
  ·
   try simp only [decide_eq_true_eq, decide_eq_false_iff_not, decide_eq_decide, Bool.not_eq_true', Bool.not_eq_false', beq_iff_eq, beq_eq_false_iff_ne, ne_eq, Bool.and_eq_true, Bool.and_eq_false_iff, decide_not] at h2
   refine at_seq rfl ?_
   refine rg rfl ?_
   refine Rq ?_
   refine R_q rfl (by simp (disch := omega) only [go_sem, ↓reduceIte, Nat.reduceEqDiff, reduceCtorEq, q4, q5, q7] <;> rfl) ?_
   refine Rq ?_
   refine R_q rfl (by simp (disch := omega) only [go_sem, ↓reduceIte, Nat.reduceEqDiff, reduceCtorEq, q4, q5, q7] <;> rfl) ?_
   refine Rq ?_
   refine A_store ty3 (by simp (disch := omega) only [go_sem, ↓reduceIte, Nat.reduceEqDiff, reduceCtorEq, q4, q5, q7] <;> rfl) (by simp (disch := omega) only [go_sem, ↓reduceIte, Nat.reduceEqDiff, reduceCtorEq, q4, q5, q7] <;> rfl) q7 ⟨by omega, rfl, by simp⟩ (k' := _) (by rw [setL_one] <;> rfl) ?_
   intro H2 w2
   have q4 := (w2.old _ (by omega)).trans q4
   have q5 := (w2.old _ (by omega)).trans q5
   have q7 := w2.new
   simp only [List.set_cons_succ, List.set_cons_zero] at q7
   refine Rq ?_
   refine A_store ty3 (by simp (disch := omega) only [go_sem, ↓reduceIte, Nat.reduceEqDiff, reduceCtorEq, q4, q5, q7] <;> rfl) (by simp (disch := omega) only [go_sem, ↓reduceIte, Nat.reduceEqDiff, reduceCtorEq, q4, q5, q7] <;> rfl) q7 ⟨by omega, rfl, by simp⟩ (k' := _) (by rw [setL_one] <;> rfl) ?_
   intro H2 w2
   have q4 := (w2.old _ (by omega)).trans q4
   have q5 := (w2.old _ (by omega)).trans q5
   have q7 := w2.new
   simp only [List.set_cons_succ, List.set_cons_zero] at q7
   have tr : ∀ a b c d e f g h i j k m n o p q r s t u v : AV, let l := lc_standing_ok a b c d e f g h i j k m n o p; trim ((25,v)::(24,u)::(23,t)::(22,s)::(21,r)::(20,q)::l) l = [(0,a),(1,b),(4,c),(5,d),(7,e),(10,f),(11,g),(12,h),(13,i),(19,j),(40,k),(48,m),(54,n),(59,o),(65,p)] := by intros; rfl
   refine R_nil (tr ..) ?_; clear tr
   refine then_n ?_
   refine at_seq rfl ?_
   refine rg rfl ?_
   refine Rq ?_
   refine R_q rfl (by simp (disch := omega) only [go_sem, ↓reduceIte, Nat.reduceEqDiff, reduceCtorEq, q4, q5, q7] <;> rfl) ?_
   refine Rq ?_
   refine R_q rfl (by simp (disch := omega) only [go_sem, ↓reduceIte, Nat.reduceEqDiff, reduceCtorEq, q4, q5, q7] <;> rfl) ?_
   refine Rq ?_
   refine A_store ty3 (by simp (disch := omega) only [go_sem, ↓reduceIte, Nat.reduceEqDiff, reduceCtorEq, q4, q5, q7] <;> rfl) (by simp (disch := omega) only [go_sem, ↓reduceIte, Nat.reduceEqDiff, reduceCtorEq, q4, q5, q7] <;> rfl) q7 ⟨by omega, rfl, by simp⟩ (k' := _) (by rw [setL_one] <;> rfl) ?_
   intro H2 w2
   have q4 := (w2.old _ (by omega)).trans q4
   have q5 := (w2.old _ (by omega)).trans q5
   have q7 := w2.new
   simp only [List.set_cons_succ, List.set_cons_zero] at q7
   refine Rq ?_
   refine A_store ty3 (by simp (disch := omega) only [go_sem, ↓reduceIte, Nat.reduceEqDiff, reduceCtorEq, q4, q5, q7] <;> rfl) (by simp (disch := omega) only [go_sem, ↓reduceIte, Nat.reduceEqDiff, reduceCtorEq, q4, q5, q7] <;> rfl) q7 ⟨by omega, rfl, by simp⟩ (k' := _) (by rw [setL_one] <;> rfl) ?_
   intro H2 w2
   have q4 := (w2.old _ (by omega)).trans q4
   have q5 := (w2.old _ (by omega)).trans q5
   have q7 := w2.new
   simp only [List.set_cons_succ, List.set_cons_zero] at q7
   have tr : ∀ a b c d e f g h i j k m n o p q r s t u v : AV, let l := lc_standing_ok a b c d e f g h i j k m n o p; trim ((31,v)::(30,u)::(29,t)::(28,s)::(27,r)::(26,q)::l) l = [(0,a),(1,b),(4,c),(5,d),(7,e),(10,f),(11,g),(12,h),(13,i),(19,j),(40,k),(48,m),(54,n),(59,o),(65,p)] := by intros; rfl
   refine R_nil (tr ..) ?_; clear tr
   refine then_n ?_
   refine at_seq rfl ?_
   refine rg rfl ?_
   refine Rq ?_
   refine R_q rfl (by simp (disch := omega) only [go_sem, ↓reduceIte, Nat.reduceEqDiff, reduceCtorEq, q4, q5, q7] <;> rfl) ?_
   refine Rq ?_
   refine R_q rfl (by simp (disch := omega) only [go_sem, ↓reduceIte, Nat.reduceEqDiff, reduceCtorEq, q4, q5, q7] <;> rfl) ?_
   refine Rq ?_
   refine A_store ty3 (by simp (disch := omega) only [go_sem, ↓reduceIte, Nat.reduceEqDiff, reduceCtorEq, q4, q5, q7] <;> rfl) (by simp (disch := omega) only [go_sem, ↓reduceIte, Nat.reduceEqDiff, reduceCtorEq, q4, q5, q7] <;> rfl) q7 ⟨by omega, rfl, by simp⟩ (k' := _) (by rw [setL_one] <;> rfl) ?_
   intro H2 w2
   have q4 := (w2.old _ (by omega)).trans q4
   have q5 := (w2.old _ (by omega)).trans q5
   have q7 := w2.new
   simp only [List.set_cons_succ, List.set_cons_zero] at q7
   refine Rq ?_
   refine A_store ty3 (by simp (disch := omega) only [go_sem, ↓reduceIte, Nat.reduceEqDiff, reduceCtorEq, q4, q5, q7] <;> rfl) (by simp (disch := omega) only [go_sem, ↓reduceIte, Nat.reduceEqDiff, reduceCtorEq, q4, q5, q7] <;> rfl) q7 ⟨by omega, rfl, by simp⟩ (k' := _) (by rw [setL_one] <;> rfl) ?_
   intro H2 w2
   have q4 := (w2.old _ (by omega)).trans q4
   have q5 := (w2.old _ (by omega)).trans q5
   have q7 := w2.new
   simp only [List.set_cons_succ, List.set_cons_zero] at q7
   have tr : ∀ a b c d e f g h i j k m n o p q r s t u v : AV, let l := lc_standing_ok a b c d e f g h i j k m n o p; trim ((37,v)::(36,u)::(35,t)::(34,s)::(33,r)::(32,q)::l) l = [(0,a),(1,b),(4,c),(5,d),(7,e),(10,f),(11,g),(12,h),(13,i),(19,j),(40,k),(48,m),(54,n),(59,o),(65,p)] := by intros; rfl
   refine R_nil (tr ..) ?_; clear tr
   refine then_n ?_
   refine at_seq rfl ?_
   refine rg rfl ?_
   refine Rq ?_
   refine R_q rfl (by simp (disch := omega) only [go_sem, ↓reduceIte, Nat.reduceEqDiff, reduceCtorEq, q4, q5, q7] <;> rfl) ?_
   refine Rq ?_
   have tr : ∀ a b c d e f g h i j k m n o p q r s : AV, let l := lc_standing_ok a b c d e f g h i j k m n o p; trim ((40,s)::(39,r)::(38,q)::l) l = [(0,a),(1,b),(4,c),(5,d),(7,e),(10,f),(11,g),(12,h),(13,i),(19,j),(40,s),(48,m),(54,n),(59,o),(65,p)] := by intros; rfl
   refine R_nil (tr ..) ?_; clear tr
   refine then_n ?_
   refine cdd (fun h3 => ?_) (fun h3 => ?_)
   ·
    try simp only [decide_eq_true_eq, decide_eq_false_iff_not, decide_eq_decide, Bool.not_eq_true', Bool.not_eq_false', beq_iff_eq, beq_eq_false_iff_ne, ne_eq, Bool.and_eq_true, Bool.and_eq_false_iff, decide_not] at h3
    refine rg rfl ?_
    refine Rq ?_
    refine R_q rfl (by simp (disch := omega) only [go_sem, ↓reduceIte, Nat.reduceEqDiff, reduceCtorEq, q4, q5, q7] <;> rfl) ?_
    refine Rq ?_
    refine Rq ?_
    refine A_store ty3 (by simp (disch := omega) only [go_sem, ↓reduceIte, Nat.reduceEqDiff, reduceCtorEq, q4, q5, q7] <;> rfl) (by simp (disch := omega) only [go_sem, ↓reduceIte, Nat.reduceEqDiff, reduceCtorEq, q4, q5, q7] <;> rfl) q7 ⟨by omega, rfl, by simp⟩ (k' := _) (by rw [setL_one] <;> rfl) ?_
    intro H2 w2
    have q4 := (w2.old _ (by omega)).trans q4
    have q5 := (w2.old _ (by omega)).trans q5
    have q7 := w2.new
    simp only [List.set_cons_succ, List.set_cons_zero] at q7
    have tr : ∀ a b c d e f g h i j k m n o p q r s t : AV, let l := lc_standing_ok a b c d e f g h i j k m n o p; trim ((44,t)::(43,s)::(42,r)::(41,q)::l) l = [(0,a),(1,b),(4,c),(5,d),(7,e),(10,f),(11,g),(12,h),(13,i),(19,j),(40,k),(48,m),(54,n),(59,o),(65,p)] := by intros; rfl
    refine R_nil (tr ..) ?_; clear tr
    refine then_n ?_
    refine at_seq rfl ?_
    refine at_seq rfl ?_
    refine rg rfl ?_
    refine Rq ?_
    refine R_q rfl (by simp (disch := omega) only [go_sem, ↓reduceIte, Nat.reduceEqDiff, reduceCtorEq, q4, q5, q7] <;> rfl) ?_
    refine Rq ?_
    refine Rq ?_
    have tr : ∀ a b c d e f g h i j k m n o p q r s t : AV, let l := lc_standing_ok a b c d e f g h i j k m n o p; trim ((48,t)::(47,s)::(46,r)::(45,q)::l) l = [(0,a),(1,b),(4,c),(5,d),(7,e),(10,f),(11,g),(12,h),(13,i),(19,j),(40,k),(48,t),(54,n),(59,o),(65,p)] := by intros; rfl
    refine R_nil (tr ..) ?_; clear tr
    refine then_n ?_
    refine cdd (fun h4 => ?_) (fun h4 => ?_)
    ·
     try simp only [decide_eq_true_eq, decide_eq_false_iff_not, decide_eq_decide, Bool.not_eq_true', Bool.not_eq_false', beq_iff_eq, beq_eq_false_iff_ne, ne_eq, Bool.and_eq_true, Bool.and_eq_false_iff, decide_not] at h4
     refine at_exit rfl ?_
     refine then_x ?_
     refine blk_x ?_
     refine then_n ?_
     refine rg rfl ?_
     refine Rq ?_
     refine Rq ?_
     have tr : ∀ a b c d e f g h i j k m n o p q r : AV, let l := lc_standing_ok a b c d e f g h i j k m n o p; trim ((12,r)::(95,q)::l) l = [(0,a),(1,b),(4,c),(5,d),(7,e),(10,f),(11,g),(12,r),(13,i),(19,j),(40,k),(48,m),(54,n),(59,o),(65,p)] := by intros; rfl
     refine R_nil (tr ..) ?_; clear tr
     refine then_n ?_
     exact ⟨_, _, ⟨u + 1, _, _, _, _, _, _, _, _, rfl, rfl, by exact q4, by (first | (rw [stdS_snoc l u (by omega), upS, if_pos (by assumption), cn_0 (by omega)]; exact q5) | (rw [stdS_snoc l u (by omega), upS, if_pos (by assumption), cn_w (by omega) (by omega)]; exact q5) | (rw [stdS_snoc l u (by omega), upS, if_pos (by assumption), cn_l (by omega) (by omega)]; exact q5) | (rw [stdS_snoc l u (by omega), upS, if_neg (by assumption), if_pos (by assumption), cn_0 (by omega)]; exact q5) | (rw [stdS_snoc l u (by omega), upS, if_neg (by assumption), if_pos (by assumption), cn_w (by omega) (by omega)]; exact q5) | (rw [stdS_snoc l u (by omega), upS, if_neg (by assumption), if_pos (by assumption), cn_l (by omega) (by omega)]; exact q5) | (rw [stdS_snoc l u (by omega), upS, if_neg (by assumption), if_neg (by assumption)]; exact q5) | (exfalso; omega)), by omega⟩, by rfl, by omega⟩
    ·
     try simp only [decide_eq_true_eq, decide_eq_false_iff_not, decide_eq_decide, Bool.not_eq_true', Bool.not_eq_false', beq_iff_eq, beq_eq_false_iff_ne, ne_eq, Bool.and_eq_true, Bool.and_eq_false_iff, decide_not] at h4
     refine at_skip rfl ?_
     refine then_n ?_
     refine at_seq rfl ?_
     refine rg rfl ?_
     refine Rq ?_
     refine R_q rfl (by simp (disch := omega) only [go_sem, ↓reduceIte, Nat.reduceEqDiff, reduceCtorEq, q4, q5, q7] <;> rfl) ?_
     refine Rq ?_
     refine Rq ?_
     refine A_store ty3 (by simp (disch := omega) only [go_sem, ↓reduceIte, Nat.reduceEqDiff, reduceCtorEq, q4, q5, q7] <;> rfl) (by simp (disch := omega) only [go_sem, ↓reduceIte, Nat.reduceEqDiff, reduceCtorEq, q4, q5, q7] <;> rfl) q5 ⟨by omega, rfl, by simp⟩ (k' := _) (by rw [setL_one] <;> rfl) ?_
     intro H2 w2
     have q4 := (w2.old _ (by omega)).trans q4
     have q7 := (w2.old _ (by omega)).trans q7
     have q5 := w2.new
     simp only [List.set_cons_succ, List.set_cons_zero] at q5
     have tr : ∀ a b c d e f g h i j k m n o p q r s t : AV, let l := lc_standing_ok a b c d e f g h i j k m n o p; trim ((52,t)::(51,s)::(50,r)::(49,q)::l) l = [(0,a),(1,b),(4,c),(5,d),(7,e),(10,f),(11,g),(12,h),(13,i),(19,j),(40,k),(48,m),(54,n),(59,o),(65,p)] := by intros; rfl
     refine R_nil (tr ..) ?_; clear tr
     refine then_n ?_
     refine at_seq rfl ?_
     refine at_seq rfl ?_
     refine rg rfl ?_
     refine Rq ?_
     refine R_q rfl (by simp (disch := omega) only [go_sem, ↓reduceIte, Nat.reduceEqDiff, reduceCtorEq, q4, q5, q7] <;> rfl) ?_
     have tr : ∀ a b c d e f g h i j k m n o p q r : AV, let l := lc_standing_ok a b c d e f g h i j k m n o p; trim ((54,r)::(53,q)::l) l = [(0,a),(1,b),(4,c),(5,d),(7,e),(10,f),(11,g),(12,h),(13,i),(19,j),(40,k),(48,m),(54,r),(59,o),(65,p)] := by intros; rfl
     refine R_nil (tr ..) ?_; clear tr
     refine then_n ?_
     refine at_block rfl ?_
     refine at_seq rfl ?_
     refine rg rfl ?_
     refine Rq ?_
     refine Rq ?_
     have tr : ∀ a b c d e f g h i j k m n o p q r : AV, let l := lc_standing_ok a b c d e f g h i j k m n o p; trim ((59,r)::(60,q)::l) l = [(0,a),(1,b),(4,c),(5,d),(7,e),(10,f),(11,g),(12,h),(13,i),(19,j),(40,k),(48,m),(54,n),(59,r),(65,p)] := by intros; rfl
     refine R_nil (tr ..) ?_; clear tr
     refine then_n ?_
     refine cdd (fun h5 => ?_) (fun h5 => ?_)
     ·
      try simp only [decide_eq_true_eq, decide_eq_false_iff_not, decide_eq_decide, Bool.not_eq_true', Bool.not_eq_false', beq_iff_eq, beq_eq_false_iff_ne, ne_eq, Bool.and_eq_true, Bool.and_eq_false_iff, decide_not] at h5
      refine rg rfl ?_
      refine Rq ?_
      refine R_q rfl (by simp (disch := omega) only [go_sem, ↓reduceIte, Nat.reduceEqDiff, reduceCtorEq, q4, q5, q7] <;> rfl) ?_
      refine Rq ?_
      refine Rq ?_
      refine A_store ty3 (by simp (disch := omega) only [go_sem, ↓reduceIte, Nat.reduceEqDiff, reduceCtorEq, q4, q5, q7] <;> rfl) (by simp (disch := omega) only [go_sem, ↓reduceIte, Nat.reduceEqDiff, reduceCtorEq, q4, q5, q7] <;> rfl) q5 ⟨by omega, rfl, by simp⟩ (k' := _) (by rw [setL_one] <;> rfl) ?_
      intro H2 w2
      have q4 := (w2.old _ (by omega)).trans q4
      have q7 := (w2.old _ (by omega)).trans q7
      have q5 := w2.new
      simp only [List.set_cons_succ, List.set_cons_zero] at q5
      have tr : ∀ a b c d e f g h i j k m n o p q r s t : AV, let l := lc_standing_ok a b c d e f g h i j k m n o p; trim ((64,t)::(63,s)::(62,r)::(61,q)::l) l = [(0,a),(1,b),(4,c),(5,d),(7,e),(10,f),(11,g),(12,h),(13,i),(19,j),(40,k),(48,m),(54,n),(59,o),(65,p)] := by intros; rfl
      refine R_nil (tr ..) ?_; clear tr
      refine blk_n ?_
      refine then_n ?_
      refine at_seq rfl ?_
      refine rg rfl ?_
      refine Rq ?_
      refine R_q rfl (by simp (disch := omega) only [go_sem, ↓reduceIte, Nat.reduceEqDiff, reduceCtorEq, q4, q5, q7] <;> rfl) ?_
      refine Rq ?_
      refine R_q rfl (by simp (disch := omega) only [go_sem, ↓reduceIte, Nat.reduceEqDiff, reduceCtorEq, q4, q5, q7] <;> rfl) ?_
      refine Rq ?_
      refine Rq ?_
      refine A_store ty3 (by simp (disch := omega) only [go_sem, ↓reduceIte, Nat.reduceEqDiff, reduceCtorEq, q4, q5, q7] <;> rfl) (by simp (disch := omega) only [go_sem, ↓reduceIte, Nat.reduceEqDiff, reduceCtorEq, q4, q5, q7] <;> rfl) q5 ⟨by omega, rfl, by simp⟩ (k' := _) (by rw [setL_one] <;> rfl) ?_
      intro H2 w2
      have q4 := (w2.old _ (by omega)).trans q4
      have q7 := (w2.old _ (by omega)).trans q7
      have q5 := w2.new
      simp only [List.set_cons_succ, List.set_cons_zero] at q5
      have tr : ∀ a b c d e f g h i j k m n o p q r s t u v : AV, let l := lc_standing_ok a b c d e f g h i j k m n o p; trim ((76,v)::(75,u)::(74,t)::(73,s)::(72,r)::(71,q)::l) l = [(0,a),(1,b),(4,c),(5,d),(7,e),(10,f),(11,g),(12,h),(13,i),(19,j),(40,k),(48,m),(54,n),(59,o),(65,p)] := by intros; rfl
      refine R_nil (tr ..) ?_; clear tr
      refine then_n ?_
      refine at_seq rfl ?_
      refine rg rfl ?_
      refine Rq ?_
      refine R_q rfl (by simp (disch := omega) only [go_sem, ↓reduceIte, Nat.reduceEqDiff, reduceCtorEq, q4, q5, q7] <;> rfl) ?_
      refine Rq ?_
      refine R_q rfl (by simp (disch := omega) only [go_sem, ↓reduceIte, Nat.reduceEqDiff, reduceCtorEq, q4, q5, q7] <;> rfl) ?_
      refine Rq ?_
      refine Rq ?_
      refine A_store ty3 (by simp (disch := omega) only [go_sem, ↓reduceIte, Nat.reduceEqDiff, reduceCtorEq, q4, q5, q7] <;> rfl) (by simp (disch := omega) only [go_sem, ↓reduceIte, Nat.reduceEqDiff, reduceCtorEq, q4, q5, q7] <;> rfl) q5 ⟨by omega, rfl, by simp⟩ (k' := _) (by rw [setL_one] <;> rfl) ?_
      intro H2 w2
      have q4 := (w2.old _ (by omega)).trans q4
      have q7 := (w2.old _ (by omega)).trans q7
      have q5 := w2.new
      simp only [List.set_cons_succ, List.set_cons_zero] at q5
      have tr : ∀ a b c d e f g h i j k m n o p q r s t u v : AV, let l := lc_standing_ok a b c d e f g h i j k m n o p; trim ((82,v)::(81,u)::(80,t)::(79,s)::(78,r)::(77,q)::l) l = [(0,a),(1,b),(4,c),(5,d),(7,e),(10,f),(11,g),(12,h),(13,i),(19,j),(40,k),(48,m),(54,n),(59,o),(65,p)] := by intros; rfl
      refine R_nil (tr ..) ?_; clear tr
      refine then_n ?_
      refine at_seq rfl ?_
      refine rg rfl ?_
      refine Rq ?_
      refine R_q rfl (by simp (disch := omega) only [go_sem, ↓reduceIte, Nat.reduceEqDiff, reduceCtorEq, q4, q5, q7] <;> rfl) ?_
      refine Rq ?_
      refine R_q rfl (by simp (disch := omega) only [go_sem, ↓reduceIte, Nat.reduceEqDiff, reduceCtorEq, q4, q5, q7] <;> rfl) ?_
      refine Rq ?_
      refine Rq ?_
      refine A_store ty3 (by simp (disch := omega) only [go_sem, ↓reduceIte, Nat.reduceEqDiff, reduceCtorEq, q4, q5, q7] <;> rfl) (by simp (disch := omega) only [go_sem, ↓reduceIte, Nat.reduceEqDiff, reduceCtorEq, q4, q5, q7] <;> rfl) q5 ⟨by omega, rfl, by simp⟩ (k' := _) (by rw [setL_one] <;> rfl) ?_
      intro H2 w2
      have q4 := (w2.old _ (by omega)).trans q4
      have q7 := (w2.old _ (by omega)).trans q7
      have q5 := w2.new
      simp only [List.set_cons_succ, List.set_cons_zero] at q5
      have tr : ∀ a b c d e f g h i j k m n o p q r s t u v : AV, let l := lc_standing_ok a b c d e f g h i j k m n o p; trim ((88,v)::(87,u)::(86,t)::(85,s)::(84,r)::(83,q)::l) l = [(0,a),(1,b),(4,c),(5,d),(7,e),(10,f),(11,g),(12,h),(13,i),(19,j),(40,k),(48,m),(54,n),(59,o),(65,p)] := by intros; rfl
      refine R_nil (tr ..) ?_; clear tr
      refine then_n ?_
      refine rg rfl ?_
      refine Rq ?_
      refine R_q rfl (by simp (disch := omega) only [go_sem, ↓reduceIte, Nat.reduceEqDiff, reduceCtorEq, q4, q5, q7] <;> rfl) ?_
      refine Rq ?_
      refine R_q rfl (by simp (disch := omega) only [go_sem, ↓reduceIte, Nat.reduceEqDiff, reduceCtorEq, q4, q5, q7] <;> rfl) ?_
      refine Rq ?_
      refine Rq ?_
      refine A_store ty3 (by simp (disch := omega) only [go_sem, ↓reduceIte, Nat.reduceEqDiff, reduceCtorEq, q4, q5, q7] <;> rfl) (by simp (disch := omega) only [go_sem, ↓reduceIte, Nat.reduceEqDiff, reduceCtorEq, q4, q5, q7] <;> rfl) q5 ⟨by omega, rfl, by simp⟩ (k' := _) (by rw [setL_one] <;> rfl) ?_
      intro H2 w2
      have q4 := (w2.old _ (by omega)).trans q4
      have q7 := (w2.old _ (by omega)).trans q7
      have q5 := w2.new
      simp only [List.set_cons_succ, List.set_cons_zero] at q5
      have tr : ∀ a b c d e f g h i j k m n o p q r s t u v : AV, let l := lc_standing_ok a b c d e f g h i j k m n o p; trim ((94,v)::(93,u)::(92,t)::(91,s)::(90,r)::(89,q)::l) l = [(0,a),(1,b),(4,c),(5,d),(7,e),(10,f),(11,g),(12,h),(13,i),(19,j),(40,k),(48,m),(54,n),(59,o),(65,p)] := by intros; rfl
      refine R_nil (tr ..) ?_; clear tr
      refine blk_n ?_
      refine then_n ?_
      refine rg rfl ?_
      refine Rq ?_
      refine Rq ?_
      have tr : ∀ a b c d e f g h i j k m n o p q r : AV, let l := lc_standing_ok a b c d e f g h i j k m n o p; trim ((12,r)::(95,q)::l) l = [(0,a),(1,b),(4,c),(5,d),(7,e),(10,f),(11,g),(12,r),(13,i),(19,j),(40,k),(48,m),(54,n),(59,o),(65,p)] := by intros; rfl
      refine R_nil (tr ..) ?_; clear tr
      refine then_n ?_
      exact ⟨_, _, ⟨u + 1, _, _, _, _, _, _, _, _, rfl, rfl, by exact q4, by (first | (rw [stdS_snoc l u (by omega), upS, if_pos (by assumption), cn_0 (by omega)]; exact q5) | (rw [stdS_snoc l u (by omega), upS, if_pos (by assumption), cn_w (by omega) (by omega)]; exact q5) | (rw [stdS_snoc l u (by omega), upS, if_pos (by assumption), cn_l (by omega) (by omega)]; exact q5) | (rw [stdS_snoc l u (by omega), upS, if_neg (by assumption), if_pos (by assumption), cn_0 (by omega)]; exact q5) | (rw [stdS_snoc l u (by omega), upS, if_neg (by assumption), if_pos (by assumption), cn_w (by omega) (by omega)]; exact q5) | (rw [stdS_snoc l u (by omega), upS, if_neg (by assumption), if_pos (by assumption), cn_l (by omega) (by omega)]; exact q5) | (rw [stdS_snoc l u (by omega), upS, if_neg (by assumption), if_neg (by assumption)]; exact q5) | (exfalso; omega)), by omega⟩, by rfl, by omega⟩
     ·
      try simp only [decide_eq_true_eq, decide_eq_false_iff_not, decide_eq_decide, Bool.not_eq_true', Bool.not_eq_false', beq_iff_eq, beq_eq_false_iff_ne, ne_eq, Bool.and_eq_true, Bool.and_eq_false_iff, decide_not] at h5
      refine at_seq rfl ?_
      refine rg rfl ?_
      refine Rq ?_
      refine Rq ?_
      have tr : ∀ a b c d e f g h i j k m n o p q r : AV, let l := lc_standing_ok a b c d e f g h i j k m n o p; trim ((65,r)::(66,q)::l) l = [(0,a),(1,b),(4,c),(5,d),(7,e),(10,f),(11,g),(12,h),(13,i),(19,j),(40,k),(48,m),(54,n),(59,o),(65,r)] := by intros; rfl
      refine R_nil (tr ..) ?_; clear tr
      refine then_n ?_
      refine cdd (fun h6 => ?_) (fun h6 => ?_)
      ·
       try simp only [decide_eq_true_eq, decide_eq_false_iff_not, decide_eq_decide, Bool.not_eq_true', Bool.not_eq_false', beq_iff_eq, beq_eq_false_iff_ne, ne_eq, Bool.and_eq_true, Bool.and_eq_false_iff, decide_not] at h6
       refine rg rfl ?_
       refine Rq ?_
       refine R_q rfl (by simp (disch := omega) only [go_sem, ↓reduceIte, Nat.reduceEqDiff, reduceCtorEq, q4, q5, q7] <;> rfl) ?_
       refine Rq ?_
       refine Rq ?_
       refine A_store ty3 (by simp (disch := omega) only [go_sem, ↓reduceIte, Nat.reduceEqDiff, reduceCtorEq, q4, q5, q7] <;> rfl) (by simp (disch := omega) only [go_sem, ↓reduceIte, Nat.reduceEqDiff, reduceCtorEq, q4, q5, q7] <;> rfl) q5 ⟨by omega, rfl, by simp⟩ (k' := _) (by rw [setL_one] <;> rfl) ?_
       intro H2 w2
       have q4 := (w2.old _ (by omega)).trans q4
       have q7 := (w2.old _ (by omega)).trans q7
       have q5 := w2.new
       simp only [List.set_cons_succ, List.set_cons_zero] at q5
       have tr : ∀ a b c d e f g h i j k m n o p q r s t : AV, let l := lc_standing_ok a b c d e f g h i j k m n o p; trim ((70,t)::(69,s)::(68,r)::(67,q)::l) l = [(0,a),(1,b),(4,c),(5,d),(7,e),(10,f),(11,g),(12,h),(13,i),(19,j),(40,k),(48,m),(54,n),(59,o),(65,p)] := by intros; rfl
       refine R_nil (tr ..) ?_; clear tr
       refine blk_n ?_
       refine then_n ?_
       refine at_seq rfl ?_
       refine rg rfl ?_
       refine Rq ?_
       refine R_q rfl (by simp (disch := omega) only [go_sem, ↓reduceIte, Nat.reduceEqDiff, reduceCtorEq, q4, q5, q7] <;> rfl) ?_
       refine Rq ?_
       refine R_q rfl (by simp (disch := omega) only [go_sem, ↓reduceIte, Nat.reduceEqDiff, reduceCtorEq, q4, q5, q7] <;> rfl) ?_
       refine Rq ?_
       refine Rq ?_
       refine A_store ty3 (by simp (disch := omega) only [go_sem, ↓reduceIte, Nat.reduceEqDiff, reduceCtorEq, q4, q5, q7] <;> rfl) (by simp (disch := omega) only [go_sem, ↓reduceIte, Nat.reduceEqDiff, reduceCtorEq, q4, q5, q7] <;> rfl) q5 ⟨by omega, rfl, by simp⟩ (k' := _) (by rw [setL_one] <;> rfl) ?_
       intro H2 w2
       have q4 := (w2.old _ (by omega)).trans q4
       have q7 := (w2.old _ (by omega)).trans q7
       have q5 := w2.new
       simp only [List.set_cons_succ, List.set_cons_zero] at q5
       have tr : ∀ a b c d e f g h i j k m n o p q r s t u v : AV, let l := lc_standing_ok a b c d e f g h i j k m n o p; trim ((76,v)::(75,u)::(74,t)::(73,s)::(72,r)::(71,q)::l) l = [(0,a),(1,b),(4,c),(5,d),(7,e),(10,f),(11,g),(12,h),(13,i),(19,j),(40,k),(48,m),(54,n),(59,o),(65,p)] := by intros; rfl
       refine R_nil (tr ..) ?_; clear tr
       refine then_n ?_
       refine at_seq rfl ?_
       refine rg rfl ?_
       refine Rq ?_
       refine R_q rfl (by simp (disch := omega) only [go_sem, ↓reduceIte, Nat.reduceEqDiff, reduceCtorEq, q4, q5, q7] <;> rfl) ?_
       refine Rq ?_
       refine R_q rfl (by simp (disch := omega) only [go_sem, ↓reduceIte, Nat.reduceEqDiff, reduceCtorEq, q4, q5, q7] <;> rfl) ?_
       refine Rq ?_
       refine Rq ?_
       refine A_store ty3 (by simp (disch := omega) only [go_sem, ↓reduceIte, Nat.reduceEqDiff, reduceCtorEq, q4, q5, q7] <;> rfl) (by simp (disch := omega) only [go_sem, ↓reduceIte, Nat.reduceEqDiff, reduceCtorEq, q4, q5, q7] <;> rfl) q5 ⟨by omega, rfl, by simp⟩ (k' := _) (by rw [setL_one] <;> rfl) ?_
       intro H2 w2
       have q4 := (w2.old _ (by omega)).trans q4
       have q7 := (w2.old _ (by omega)).trans q7
       have q5 := w2.new
       simp only [List.set_cons_succ, List.set_cons_zero] at q5
       have tr : ∀ a b c d e f g h i j k m n o p q r s t u v : AV, let l := lc_standing_ok a b c d e f g h i j k m n o p; trim ((82,v)::(81,u)::(80,t)::(79,s)::(78,r)::(77,q)::l) l = [(0,a),(1,b),(4,c),(5,d),(7,e),(10,f),(11,g),(12,h),(13,i),(19,j),(40,k),(48,m),(54,n),(59,o),(65,p)] := by intros; rfl
       refine R_nil (tr ..) ?_; clear tr
       refine then_n ?_
       refine at_seq rfl ?_
       refine rg rfl ?_
       refine Rq ?_
       refine R_q rfl (by simp (disch := omega) only [go_sem, ↓reduceIte, Nat.reduceEqDiff, reduceCtorEq, q4, q5, q7] <;> rfl) ?_
       refine Rq ?_
       refine R_q rfl (by simp (disch := omega) only [go_sem, ↓reduceIte, Nat.reduceEqDiff, reduceCtorEq, q4, q5, q7] <;> rfl) ?_
       refine Rq ?_
       refine Rq ?_
       refine A_store ty3 (by simp (disch := omega) only [go_sem, ↓reduceIte, Nat.reduceEqDiff, reduceCtorEq, q4, q5, q7] <;> rfl) (by simp (disch := omega) only [go_sem, ↓reduceIte, Nat.reduceEqDiff, reduceCtorEq, q4, q5, q7] <;> rfl) q5 ⟨by omega, rfl, by simp⟩ (k' := _) (by rw [setL_one] <;> rfl) ?_
       intro H2 w2
       have q4 := (w2.old _ (by omega)).trans q4
       have q7 := (w2.old _ (by omega)).trans q7
       have q5 := w2.new
       simp only [List.set_cons_succ, List.set_cons_zero] at q5
       have tr : ∀ a b c d e f g h i j k m n o p q r s t u v : AV, let l := lc_standing_ok a b c d e f g h i j k m n o p; trim ((88,v)::(87,u)::(86,t)::(85,s)::(84,r)::(83,q)::l) l = [(0,a),(1,b),(4,c),(5,d),(7,e),(10,f),(11,g),(12,h),(13,i),(19,j),(40,k),(48,m),(54,n),(59,o),(65,p)] := by intros; rfl
       refine R_nil (tr ..) ?_; clear tr
       refine then_n ?_
       refine rg rfl ?_
       refine Rq ?_
       refine R_q rfl (by simp (disch := omega) only [go_sem, ↓reduceIte, Nat.reduceEqDiff, reduceCtorEq, q4, q5, q7] <;> rfl) ?_
       refine Rq ?_
       refine R_q rfl (by simp (disch := omega) only [go_sem, ↓reduceIte, Nat.reduceEqDiff, reduceCtorEq, q4, q5, q7] <;> rfl) ?_
       refine Rq ?_
       refine Rq ?_
       refine A_store ty3 (by simp (disch := omega) only [go_sem, ↓reduceIte, Nat.reduceEqDiff, reduceCtorEq, q4, q5, q7] <;> rfl) (by simp (disch := omega) only [go_sem, ↓reduceIte, Nat.reduceEqDiff, reduceCtorEq, q4, q5, q7] <;> rfl) q5 ⟨by omega, rfl, by simp⟩ (k' := _) (by rw [setL_one] <;> rfl) ?_
       intro H2 w2
       have q4 := (w2.old _ (by omega)).trans q4
       have q7 := (w2.old _ (by omega)).trans q7
       have q5 := w2.new
       simp only [List.set_cons_succ, List.set_cons_zero] at q5
       have tr : ∀ a b c d e f g h i j k m n o p q r s t u v : AV, let l := lc_standing_ok a b c d e f g h i j k m n o p; trim ((94,v)::(93,u)::(92,t)::(91,s)::(90,r)::(89,q)::l) l = [(0,a),(1,b),(4,c),(5,d),(7,e),(10,f),(11,g),(12,h),(13,i),(19,j),(40,k),(48,m),(54,n),(59,o),(65,p)] := by intros; rfl
       refine R_nil (tr ..) ?_; clear tr
       refine blk_n ?_
       refine then_n ?_
       refine rg rfl ?_
       refine Rq ?_
       refine Rq ?_
       have tr : ∀ a b c d e f g h i j k m n o p q r : AV, let l := lc_standing_ok a b c d e f g h i j k m n o p; trim ((12,r)::(95,q)::l) l = [(0,a),(1,b),(4,c),(5,d),(7,e),(10,f),(11,g),(12,r),(13,i),(19,j),(40,k),(48,m),(54,n),(59,o),(65,p)] := by intros; rfl
       refine R_nil (tr ..) ?_; clear tr
       refine then_n ?_
       exact ⟨_, _, ⟨u + 1, _, _, _, _, _, _, _, _, rfl, rfl, by exact q4, by (first | (rw [stdS_snoc l u (by omega), upS, if_pos (by assumption), cn_0 (by omega)]; exact q5) | (rw [stdS_snoc l u (by omega), upS, if_pos (by assumption), cn_w (by omega) (by omega)]; exact q5) | (rw [stdS_snoc l u (by omega), upS, if_pos (by assumption), cn_l (by omega) (by omega)]; exact q5) | (rw [stdS_snoc l u (by omega), upS, if_neg (by assumption), if_pos (by assumption), cn_0 (by omega)]; exact q5) | (rw [stdS_snoc l u (by omega), upS, if_neg (by assumption), if_pos (by assumption), cn_w (by omega) (by omega)]; exact q5) | (rw [stdS_snoc l u (by omega), upS, if_neg (by assumption), if_pos (by assumption), cn_l (by omega) (by omega)]; exact q5) | (rw [stdS_snoc l u (by omega), upS, if_neg (by assumption), if_neg (by assumption)]; exact q5) | (exfalso; omega)), by omega⟩, by rfl, by omega⟩
      ·
       try simp only [decide_eq_true_eq, decide_eq_false_iff_not, decide_eq_decide, Bool.not_eq_true', Bool.not_eq_false', beq_iff_eq, beq_eq_false_iff_ne, ne_eq, Bool.and_eq_true, Bool.and_eq_false_iff, decide_not] at h6
       refine rg rfl ?_
       refine Rq ?_
       refine R_q rfl (by simp (disch := omega) only [go_sem, ↓reduceIte, Nat.reduceEqDiff, reduceCtorEq, q4, q5, q7] <;> rfl) ?_
       refine Rq ?_
       refine Rq ?_
       refine A_store ty3 (by simp (disch := omega) only [go_sem, ↓reduceIte, Nat.reduceEqDiff, reduceCtorEq, q4, q5, q7] <;> rfl) (by simp (disch := omega) only [go_sem, ↓reduceIte, Nat.reduceEqDiff, reduceCtorEq, q4, q5, q7] <;> rfl) q5 ⟨by omega, rfl, by simp⟩ (k' := _) (by rw [setL_one] <;> rfl) ?_
       intro H2 w2
       have q4 := (w2.old _ (by omega)).trans q4
       have q7 := (w2.old _ (by omega)).trans q7
       have q5 := w2.new
       simp only [List.set_cons_succ, List.set_cons_zero] at q5
       have tr : ∀ a b c d e f g h i j k m n o p q r s t : AV, let l := lc_standing_ok a b c d e f g h i j k m n o p; trim ((58,t)::(57,s)::(56,r)::(55,q)::l) l = [(0,a),(1,b),(4,c),(5,d),(7,e),(10,f),(11,g),(12,h),(13,i),(19,j),(40,k),(48,m),(54,n),(59,o),(65,p)] := by intros; rfl
       refine R_nil (tr ..) ?_; clear tr
       refine blk_n ?_
       refine then_n ?_
       refine at_seq rfl ?_
       refine rg rfl ?_
       refine Rq ?_
       refine R_q rfl (by simp (disch := omega) only [go_sem, ↓reduceIte, Nat.reduceEqDiff, reduceCtorEq, q4, q5, q7] <;> rfl) ?_
       refine Rq ?_
       refine R_q rfl (by simp (disch := omega) only [go_sem, ↓reduceIte, Nat.reduceEqDiff, reduceCtorEq, q4, q5, q7] <;> rfl) ?_
       refine Rq ?_
       refine Rq ?_
       refine A_store ty3 (by simp (disch := omega) only [go_sem, ↓reduceIte, Nat.reduceEqDiff, reduceCtorEq, q4, q5, q7] <;> rfl) (by simp (disch := omega) only [go_sem, ↓reduceIte, Nat.reduceEqDiff, reduceCtorEq, q4, q5, q7] <;> rfl) q5 ⟨by omega, rfl, by simp⟩ (k' := _) (by rw [setL_one] <;> rfl) ?_
       intro H2 w2
       have q4 := (w2.old _ (by omega)).trans q4
       have q7 := (w2.old _ (by omega)).trans q7
       have q5 := w2.new
       simp only [List.set_cons_succ, List.set_cons_zero] at q5
       have tr : ∀ a b c d e f g h i j k m n o p q r s t u v : AV, let l := lc_standing_ok a b c d e f g h i j k m n o p; trim ((76,v)::(75,u)::(74,t)::(73,s)::(72,r)::(71,q)::l) l = [(0,a),(1,b),(4,c),(5,d),(7,e),(10,f),(11,g),(12,h),(13,i),(19,j),(40,k),(48,m),(54,n),(59,o),(65,p)] := by intros; rfl
       refine R_nil (tr ..) ?_; clear tr
       refine then_n ?_
       refine at_seq rfl ?_
       refine rg rfl ?_
       refine Rq ?_
       refine R_q rfl (by simp (disch := omega) only [go_sem, ↓reduceIte, Nat.reduceEqDiff, reduceCtorEq, q4, q5, q7] <;> rfl) ?_
       refine Rq ?_
       refine R_q rfl (by simp (disch := omega) only [go_sem, ↓reduceIte, Nat.reduceEqDiff, reduceCtorEq, q4, q5, q7] <;> rfl) ?_
       refine Rq ?_
       refine Rq ?_
       refine A_store ty3 (by simp (disch := omega) only [go_sem, ↓reduceIte, Nat.reduceEqDiff, reduceCtorEq, q4, q5, q7] <;> rfl) (by simp (disch := omega) only [go_sem, ↓reduceIte, Nat.reduceEqDiff, reduceCtorEq, q4, q5, q7] <;> rfl) q5 ⟨by omega, rfl, by simp⟩ (k' := _) (by rw [setL_one] <;> rfl) ?_
       intro H2 w2
       have q4 := (w2.old _ (by omega)).trans q4
       have q7 := (w2.old _ (by omega)).trans q7
       have q5 := w2.new
       simp only [List.set_cons_succ, List.set_cons_zero] at q5
       have tr : ∀ a b c d e f g h i j k m n o p q r s t u v : AV, let l := lc_standing_ok a b c d e f g h i j k m n o p; trim ((82,v)::(81,u)::(80,t)::(79,s)::(78,r)::(77,q)::l) l = [(0,a),(1,b),(4,c),(5,d),(7,e),(10,f),(11,g),(12,h),(13,i),(19,j),(40,k),(48,m),(54,n),(59,o),(65,p)] := by intros; rfl
       refine R_nil (tr ..) ?_; clear tr
       refine then_n ?_
       refine at_seq rfl ?_
       refine rg rfl ?_
       refine Rq ?_
       refine R_q rfl (by simp (disch := omega) only [go_sem, ↓reduceIte, Nat.reduceEqDiff, reduceCtorEq, q4, q5, q7] <;> rfl) ?_
       refine Rq ?_
       refine R_q rfl (by simp (disch := omega) only [go_sem, ↓reduceIte, Nat.reduceEqDiff, reduceCtorEq, q4, q5, q7] <;> rfl) ?_
       refine Rq ?_
       refine Rq ?_
       refine A_store ty3 (by simp (disch := omega) only [go_sem, ↓reduceIte, Nat.reduceEqDiff, reduceCtorEq, q4, q5, q7] <;> rfl) (by simp (disch := omega) only [go_sem, ↓reduceIte, Nat.reduceEqDiff, reduceCtorEq, q4, q5, q7] <;> rfl) q5 ⟨by omega, rfl, by simp⟩ (k' := _) (by rw [setL_one] <;> rfl) ?_
       intro H2 w2
       have q4 := (w2.old _ (by omega)).trans q4
       have q7 := (w2.old _ (by omega)).trans q7
       have q5 := w2.new
       simp only [List.set_cons_succ, List.set_cons_zero] at q5
       have tr : ∀ a b c d e f g h i j k m n o p q r s t u v : AV, let l := lc_standing_ok a b c d e f g h i j k m n o p; trim ((88,v)::(87,u)::(86,t)::(85,s)::(84,r)::(83,q)::l) l = [(0,a),(1,b),(4,c),(5,d),(7,e),(10,f),(11,g),(12,h),(13,i),(19,j),(40,k),(48,m),(54,n),(59,o),(65,p)] := by intros; rfl
       refine R_nil (tr ..) ?_; clear tr
       refine then_n ?_
       refine rg rfl ?_
       refine Rq ?_
       refine R_q rfl (by simp (disch := omega) only [go_sem, ↓reduceIte, Nat.reduceEqDiff, reduceCtorEq, q4, q5, q7] <;> rfl) ?_
       refine Rq ?_
       refine R_q rfl (by simp (disch := omega) only [go_sem, ↓reduceIte, Nat.reduceEqDiff, reduceCtorEq, q4, q5, q7] <;> rfl) ?_
       refine Rq ?_
       refine Rq ?_
       refine A_store ty3 (by simp (disch := omega) only [go_sem, ↓reduceIte, Nat.reduceEqDiff, reduceCtorEq, q4, q5, q7] <;> rfl) (by simp (disch := omega) only [go_sem, ↓reduceIte, Nat.reduceEqDiff, reduceCtorEq, q4, q5, q7] <;> rfl) q5 ⟨by omega, rfl, by simp⟩ (k' := _) (by rw [setL_one] <;> rfl) ?_
       intro H2 w2
       have q4 := (w2.old _ (by omega)).trans q4
       have q7 := (w2.old _ (by omega)).trans q7
       have q5 := w2.new
       simp only [List.set_cons_succ, List.set_cons_zero] at q5
       have tr : ∀ a b c d e f g h i j k m n o p q r s t u v : AV, let l := lc_standing_ok a b c d e f g h i j k m n o p; trim ((94,v)::(93,u)::(92,t)::(91,s)::(90,r)::(89,q)::l) l = [(0,a),(1,b),(4,c),(5,d),(7,e),(10,f),(11,g),(12,h),(13,i),(19,j),(40,k),(48,m),(54,n),(59,o),(65,p)] := by intros; rfl
       refine R_nil (tr ..) ?_; clear tr
       refine blk_n ?_
       refine then_n ?_
       refine rg rfl ?_
       refine Rq ?_
       refine Rq ?_
       have tr : ∀ a b c d e f g h i j k m n o p q r : AV, let l := lc_standing_ok a b c d e f g h i j k m n o p; trim ((12,r)::(95,q)::l) l = [(0,a),(1,b),(4,c),(5,d),(7,e),(10,f),(11,g),(12,r),(13,i),(19,j),(40,k),(48,m),(54,n),(59,o),(65,p)] := by intros; rfl
       refine R_nil (tr ..) ?_; clear tr
       refine then_n ?_
       exact ⟨_, _, ⟨u + 1, _, _, _, _, _, _, _, _, rfl, rfl, by exact q4, by (first | (rw [stdS_snoc l u (by omega), upS, if_pos (by assumption), cn_0 (by omega)]; exact q5) | (rw [stdS_snoc l u (by omega), upS, if_pos (by assumption), cn_w (by omega) (by omega)]; exact q5) | (rw [stdS_snoc l u (by omega), upS, if_pos (by assumption), cn_l (by omega) (by omega)]; exact q5) | (rw [stdS_snoc l u (by omega), upS, if_neg (by assumption), if_pos (by assumption), cn_0 (by omega)]; exact q5) | (rw [stdS_snoc l u (by omega), upS, if_neg (by assumption), if_pos (by assumption), cn_w (by omega) (by omega)]; exact q5) | (rw [stdS_snoc l u (by omega), upS, if_neg (by assumption), if_pos (by assumption), cn_l (by omega) (by omega)]; exact q5) | (rw [stdS_snoc l u (by omega), upS, if_neg (by assumption), if_neg (by assumption)]; exact q5) | (exfalso; omega)), by omega⟩, by rfl, by omega⟩
   ·
    try simp only [decide_eq_true_eq, decide_eq_false_iff_not, decide_eq_decide, Bool.not_eq_true', Bool.not_eq_false', beq_iff_eq, beq_eq_false_iff_ne, ne_eq, Bool.and_eq_true, Bool.and_eq_false_iff, decide_not] at h3
    refine at_skip rfl ?_
    refine then_n ?_
    refine at_seq rfl ?_
    refine at_seq rfl ?_
    refine rg rfl ?_
    refine Rq ?_
    refine R_q rfl (by simp (disch := omega) only [go_sem, ↓reduceIte, Nat.reduceEqDiff, reduceCtorEq, q4, q5, q7] <;> rfl) ?_
    refine Rq ?_
    refine Rq ?_
    have tr : ∀ a b c d e f g h i j k m n o p q r s t : AV, let l := lc_standing_ok a b c d e f g h i j k m n o p; trim ((48,t)::(47,s)::(46,r)::(45,q)::l) l = [(0,a),(1,b),(4,c),(5,d),(7,e),(10,f),(11,g),(12,h),(13,i),(19,j),(40,k),(48,t),(54,n),(59,o),(65,p)] := by intros; rfl
    refine R_nil (tr ..) ?_; clear tr
    refine then_n ?_
    refine cdd (fun h7 => ?_) (fun h7 => ?_)
    ·
     try simp only [decide_eq_true_eq, decide_eq_false_iff_not, decide_eq_decide, Bool.not_eq_true', Bool.not_eq_false', beq_iff_eq, beq_eq_false_iff_ne, ne_eq, Bool.and_eq_true, Bool.and_eq_false_iff, decide_not] at h7
     refine at_exit rfl ?_
     refine then_x ?_
     refine blk_x ?_
     refine then_n ?_
     refine rg rfl ?_
     refine Rq ?_
     refine Rq ?_
     have tr : ∀ a b c d e f g h i j k m n o p q r : AV, let l := lc_standing_ok a b c d e f g h i j k m n o p; trim ((12,r)::(95,q)::l) l = [(0,a),(1,b),(4,c),(5,d),(7,e),(10,f),(11,g),(12,r),(13,i),(19,j),(40,k),(48,m),(54,n),(59,o),(65,p)] := by intros; rfl
     refine R_nil (tr ..) ?_; clear tr
     refine then_n ?_
     exact ⟨_, _, ⟨u + 1, _, _, _, _, _, _, _, _, rfl, rfl, by exact q4, by (first | (rw [stdS_snoc l u (by omega), upS, if_pos (by assumption), cn_0 (by omega)]; exact q5) | (rw [stdS_snoc l u (by omega), upS, if_pos (by assumption), cn_w (by omega) (by omega)]; exact q5) | (rw [stdS_snoc l u (by omega), upS, if_pos (by assumption), cn_l (by omega) (by omega)]; exact q5) | (rw [stdS_snoc l u (by omega), upS, if_neg (by assumption), if_pos (by assumption), cn_0 (by omega)]; exact q5) | (rw [stdS_snoc l u (by omega), upS, if_neg (by assumption), if_pos (by assumption), cn_w (by omega) (by omega)]; exact q5) | (rw [stdS_snoc l u (by omega), upS, if_neg (by assumption), if_pos (by assumption), cn_l (by omega) (by omega)]; exact q5) | (rw [stdS_snoc l u (by omega), upS, if_neg (by assumption), if_neg (by assumption)]; exact q5) | (exfalso; omega)), by omega⟩, by rfl, by omega⟩
    ·
     try simp only [decide_eq_true_eq, decide_eq_false_iff_not, decide_eq_decide, Bool.not_eq_true', Bool.not_eq_false', beq_iff_eq, beq_eq_false_iff_ne, ne_eq, Bool.and_eq_true, Bool.and_eq_false_iff, decide_not] at h7
     refine at_skip rfl ?_
     refine then_n ?_
     refine at_seq rfl ?_
     refine rg rfl ?_
     refine Rq ?_
     refine R_q rfl (by simp (disch := omega) only [go_sem, ↓reduceIte, Nat.reduceEqDiff, reduceCtorEq, q4, q5, q7] <;> rfl) ?_
     refine Rq ?_
     refine Rq ?_
     refine A_store ty3 (by simp (disch := omega) only [go_sem, ↓reduceIte, Nat.reduceEqDiff, reduceCtorEq, q4, q5, q7] <;> rfl) (by simp (disch := omega) only [go_sem, ↓reduceIte, Nat.reduceEqDiff, reduceCtorEq, q4, q5, q7] <;> rfl) q5 ⟨by omega, rfl, by simp⟩ (k' := _) (by rw [setL_one] <;> rfl) ?_
     intro H2 w2
     have q4 := (w2.old _ (by omega)).trans q4
     have q7 := (w2.old _ (by omega)).trans q7
     have q5 := w2.new
     simp only [List.set_cons_succ, List.set_cons_zero] at q5
     have tr : ∀ a b c d e f g h i j k m n o p q r s t : AV, let l := lc_standing_ok a b c d e f g h i j k m n o p; trim ((52,t)::(51,s)::(50,r)::(49,q)::l) l = [(0,a),(1,b),(4,c),(5,d),(7,e),(10,f),(11,g),(12,h),(13,i),(19,j),(40,k),(48,m),(54,n),(59,o),(65,p)] := by intros; rfl
     refine R_nil (tr ..) ?_; clear tr
     refine then_n ?_
     refine at_seq rfl ?_
     refine at_seq rfl ?_
     refine rg rfl ?_
     refine Rq ?_
     refine R_q rfl (by simp (disch := omega) only [go_sem, ↓reduceIte, Nat.reduceEqDiff, reduceCtorEq, q4, q5, q7] <;> rfl) ?_
     have tr : ∀ a b c d e f g h i j k m n o p q r : AV, let l := lc_standing_ok a b c d e f g h i j k m n o p; trim ((54,r)::(53,q)::l) l = [(0,a),(1,b),(4,c),(5,d),(7,e),(10,f),(11,g),(12,h),(13,i),(19,j),(40,k),(48,m),(54,r),(59,o),(65,p)] := by intros; rfl
     refine R_nil (tr ..) ?_; clear tr
     refine then_n ?_
     refine at_block rfl ?_
     refine at_seq rfl ?_
     refine rg rfl ?_
     refine Rq ?_
     refine Rq ?_
     have tr : ∀ a b c d e f g h i j k m n o p q r : AV, let l := lc_standing_ok a b c d e f g h i j k m n o p; trim ((59,r)::(60,q)::l) l = [(0,a),(1,b),(4,c),(5,d),(7,e),(10,f),(11,g),(12,h),(13,i),(19,j),(40,k),(48,m),(54,n),(59,r),(65,p)] := by intros; rfl
     refine R_nil (tr ..) ?_; clear tr
     refine then_n ?_
     refine cdd (fun h8 => ?_) (fun h8 => ?_)
     ·
      try simp only [decide_eq_true_eq, decide_eq_false_iff_not, decide_eq_decide, Bool.not_eq_true', Bool.not_eq_false', beq_iff_eq, beq_eq_false_iff_ne, ne_eq, Bool.and_eq_true, Bool.and_eq_false_iff, decide_not] at h8
      refine rg rfl ?_
      refine Rq ?_
      refine R_q rfl (by simp (disch := omega) only [go_sem, ↓reduceIte, Nat.reduceEqDiff, reduceCtorEq, q4, q5, q7] <;> rfl) ?_
      refine Rq ?_
      refine Rq ?_
      refine A_store ty3 (by simp (disch := omega) only [go_sem, ↓reduceIte, Nat.reduceEqDiff, reduceCtorEq, q4, q5, q7] <;> rfl) (by simp (disch := omega) only [go_sem, ↓reduceIte, Nat.reduceEqDiff, reduceCtorEq, q4, q5, q7] <;> rfl) q5 ⟨by omega, rfl, by simp⟩ (k' := _) (by rw [setL_one] <;> rfl) ?_
      intro H2 w2
      have q4 := (w2.old _ (by omega)).trans q4
      have q7 := (w2.old _ (by omega)).trans q7
      have q5 := w2.new
      simp only [List.set_cons_succ, List.set_cons_zero] at q5
      have tr : ∀ a b c d e f g h i j k m n o p q r s t : AV, let l := lc_standing_ok a b c d e f g h i j k m n o p; trim ((64,t)::(63,s)::(62,r)::(61,q)::l) l = [(0,a),(1,b),(4,c),(5,d),(7,e),(10,f),(11,g),(12,h),(13,i),(19,j),(40,k),(48,m),(54,n),(59,o),(65,p)] := by intros; rfl
      refine R_nil (tr ..) ?_; clear tr
      refine blk_n ?_
      refine then_n ?_
      refine at_seq rfl ?_
      refine rg rfl ?_
      refine Rq ?_
      refine R_q rfl (by simp (disch := omega) only [go_sem, ↓reduceIte, Nat.reduceEqDiff, reduceCtorEq, q4, q5, q7] <;> rfl) ?_
      refine Rq ?_
      refine R_q rfl (by simp (disch := omega) only [go_sem, ↓reduceIte, Nat.reduceEqDiff, reduceCtorEq, q4, q5, q7] <;> rfl) ?_
      refine Rq ?_
      refine Rq ?_
      refine A_store ty3 (by simp (disch := omega) only [go_sem, ↓reduceIte, Nat.reduceEqDiff, reduceCtorEq, q4, q5, q7] <;> rfl) (by simp (disch := omega) only [go_sem, ↓reduceIte, Nat.reduceEqDiff, reduceCtorEq, q4, q5, q7] <;> rfl) q5 ⟨by omega, rfl, by simp⟩ (k' := _) (by rw [setL_one] <;> rfl) ?_
      intro H2 w2
      have q4 := (w2.old _ (by omega)).trans q4
      have q7 := (w2.old _ (by omega)).trans q7
      have q5 := w2.new
      simp only [List.set_cons_succ, List.set_cons_zero] at q5
      have tr : ∀ a b c d e f g h i j k m n o p q r s t u v : AV, let l := lc_standing_ok a b c d e f g h i j k m n o p; trim ((76,v)::(75,u)::(74,t)::(73,s)::(72,r)::(71,q)::l) l = [(0,a),(1,b),(4,c),(5,d),(7,e),(10,f),(11,g),(12,h),(13,i),(19,j),(40,k),(48,m),(54,n),(59,o),(65,p)] := by intros; rfl
      refine R_nil (tr ..) ?_; clear tr
      refine then_n ?_
      refine at_seq rfl ?_
      refine rg rfl ?_
      refine Rq ?_
      refine R_q rfl (by simp (disch := omega) only [go_sem, ↓reduceIte, Nat.reduceEqDiff, reduceCtorEq, q4, q5, q7] <;> rfl) ?_
      refine Rq ?_
      refine R_q rfl (by simp (disch := omega) only [go_sem, ↓reduceIte, Nat.reduceEqDiff, reduceCtorEq, q4, q5, q7] <;> rfl) ?_
      refine Rq ?_
      refine Rq ?_
      refine A_store ty3 (by simp (disch := omega) only [go_sem, ↓reduceIte, Nat.reduceEqDiff, reduceCtorEq, q4, q5, q7] <;> rfl) (by simp (disch := omega) only [go_sem, ↓reduceIte, Nat.reduceEqDiff, reduceCtorEq, q4, q5, q7] <;> rfl) q5 ⟨by omega, rfl, by simp⟩ (k' := _) (by rw [setL_one] <;> rfl) ?_
      intro H2 w2
      have q4 := (w2.old _ (by omega)).trans q4
      have q7 := (w2.old _ (by omega)).trans q7
      have q5 := w2.new
      simp only [List.set_cons_succ, List.set_cons_zero] at q5
      have tr : ∀ a b c d e f g h i j k m n o p q r s t u v : AV, let l := lc_standing_ok a b c d e f g h i j k m n o p; trim ((82,v)::(81,u)::(80,t)::(79,s)::(78,r)::(77,q)::l) l = [(0,a),(1,b),(4,c),(5,d),(7,e),(10,f),(11,g),(12,h),(13,i),(19,j),(40,k),(48,m),(54,n),(59,o),(65,p)] := by intros; rfl
      refine R_nil (tr ..) ?_; clear tr
      refine then_n ?_
      refine at_seq rfl ?_
      refine rg rfl ?_
      refine Rq ?_
      refine R_q rfl (by simp (disch := omega) only [go_sem, ↓reduceIte, Nat.reduceEqDiff, reduceCtorEq, q4, q5, q7] <;> rfl) ?_
      refine Rq ?_
      refine R_q rfl (by simp (disch := omega) only [go_sem, ↓reduceIte, Nat.reduceEqDiff, reduceCtorEq, q4, q5, q7] <;> rfl) ?_
      refine Rq ?_
      refine Rq ?_
      refine A_store ty3 (by simp (disch := omega) only [go_sem, ↓reduceIte, Nat.reduceEqDiff, reduceCtorEq, q4, q5, q7] <;> rfl) (by simp (disch := omega) only [go_sem, ↓reduceIte, Nat.reduceEqDiff, reduceCtorEq, q4, q5, q7] <;> rfl) q5 ⟨by omega, rfl, by simp⟩ (k' := _) (by rw [setL_one] <;> rfl) ?_
      intro H2 w2
      have q4 := (w2.old _ (by omega)).trans q4
      have q7 := (w2.old _ (by omega)).trans q7
      have q5 := w2.new
      simp only [List.set_cons_succ, List.set_cons_zero] at q5
      have tr : ∀ a b c d e f g h i j k m n o p q r s t u v : AV, let l := lc_standing_ok a b c d e f g h i j k m n o p; trim ((88,v)::(87,u)::(86,t)::(85,s)::(84,r)::(83,q)::l) l = [(0,a),(1,b),(4,c),(5,d),(7,e),(10,f),(11,g),(12,h),(13,i),(19,j),(40,k),(48,m),(54,n),(59,o),(65,p)] := by intros; rfl
      refine R_nil (tr ..) ?_; clear tr
      refine then_n ?_
      refine rg rfl ?_
      refine Rq ?_
      refine R_q rfl (by simp (disch := omega) only [go_sem, ↓reduceIte, Nat.reduceEqDiff, reduceCtorEq, q4, q5, q7] <;> rfl) ?_
      refine Rq ?_
      refine R_q rfl (by simp (disch := omega) only [go_sem, ↓reduceIte, Nat.reduceEqDiff, reduceCtorEq, q4, q5, q7] <;> rfl) ?_
      refine Rq ?_
      refine Rq ?_
      refine A_store ty3 (by simp (disch := omega) only [go_sem, ↓reduceIte, Nat.reduceEqDiff, reduceCtorEq, q4, q5, q7] <;> rfl) (by simp (disch := omega) only [go_sem, ↓reduceIte, Nat.reduceEqDiff, reduceCtorEq, q4, q5, q7] <;> rfl) q5 ⟨by omega, rfl, by simp⟩ (k' := _) (by rw [setL_one] <;> rfl) ?_
      intro H2 w2
      have q4 := (w2.old _ (by omega)).trans q4
      have q7 := (w2.old _ (by omega)).trans q7
      have q5 := w2.new
      simp only [List.set_cons_succ, List.set_cons_zero] at q5
      have tr : ∀ a b c d e f g h i j k m n o p q r s t u v : AV, let l := lc_standing_ok a b c d e f g h i j k m n o p; trim ((94,v)::(93,u)::(92,t)::(91,s)::(90,r)::(89,q)::l) l = [(0,a),(1,b),(4,c),(5,d),(7,e),(10,f),(11,g),(12,h),(13,i),(19,j),(40,k),(48,m),(54,n),(59,o),(65,p)] := by intros; rfl
      refine R_nil (tr ..) ?_; clear tr
      refine blk_n ?_
      refine then_n ?_
      refine rg rfl ?_
      refine Rq ?_
      refine Rq ?_
      have tr : ∀ a b c d e f g h i j k m n o p q r : AV, let l := lc_standing_ok a b c d e f g h i j k m n o p; trim ((12,r)::(95,q)::l) l = [(0,a),(1,b),(4,c),(5,d),(7,e),(10,f),(11,g),(12,r),(13,i),(19,j),(40,k),(48,m),(54,n),(59,o),(65,p)] := by intros; rfl
      refine R_nil (tr ..) ?_; clear tr
      refine then_n ?_
      exact ⟨_, _, ⟨u + 1, _, _, _, _, _, _, _, _, rfl, rfl, by exact q4, by (first | (rw [stdS_snoc l u (by omega), upS, if_pos (by assumption), cn_0 (by omega)]; exact q5) | (rw [stdS_snoc l u (by omega), upS, if_pos (by assumption), cn_w (by omega) (by omega)]; exact q5) | (rw [stdS_snoc l u (by omega), upS, if_pos (by assumption), cn_l (by omega) (by omega)]; exact q5) | (rw [stdS_snoc l u (by omega), upS, if_neg (by assumption), if_pos (by assumption), cn_0 (by omega)]; exact q5) | (rw [stdS_snoc l u (by omega), upS, if_neg (by assumption), if_pos (by assumption), cn_w (by omega) (by omega)]; exact q5) | (rw [stdS_snoc l u (by omega), upS, if_neg (by assumption), if_pos (by assumption), cn_l (by omega) (by omega)]; exact q5) | (rw [stdS_snoc l u (by omega), upS, if_neg (by assumption), if_neg (by assumption)]; exact q5) | (exfalso; omega)), by omega⟩, by rfl, by omega⟩
     ·
      try simp only [decide_eq_true_eq, decide_eq_false_iff_not, decide_eq_decide, Bool.not_eq_true', Bool.not_eq_false', beq_iff_eq, beq_eq_false_iff_ne, ne_eq, Bool.and_eq_true, Bool.and_eq_false_iff, decide_not] at h8
      refine at_seq rfl ?_
      refine rg rfl ?_
      refine Rq ?_
      refine Rq ?_
      have tr : ∀ a b c d e f g h i j k m n o p q r : AV, let l := lc_standing_ok a b c d e f g h i j k m n o p; trim ((65,r)::(66,q)::l) l = [(0,a),(1,b),(4,c),(5,d),(7,e),(10,f),(11,g),(12,h),(13,i),(19,j),(40,k),(48,m),(54,n),(59,o),(65,r)] := by intros; rfl
      refine R_nil (tr ..) ?_; clear tr
      refine then_n ?_
      refine cdd (fun h9 => ?_) (fun h9 => ?_)
      ·
       try simp only [decide_eq_true_eq, decide_eq_false_iff_not, decide_eq_decide, Bool.not_eq_true', Bool.not_eq_false', beq_iff_eq, beq_eq_false_iff_ne, ne_eq, Bool.and_eq_true, Bool.and_eq_false_iff, decide_not] at h9
       refine rg rfl ?_
       refine Rq ?_
       refine R_q rfl (by simp (disch := omega) only [go_sem, ↓reduceIte, Nat.reduceEqDiff, reduceCtorEq, q4, q5, q7] <;> rfl) ?_
       refine Rq ?_
       refine Rq ?_
       refine A_store ty3 (by simp (disch := omega) only [go_sem, ↓reduceIte, Nat.reduceEqDiff, reduceCtorEq, q4, q5, q7] <;> rfl) (by simp (disch := omega) only [go_sem, ↓reduceIte, Nat.reduceEqDiff, reduceCtorEq, q4, q5, q7] <;> rfl) q5 ⟨by omega, rfl, by simp⟩ (k' := _) (by rw [setL_one] <;> rfl) ?_
       intro H2 w2
       have q4 := (w2.old _ (by omega)).trans q4
       have q7 := (w2.old _ (by omega)).trans q7
       have q5 := w2.new
       simp only [List.set_cons_succ, List.set_cons_zero] at q5
       have tr : ∀ a b c d e f g h i j k m n o p q r s t : AV, let l := lc_standing_ok a b c d e f g h i j k m n o p; trim ((70,t)::(69,s)::(68,r)::(67,q)::l) l = [(0,a),(1,b),(4,c),(5,d),(7,e),(10,f),(11,g),(12,h),(13,i),(19,j),(40,k),(48,m),(54,n),(59,o),(65,p)] := by intros; rfl
       refine R_nil (tr ..) ?_; clear tr
       refine blk_n ?_
       refine then_n ?_
       refine at_seq rfl ?_
       refine rg rfl ?_
       refine Rq ?_
       refine R_q rfl (by simp (disch := omega) only [go_sem, ↓reduceIte, Nat.reduceEqDiff, reduceCtorEq, q4, q5, q7] <;> rfl) ?_
       refine Rq ?_
       refine R_q rfl (by simp (disch := omega) only [go_sem, ↓reduceIte, Nat.reduceEqDiff, reduceCtorEq, q4, q5, q7] <;> rfl) ?_
       refine Rq ?_
       refine Rq ?_
       refine A_store ty3 (by simp (disch := omega) only [go_sem, ↓reduceIte, Nat.reduceEqDiff, reduceCtorEq, q4, q5, q7] <;> rfl) (by simp (disch := omega) only [go_sem, ↓reduceIte, Nat.reduceEqDiff, reduceCtorEq, q4, q5, q7] <;> rfl) q5 ⟨by omega, rfl, by simp⟩ (k' := _) (by rw [setL_one] <;> rfl) ?_
       intro H2 w2
       have q4 := (w2.old _ (by omega)).trans q4
       have q7 := (w2.old _ (by omega)).trans q7
       have q5 := w2.new
       simp only [List.set_cons_succ, List.set_cons_zero] at q5
       have tr : ∀ a b c d e f g h i j k m n o p q r s t u v : AV, let l := lc_standing_ok a b c d e f g h i j k m n o p; trim ((76,v)::(75,u)::(74,t)::(73,s)::(72,r)::(71,q)::l) l = [(0,a),(1,b),(4,c),(5,d),(7,e),(10,f),(11,g),(12,h),(13,i),(19,j),(40,k),(48,m),(54,n),(59,o),(65,p)] := by intros; rfl
       refine R_nil (tr ..) ?_; clear tr
       refine then_n ?_
       refine at_seq rfl ?_
       refine rg rfl ?_
       refine Rq ?_
       refine R_q rfl (by simp (disch := omega) only [go_sem, ↓reduceIte, Nat.reduceEqDiff, reduceCtorEq, q4, q5, q7] <;> rfl) ?_
       refine Rq ?_
       refine R_q rfl (by simp (disch := omega) only [go_sem, ↓reduceIte, Nat.reduceEqDiff, reduceCtorEq, q4, q5, q7] <;> rfl) ?_
       refine Rq ?_
       refine Rq ?_
       refine A_store ty3 (by simp (disch := omega) only [go_sem, ↓reduceIte, Nat.reduceEqDiff, reduceCtorEq, q4, q5, q7] <;> rfl) (by simp (disch := omega) only [go_sem, ↓reduceIte, Nat.reduceEqDiff, reduceCtorEq, q4, q5, q7] <;> rfl) q5 ⟨by omega, rfl, by simp⟩ (k' := _) (by rw [setL_one] <;> rfl) ?_
       intro H2 w2
       have q4 := (w2.old _ (by omega)).trans q4
       have q7 := (w2.old _ (by omega)).trans q7
       have q5 := w2.new
       simp only [List.set_cons_succ, List.set_cons_zero] at q5
       have tr : ∀ a b c d e f g h i j k m n o p q r s t u v : AV, let l := lc_standing_ok a b c d e f g h i j k m n o p; trim ((82,v)::(81,u)::(80,t)::(79,s)::(78,r)::(77,q)::l) l = [(0,a),(1,b),(4,c),(5,d),(7,e),(10,f),(11,g),(12,h),(13,i),(19,j),(40,k),(48,m),(54,n),(59,o),(65,p)] := by intros; rfl
       refine R_nil (tr ..) ?_; clear tr
       refine then_n ?_
       refine at_seq rfl ?_
       refine rg rfl ?_
       refine Rq ?_
       refine R_q rfl (by simp (disch := omega) only [go_sem, ↓reduceIte, Nat.reduceEqDiff, reduceCtorEq, q4, q5, q7] <;> rfl) ?_
       refine Rq ?_
       refine R_q rfl (by simp (disch := omega) only [go_sem, ↓reduceIte, Nat.reduceEqDiff, reduceCtorEq, q4, q5, q7] <;> rfl) ?_
       refine Rq ?_
       refine Rq ?_
       refine A_store ty3 (by simp (disch := omega) only [go_sem, ↓reduceIte, Nat.reduceEqDiff, reduceCtorEq, q4, q5, q7] <;> rfl) (by simp (disch := omega) only [go_sem, ↓reduceIte, Nat.reduceEqDiff, reduceCtorEq, q4, q5, q7] <;> rfl) q5 ⟨by omega, rfl, by simp⟩ (k' := _) (by rw [setL_one] <;> rfl) ?_
       intro H2 w2
       have q4 := (w2.old _ (by omega)).trans q4
       have q7 := (w2.old _ (by omega)).trans q7
       have q5 := w2.new
       simp only [List.set_cons_succ, List.set_cons_zero] at q5
       have tr : ∀ a b c d e f g h i j k m n o p q r s t u v : AV, let l := lc_standing_ok a b c d e f g h i j k m n o p; trim ((88,v)::(87,u)::(86,t)::(85,s)::(84,r)::(83,q)::l) l = [(0,a),(1,b),(4,c),(5,d),(7,e),(10,f),(11,g),(12,h),(13,i),(19,j),(40,k),(48,m),(54,n),(59,o),(65,p)] := by intros; rfl
       refine R_nil (tr ..) ?_; clear tr
       refine then_n ?_
       refine rg rfl ?_
       refine Rq ?_
       refine R_q rfl (by simp (disch := omega) only [go_sem, ↓reduceIte, Nat.reduceEqDiff, reduceCtorEq, q4, q5, q7] <;> rfl) ?_
       refine Rq ?_
       refine R_q rfl (by simp (disch := omega) only [go_sem, ↓reduceIte, Nat.reduceEqDiff, reduceCtorEq, q4, q5, q7] <;> rfl) ?_
       refine Rq ?_
       refine Rq ?_
       refine A_store ty3 (by simp (disch := omega) only [go_sem, ↓reduceIte, Nat.reduceEqDiff, reduceCtorEq, q4, q5, q7] <;> rfl) (by simp (disch := omega) only [go_sem, ↓reduceIte, Nat.reduceEqDiff, reduceCtorEq, q4, q5, q7] <;> rfl) q5 ⟨by omega, rfl, by simp⟩ (k' := _) (by rw [setL_one] <;> rfl) ?_
       intro H2 w2
       have q4 := (w2.old _ (by omega)).trans q4
       have q7 := (w2.old _ (by omega)).trans q7
       have q5 := w2.new
       simp only [List.set_cons_succ, List.set_cons_zero] at q5
       have tr : ∀ a b c d e f g h i j k m n o p q r s t u v : AV, let l := lc_standing_ok a b c d e f g h i j k m n o p; trim ((94,v)::(93,u)::(92,t)::(91,s)::(90,r)::(89,q)::l) l = [(0,a),(1,b),(4,c),(5,d),(7,e),(10,f),(11,g),(12,h),(13,i),(19,j),(40,k),(48,m),(54,n),(59,o),(65,p)] := by intros; rfl
       refine R_nil (tr ..) ?_; clear tr
       refine blk_n ?_
       refine then_n ?_
       refine rg rfl ?_
       refine Rq ?_
       refine Rq ?_
       have tr : ∀ a b c d e f g h i j k m n o p q r : AV, let l := lc_standing_ok a b c d e f g h i j k m n o p; trim ((12,r)::(95,q)::l) l = [(0,a),(1,b),(4,c),(5,d),(7,e),(10,f),(11,g),(12,r),(13,i),(19,j),(40,k),(48,m),(54,n),(59,o),(65,p)] := by intros; rfl
       refine R_nil (tr ..) ?_; clear tr
       refine then_n ?_
       exact ⟨_, _, ⟨u + 1, _, _, _, _, _, _, _, _, rfl, rfl, by exact q4, by (first | (rw [stdS_snoc l u (by omega), upS, if_pos (by assumption), cn_0 (by omega)]; exact q5) | (rw [stdS_snoc l u (by omega), upS, if_pos (by assumption), cn_w (by omega) (by omega)]; exact q5) | (rw [stdS_snoc l u (by omega), upS, if_pos (by assumption), cn_l (by omega) (by omega)]; exact q5) | (rw [stdS_snoc l u (by omega), upS, if_neg (by assumption), if_pos (by assumption), cn_0 (by omega)]; exact q5) | (rw [stdS_snoc l u (by omega), upS, if_neg (by assumption), if_pos (by assumption), cn_w (by omega) (by omega)]; exact q5) | (rw [stdS_snoc l u (by omega), upS, if_neg (by assumption), if_pos (by assumption), cn_l (by omega) (by omega)]; exact q5) | (rw [stdS_snoc l u (by omega), upS, if_neg (by assumption), if_neg (by assumption)]; exact q5) | (exfalso; omega)), by omega⟩, by rfl, by omega⟩
      ·
       try simp only [decide_eq_true_eq, decide_eq_false_iff_not, decide_eq_decide, Bool.not_eq_true', Bool.not_eq_false', beq_iff_eq, beq_eq_false_iff_ne, ne_eq, Bool.and_eq_true, Bool.and_eq_false_iff, decide_not] at h9
       refine rg rfl ?_
       refine Rq ?_
       refine R_q rfl (by simp (disch := omega) only [go_sem, ↓reduceIte, Nat.reduceEqDiff, reduceCtorEq, q4, q5, q7] <;> rfl) ?_
       refine Rq ?_
       refine Rq ?_
       refine A_store ty3 (by simp (disch := omega) only [go_sem, ↓reduceIte, Nat.reduceEqDiff, reduceCtorEq, q4, q5, q7] <;> rfl) (by simp (disch := omega) only [go_sem, ↓reduceIte, Nat.reduceEqDiff, reduceCtorEq, q4, q5, q7] <;> rfl) q5 ⟨by omega, rfl, by simp⟩ (k' := _) (by rw [setL_one] <;> rfl) ?_
       intro H2 w2
       have q4 := (w2.old _ (by omega)).trans q4
       have q7 := (w2.old _ (by omega)).trans q7
       have q5 := w2.new
       simp only [List.set_cons_succ, List.set_cons_zero] at q5
       have tr : ∀ a b c d e f g h i j k m n o p q r s t : AV, let l := lc_standing_ok a b c d e f g h i j k m n o p; trim ((58,t)::(57,s)::(56,r)::(55,q)::l) l = [(0,a),(1,b),(4,c),(5,d),(7,e),(10,f),(11,g),(12,h),(13,i),(19,j),(40,k),(48,m),(54,n),(59,o),(65,p)] := by intros; rfl
       refine R_nil (tr ..) ?_; clear tr
       refine blk_n ?_
       refine then_n ?_
       refine at_seq rfl ?_
       refine rg rfl ?_
       refine Rq ?_
       refine R_q rfl (by simp (disch := omega) only [go_sem, ↓reduceIte, Nat.reduceEqDiff, reduceCtorEq, q4, q5, q7] <;> rfl) ?_
       refine Rq ?_
       refine R_q rfl (by simp (disch := omega) only [go_sem, ↓reduceIte, Nat.reduceEqDiff, reduceCtorEq, q4, q5, q7] <;> rfl) ?_
       refine Rq ?_
       refine Rq ?_
       refine A_store ty3 (by simp (disch := omega) only [go_sem, ↓reduceIte, Nat.reduceEqDiff, reduceCtorEq, q4, q5, q7] <;> rfl) (by simp (disch := omega) only [go_sem, ↓reduceIte, Nat.reduceEqDiff, reduceCtorEq, q4, q5, q7] <;> rfl) q5 ⟨by omega, rfl, by simp⟩ (k' := _) (by rw [setL_one] <;> rfl) ?_
       intro H2 w2
       have q4 := (w2.old _ (by omega)).trans q4
       have q7 := (w2.old _ (by omega)).trans q7
       have q5 := w2.new
       simp only [List.set_cons_succ, List.set_cons_zero] at q5
       have tr : ∀ a b c d e f g h i j k m n o p q r s t u v : AV, let l := lc_standing_ok a b c d e f g h i j k m n o p; trim ((76,v)::(75,u)::(74,t)::(73,s)::(72,r)::(71,q)::l) l = [(0,a),(1,b),(4,c),(5,d),(7,e),(10,f),(11,g),(12,h),(13,i),(19,j),(40,k),(48,m),(54,n),(59,o),(65,p)] := by intros; rfl
       refine R_nil (tr ..) ?_; clear tr
       refine then_n ?_
       refine at_seq rfl ?_
       refine rg rfl ?_
       refine Rq ?_
       refine R_q rfl (by simp (disch := omega) only [go_sem, ↓reduceIte, Nat.reduceEqDiff, reduceCtorEq, q4, q5, q7] <;> rfl) ?_
       refine Rq ?_
       refine R_q rfl (by simp (disch := omega) only [go_sem, ↓reduceIte, Nat.reduceEqDiff, reduceCtorEq, q4, q5, q7] <;> rfl) ?_
       refine Rq ?_
       refine Rq ?_
       refine A_store ty3 (by simp (disch := omega) only [go_sem, ↓reduceIte, Nat.reduceEqDiff, reduceCtorEq, q4, q5, q7] <;> rfl) (by simp (disch := omega) only [go_sem, ↓reduceIte, Nat.reduceEqDiff, reduceCtorEq, q4, q5, q7] <;> rfl) q5 ⟨by omega, rfl, by simp⟩ (k' := _) (by rw [setL_one] <;> rfl) ?_
       intro H2 w2
       have q4 := (w2.old _ (by omega)).trans q4
       have q7 := (w2.old _ (by omega)).trans q7
       have q5 := w2.new
       simp only [List.set_cons_succ, List.set_cons_zero] at q5
       have tr : ∀ a b c d e f g h i j k m n o p q r s t u v : AV, let l := lc_standing_ok a b c d e f g h i j k m n o p; trim ((82,v)::(81,u)::(80,t)::(79,s)::(78,r)::(77,q)::l) l = [(0,a),(1,b),(4,c),(5,d),(7,e),(10,f),(11,g),(12,h),(13,i),(19,j),(40,k),(48,m),(54,n),(59,o),(65,p)] := by intros; rfl
       refine R_nil (tr ..) ?_; clear tr
       refine then_n ?_
       refine at_seq rfl ?_
       refine rg rfl ?_
       refine Rq ?_
       refine R_q rfl (by simp (disch := omega) only [go_sem, ↓reduceIte, Nat.reduceEqDiff, reduceCtorEq, q4, q5, q7] <;> rfl) ?_
       refine Rq ?_
       refine R_q rfl (by simp (disch := omega) only [go_sem, ↓reduceIte, Nat.reduceEqDiff, reduceCtorEq, q4, q5, q7] <;> rfl) ?_
       refine Rq ?_
       refine Rq ?_
       refine A_store ty3 (by simp (disch := omega) only [go_sem, ↓reduceIte, Nat.reduceEqDiff, reduceCtorEq, q4, q5, q7] <;> rfl) (by simp (disch := omega) only [go_sem, ↓reduceIte, Nat.reduceEqDiff, reduceCtorEq, q4, q5, q7] <;> rfl) q5 ⟨by omega, rfl, by simp⟩ (k' := _) (by rw [setL_one] <;> rfl) ?_
       intro H2 w2
       have q4 := (w2.old _ (by omega)).trans q4
       have q7 := (w2.old _ (by omega)).trans q7
       have q5 := w2.new
       simp only [List.set_cons_succ, List.set_cons_zero] at q5
       have tr : ∀ a b c d e f g h i j k m n o p q r s t u v : AV, let l := lc_standing_ok a b c d e f g h i j k m n o p; trim ((88,v)::(87,u)::(86,t)::(85,s)::(84,r)::(83,q)::l) l = [(0,a),(1,b),(4,c),(5,d),(7,e),(10,f),(11,g),(12,h),(13,i),(19,j),(40,k),(48,m),(54,n),(59,o),(65,p)] := by intros; rfl
       refine R_nil (tr ..) ?_; clear tr
       refine then_n ?_
       refine rg rfl ?_
       refine Rq ?_
       refine R_q rfl (by simp (disch := omega) only [go_sem, ↓reduceIte, Nat.reduceEqDiff, reduceCtorEq, q4, q5, q7] <;> rfl) ?_
       refine Rq ?_
       refine R_q rfl (by simp (disch := omega) only [go_sem, ↓reduceIte, Nat.reduceEqDiff, reduceCtorEq, q4, q5, q7] <;> rfl) ?_
       refine Rq ?_
       refine Rq ?_
       refine A_store ty3 (by simp (disch := omega) only [go_sem, ↓reduceIte, Nat.reduceEqDiff, reduceCtorEq, q4, q5, q7] <;> rfl) (by simp (disch := omega) only [go_sem, ↓reduceIte, Nat.reduceEqDiff, reduceCtorEq, q4, q5, q7] <;> rfl) q5 ⟨by omega, rfl, by simp⟩ (k' := _) (by rw [setL_one] <;> rfl) ?_
       intro H2 w2
       have q4 := (w2.old _ (by omega)).trans q4
       have q7 := (w2.old _ (by omega)).trans q7
       have q5 := w2.new
       simp only [List.set_cons_succ, List.set_cons_zero] at q5
       have tr : ∀ a b c d e f g h i j k m n o p q r s t u v : AV, let l := lc_standing_ok a b c d e f g h i j k m n o p; trim ((94,v)::(93,u)::(92,t)::(91,s)::(90,r)::(89,q)::l) l = [(0,a),(1,b),(4,c),(5,d),(7,e),(10,f),(11,g),(12,h),(13,i),(19,j),(40,k),(48,m),(54,n),(59,o),(65,p)] := by intros; rfl
       refine R_nil (tr ..) ?_; clear tr
       refine blk_n ?_
       refine then_n ?_
       refine rg rfl ?_
       refine Rq ?_
       refine Rq ?_
       have tr : ∀ a b c d e f g h i j k m n o p q r : AV, let l := lc_standing_ok a b c d e f g h i j k m n o p; trim ((12,r)::(95,q)::l) l = [(0,a),(1,b),(4,c),(5,d),(7,e),(10,f),(11,g),(12,r),(13,i),(19,j),(40,k),(48,m),(54,n),(59,o),(65,p)] := by intros; rfl
       refine R_nil (tr ..) ?_; clear tr
       refine then_n ?_
       exact ⟨_, _, ⟨u + 1, _, _, _, _, _, _, _, _, rfl, rfl, by exact q4, by (first | (rw [stdS_snoc l u (by omega), upS, if_pos (by assumption), cn_0 (by omega)]; exact q5) | (rw [stdS_snoc l u (by omega), upS, if_pos (by assumption), cn_w (by omega) (by omega)]; exact q5) | (rw [stdS_snoc l u (by omega), upS, if_pos (by assumption), cn_l (by omega) (by omega)]; exact q5) | (rw [stdS_snoc l u (by omega), upS, if_neg (by assumption), if_pos (by assumption), cn_0 (by omega)]; exact q5) | (rw [stdS_snoc l u (by omega), upS, if_neg (by assumption), if_pos (by assumption), cn_w (by omega) (by omega)]; exact q5) | (rw [stdS_snoc l u (by omega), upS, if_neg (by assumption), if_pos (by assumption), cn_l (by omega) (by omega)]; exact q5) | (rw [stdS_snoc l u (by omega), upS, if_neg (by assumption), if_neg (by assumption)]; exact q5) | (exfalso; omega)), by omega⟩, by rfl, by omega⟩
  ·
   try simp only [decide_eq_true_eq, decide_eq_false_iff_not, decide_eq_decide, Bool.not_eq_true', Bool.not_eq_false', beq_iff_eq, beq_eq_false_iff_ne, ne_eq, Bool.and_eq_true, Bool.and_eq_false_iff, decide_not] at h2
   refine at_skip rfl ?_
   refine then_n ?_
   refine at_seq rfl ?_
   refine at_seq rfl ?_
   refine rg rfl ?_
   refine Rq ?_
   refine R_q rfl (by simp (disch := omega) only [go_sem, ↓reduceIte, Nat.reduceEqDiff, reduceCtorEq, q4, q5, q7] <;> rfl) ?_
   refine Rq ?_
   refine Rq ?_
   have tr : ∀ a b c d e f g h i j k m n o p q r s t : AV, let l := lc_standing_ok a b c d e f g h i j k m n o p; trim ((48,t)::(47,s)::(46,r)::(45,q)::l) l = [(0,a),(1,b),(4,c),(5,d),(7,e),(10,f),(11,g),(12,h),(13,i),(19,j),(40,k),(48,t),(54,n),(59,o),(65,p)] := by intros; rfl
   refine R_nil (tr ..) ?_; clear tr
   refine then_n ?_
   refine cdd (fun h10 => ?_) (fun h10 => ?_)
   ·
    try simp only [decide_eq_true_eq, decide_eq_false_iff_not, decide_eq_decide, Bool.not_eq_true', Bool.not_eq_false', beq_iff_eq, beq_eq_false_iff_ne, ne_eq, Bool.and_eq_true, Bool.and_eq_false_iff, decide_not] at h10
    refine at_exit rfl ?_
    refine then_x ?_
    refine blk_x ?_
    refine then_n ?_
    refine rg rfl ?_
    refine Rq ?_
    refine Rq ?_
    have tr : ∀ a b c d e f g h i j k m n o p q r : AV, let l := lc_standing_ok a b c d e f g h i j k m n o p; trim ((12,r)::(95,q)::l) l = [(0,a),(1,b),(4,c),(5,d),(7,e),(10,f),(11,g),(12,r),(13,i),(19,j),(40,k),(48,m),(54,n),(59,o),(65,p)] := by intros; rfl
    refine R_nil (tr ..) ?_; clear tr
    refine then_n ?_
    exact ⟨_, _, ⟨u + 1, _, _, _, _, _, _, _, _, rfl, rfl, by exact q4, by (first | (rw [stdS_snoc l u (by omega), upS, if_pos (by assumption), cn_0 (by omega)]; exact q5) | (rw [stdS_snoc l u (by omega), upS, if_pos (by assumption), cn_w (by omega) (by omega)]; exact q5) | (rw [stdS_snoc l u (by omega), upS, if_pos (by assumption), cn_l (by omega) (by omega)]; exact q5) | (rw [stdS_snoc l u (by omega), upS, if_neg (by assumption), if_pos (by assumption), cn_0 (by omega)]; exact q5) | (rw [stdS_snoc l u (by omega), upS, if_neg (by assumption), if_pos (by assumption), cn_w (by omega) (by omega)]; exact q5) | (rw [stdS_snoc l u (by omega), upS, if_neg (by assumption), if_pos (by assumption), cn_l (by omega) (by omega)]; exact q5) | (rw [stdS_snoc l u (by omega), upS, if_neg (by assumption), if_neg (by assumption)]; exact q5) | (exfalso; omega)), by omega⟩, by rfl, by omega⟩
   ·
    try simp only [decide_eq_true_eq, decide_eq_false_iff_not, decide_eq_decide, Bool.not_eq_true', Bool.not_eq_false', beq_iff_eq, beq_eq_false_iff_ne, ne_eq, Bool.and_eq_true, Bool.and_eq_false_iff, decide_not] at h10
    refine at_skip rfl ?_
    refine then_n ?_
    refine at_seq rfl ?_
    refine rg rfl ?_
    refine Rq ?_
    refine R_q rfl (by simp (disch := omega) only [go_sem, ↓reduceIte, Nat.reduceEqDiff, reduceCtorEq, q4, q5, q7] <;> rfl) ?_
    refine Rq ?_
    refine Rq ?_
    refine A_store ty3 (by simp (disch := omega) only [go_sem, ↓reduceIte, Nat.reduceEqDiff, reduceCtorEq, q4, q5, q7] <;> rfl) (by simp (disch := omega) only [go_sem, ↓reduceIte, Nat.reduceEqDiff, reduceCtorEq, q4, q5, q7] <;> rfl) q5 ⟨by omega, rfl, by simp⟩ (k' := _) (by rw [setL_one] <;> rfl) ?_
    intro H2 w2
    have q4 := (w2.old _ (by omega)).trans q4
    have q7 := (w2.old _ (by omega)).trans q7
    have q5 := w2.new
    simp only [List.set_cons_succ, List.set_cons_zero] at q5
    have tr : ∀ a b c d e f g h i j k m n o p q r s t : AV, let l := lc_standing_ok a b c d e f g h i j k m n o p; trim ((52,t)::(51,s)::(50,r)::(49,q)::l) l = [(0,a),(1,b),(4,c),(5,d),(7,e),(10,f),(11,g),(12,h),(13,i),(19,j),(40,k),(48,m),(54,n),(59,o),(65,p)] := by intros; rfl
    refine R_nil (tr ..) ?_; clear tr
    refine then_n ?_
    refine at_seq rfl ?_
    refine at_seq rfl ?_
    refine rg rfl ?_
    refine Rq ?_
    refine R_q rfl (by simp (disch := omega) only [go_sem, ↓reduceIte, Nat.reduceEqDiff, reduceCtorEq, q4, q5, q7] <;> rfl) ?_
    have tr : ∀ a b c d e f g h i j k m n o p q r : AV, let l := lc_standing_ok a b c d e f g h i j k m n o p; trim ((54,r)::(53,q)::l) l = [(0,a),(1,b),(4,c),(5,d),(7,e),(10,f),(11,g),(12,h),(13,i),(19,j),(40,k),(48,m),(54,r),(59,o),(65,p)] := by intros; rfl
    refine R_nil (tr ..) ?_; clear tr
    refine then_n ?_
    refine at_block rfl ?_
    refine at_seq rfl ?_
    refine rg rfl ?_
    refine Rq ?_
    refine Rq ?_
    have tr : ∀ a b c d e f g h i j k m n o p q r : AV, let l := lc_standing_ok a b c d e f g h i j k m n o p; trim ((59,r)::(60,q)::l) l = [(0,a),(1,b),(4,c),(5,d),(7,e),(10,f),(11,g),(12,h),(13,i),(19,j),(40,k),(48,m),(54,n),(59,r),(65,p)] := by intros; rfl
    refine R_nil (tr ..) ?_; clear tr
    refine then_n ?_
    refine cdd (fun h11 => ?_) (fun h11 => ?_)
    ·
     try simp only [decide_eq_true_eq, decide_eq_false_iff_not, decide_eq_decide, Bool.not_eq_true', Bool.not_eq_false', beq_iff_eq, beq_eq_false_iff_ne, ne_eq, Bool.and_eq_true, Bool.and_eq_false_iff, decide_not] at h11
     refine rg rfl ?_
     refine Rq ?_
     refine R_q rfl (by simp (disch := omega) only [go_sem, ↓reduceIte, Nat.reduceEqDiff, reduceCtorEq, q4, q5, q7] <;> rfl) ?_
     refine Rq ?_
     refine Rq ?_
     refine A_store ty3 (by simp (disch := omega) only [go_sem, ↓reduceIte, Nat.reduceEqDiff, reduceCtorEq, q4, q5, q7] <;> rfl) (by simp (disch := omega) only [go_sem, ↓reduceIte, Nat.reduceEqDiff, reduceCtorEq, q4, q5, q7] <;> rfl) q5 ⟨by omega, rfl, by simp⟩ (k' := _) (by rw [setL_one] <;> rfl) ?_
     intro H2 w2
     have q4 := (w2.old _ (by omega)).trans q4
     have q7 := (w2.old _ (by omega)).trans q7
     have q5 := w2.new
     simp only [List.set_cons_succ, List.set_cons_zero] at q5
     have tr : ∀ a b c d e f g h i j k m n o p q r s t : AV, let l := lc_standing_ok a b c d e f g h i j k m n o p; trim ((64,t)::(63,s)::(62,r)::(61,q)::l) l = [(0,a),(1,b),(4,c),(5,d),(7,e),(10,f),(11,g),(12,h),(13,i),(19,j),(40,k),(48,m),(54,n),(59,o),(65,p)] := by intros; rfl
     refine R_nil (tr ..) ?_; clear tr
     refine blk_n ?_
     refine then_n ?_
     refine at_seq rfl ?_
     refine rg rfl ?_
     refine Rq ?_
     refine R_q rfl (by simp (disch := omega) only [go_sem, ↓reduceIte, Nat.reduceEqDiff, reduceCtorEq, q4, q5, q7] <;> rfl) ?_
     refine Rq ?_
     refine R_q rfl (by simp (disch := omega) only [go_sem, ↓reduceIte, Nat.reduceEqDiff, reduceCtorEq, q4, q5, q7] <;> rfl) ?_
     refine Rq ?_
     refine Rq ?_
     refine A_store ty3 (by simp (disch := omega) only [go_sem, ↓reduceIte, Nat.reduceEqDiff, reduceCtorEq, q4, q5, q7] <;> rfl) (by simp (disch := omega) only [go_sem, ↓reduceIte, Nat.reduceEqDiff, reduceCtorEq, q4, q5, q7] <;> rfl) q5 ⟨by omega, rfl, by simp⟩ (k' := _) (by rw [setL_one] <;> rfl) ?_
     intro H2 w2
     have q4 := (w2.old _ (by omega)).trans q4
     have q7 := (w2.old _ (by omega)).trans q7
     have q5 := w2.new
     simp only [List.set_cons_succ, List.set_cons_zero] at q5
     have tr : ∀ a b c d e f g h i j k m n o p q r s t u v : AV, let l := lc_standing_ok a b c d e f g h i j k m n o p; trim ((76,v)::(75,u)::(74,t)::(73,s)::(72,r)::(71,q)::l) l = [(0,a),(1,b),(4,c),(5,d),(7,e),(10,f),(11,g),(12,h),(13,i),(19,j),(40,k),(48,m),(54,n),(59,o),(65,p)] := by intros; rfl
     refine R_nil (tr ..) ?_; clear tr
     refine then_n ?_
     refine at_seq rfl ?_
     refine rg rfl ?_
     refine Rq ?_
     refine R_q rfl (by simp (disch := omega) only [go_sem, ↓reduceIte, Nat.reduceEqDiff, reduceCtorEq, q4, q5, q7] <;> rfl) ?_
     refine Rq ?_
     refine R_q rfl (by simp (disch := omega) only [go_sem, ↓reduceIte, Nat.reduceEqDiff, reduceCtorEq, q4, q5, q7] <;> rfl) ?_
     refine Rq ?_
     refine Rq ?_
     refine A_store ty3 (by simp (disch := omega) only [go_sem, ↓reduceIte, Nat.reduceEqDiff, reduceCtorEq, q4, q5, q7] <;> rfl) (by simp (disch := omega) only [go_sem, ↓reduceIte, Nat.reduceEqDiff, reduceCtorEq, q4, q5, q7] <;> rfl) q5 ⟨by omega, rfl, by simp⟩ (k' := _) (by rw [setL_one] <;> rfl) ?_
     intro H2 w2
     have q4 := (w2.old _ (by omega)).trans q4
     have q7 := (w2.old _ (by omega)).trans q7
     have q5 := w2.new
     simp only [List.set_cons_succ, List.set_cons_zero] at q5
     have tr : ∀ a b c d e f g h i j k m n o p q r s t u v : AV, let l := lc_standing_ok a b c d e f g h i j k m n o p; trim ((82,v)::(81,u)::(80,t)::(79,s)::(78,r)::(77,q)::l) l = [(0,a),(1,b),(4,c),(5,d),(7,e),(10,f),(11,g),(12,h),(13,i),(19,j),(40,k),(48,m),(54,n),(59,o),(65,p)] := by intros; rfl
     refine R_nil (tr ..) ?_; clear tr
     refine then_n ?_
     refine at_seq rfl ?_
     refine rg rfl ?_
     refine Rq ?_
     refine R_q rfl (by simp (disch := omega) only [go_sem, ↓reduceIte, Nat.reduceEqDiff, reduceCtorEq, q4, q5, q7] <;> rfl) ?_
     refine Rq ?_
     refine R_q rfl (by simp (disch := omega) only [go_sem, ↓reduceIte, Nat.reduceEqDiff, reduceCtorEq, q4, q5, q7] <;> rfl) ?_
     refine Rq ?_
     refine Rq ?_
     refine A_store ty3 (by simp (disch := omega) only [go_sem, ↓reduceIte, Nat.reduceEqDiff, reduceCtorEq, q4, q5, q7] <;> rfl) (by simp (disch := omega) only [go_sem, ↓reduceIte, Nat.reduceEqDiff, reduceCtorEq, q4, q5, q7] <;> rfl) q5 ⟨by omega, rfl, by simp⟩ (k' := _) (by rw [setL_one] <;> rfl) ?_
     intro H2 w2
     have q4 := (w2.old _ (by omega)).trans q4
     have q7 := (w2.old _ (by omega)).trans q7
     have q5 := w2.new
     simp only [List.set_cons_succ, List.set_cons_zero] at q5
     have tr : ∀ a b c d e f g h i j k m n o p q r s t u v : AV, let l := lc_standing_ok a b c d e f g h i j k m n o p; trim ((88,v)::(87,u)::(86,t)::(85,s)::(84,r)::(83,q)::l) l = [(0,a),(1,b),(4,c),(5,d),(7,e),(10,f),(11,g),(12,h),(13,i),(19,j),(40,k),(48,m),(54,n),(59,o),(65,p)] := by intros; rfl
     refine R_nil (tr ..) ?_; clear tr
     refine then_n ?_
     refine rg rfl ?_
     refine Rq ?_
     refine R_q rfl (by simp (disch := omega) only [go_sem, ↓reduceIte, Nat.reduceEqDiff, reduceCtorEq, q4, q5, q7] <;> rfl) ?_
     refine Rq ?_
     refine R_q rfl (by simp (disch := omega) only [go_sem, ↓reduceIte, Nat.reduceEqDiff, reduceCtorEq, q4, q5, q7] <;> rfl) ?_
     refine Rq ?_
     refine Rq ?_
     refine A_store ty3 (by simp (disch := omega) only [go_sem, ↓reduceIte, Nat.reduceEqDiff, reduceCtorEq, q4, q5, q7] <;> rfl) (by simp (disch := omega) only [go_sem, ↓reduceIte, Nat.reduceEqDiff, reduceCtorEq, q4, q5, q7] <;> rfl) q5 ⟨by omega, rfl, by simp⟩ (k' := _) (by rw [setL_one] <;> rfl) ?_
     intro H2 w2
     have q4 := (w2.old _ (by omega)).trans q4
     have q7 := (w2.old _ (by omega)).trans q7
     have q5 := w2.new
     simp only [List.set_cons_succ, List.set_cons_zero] at q5
     have tr : ∀ a b c d e f g h i j k m n o p q r s t u v : AV, let l := lc_standing_ok a b c d e f g h i j k m n o p; trim ((94,v)::(93,u)::(92,t)::(91,s)::(90,r)::(89,q)::l) l = [(0,a),(1,b),(4,c),(5,d),(7,e),(10,f),(11,g),(12,h),(13,i),(19,j),(40,k),(48,m),(54,n),(59,o),(65,p)] := by intros; rfl
     refine R_nil (tr ..) ?_; clear tr
     refine blk_n ?_
     refine then_n ?_
     refine rg rfl ?_
     refine Rq ?_
     refine Rq ?_
     have tr : ∀ a b c d e f g h i j k m n o p q r : AV, let l := lc_standing_ok a b c d e f g h i j k m n o p; trim ((12,r)::(95,q)::l) l = [(0,a),(1,b),(4,c),(5,d),(7,e),(10,f),(11,g),(12,r),(13,i),(19,j),(40,k),(48,m),(54,n),(59,o),(65,p)] := by intros; rfl
     refine R_nil (tr ..) ?_; clear tr
     refine then_n ?_
     exact ⟨_, _, ⟨u + 1, _, _, _, _, _, _, _, _, rfl, rfl, by exact q4, by (first | (rw [stdS_snoc l u (by omega), upS, if_pos (by assumption), cn_0 (by omega)]; exact q5) | (rw [stdS_snoc l u (by omega), upS, if_pos (by assumption), cn_w (by omega) (by omega)]; exact q5) | (rw [stdS_snoc l u (by omega), upS, if_pos (by assumption), cn_l (by omega) (by omega)]; exact q5) | (rw [stdS_snoc l u (by omega), upS, if_neg (by assumption), if_pos (by assumption), cn_0 (by omega)]; exact q5) | (rw [stdS_snoc l u (by omega), upS, if_neg (by assumption), if_pos (by assumption), cn_w (by omega) (by omega)]; exact q5) | (rw [stdS_snoc l u (by omega), upS, if_neg (by assumption), if_pos (by assumption), cn_l (by omega) (by omega)]; exact q5) | (rw [stdS_snoc l u (by omega), upS, if_neg (by assumption), if_neg (by assumption)]; exact q5) | (exfalso; omega)), by omega⟩, by rfl, by omega⟩
    ·
     try simp only [decide_eq_true_eq, decide_eq_false_iff_not, decide_eq_decide, Bool.not_eq_true', Bool.not_eq_false', beq_iff_eq, beq_eq_false_iff_ne, ne_eq, Bool.and_eq_true, Bool.and_eq_false_iff, decide_not] at h11
     refine at_seq rfl ?_
     refine rg rfl ?_
     refine Rq ?_
     refine Rq ?_
     have tr : ∀ a b c d e f g h i j k m n o p q r : AV, let l := lc_standing_ok a b c d e f g h i j k m n o p; trim ((65,r)::(66,q)::l) l = [(0,a),(1,b),(4,c),(5,d),(7,e),(10,f),(11,g),(12,h),(13,i),(19,j),(40,k),(48,m),(54,n),(59,o),(65,r)] := by intros; rfl
     refine R_nil (tr ..) ?_; clear tr
     refine then_n ?_
     refine cdd (fun h12 => ?_) (fun h12 => ?_)
     ·
      try simp only [decide_eq_true_eq, decide_eq_false_iff_not, decide_eq_decide, Bool.not_eq_true', Bool.not_eq_false', beq_iff_eq, beq_eq_false_iff_ne, ne_eq, Bool.and_eq_true, Bool.and_eq_false_iff, decide_not] at h12
      refine rg rfl ?_
      refine Rq ?_
      refine R_q rfl (by simp (disch := omega) only [go_sem, ↓reduceIte, Nat.reduceEqDiff, reduceCtorEq, q4, q5, q7] <;> rfl) ?_
      refine Rq ?_
      refine Rq ?_
      refine A_store ty3 (by simp (disch := omega) only [go_sem, ↓reduceIte, Nat.reduceEqDiff, reduceCtorEq, q4, q5, q7] <;> rfl) (by simp (disch := omega) only [go_sem, ↓reduceIte, Nat.reduceEqDiff, reduceCtorEq, q4, q5, q7] <;> rfl) q5 ⟨by omega, rfl, by simp⟩ (k' := _) (by rw [setL_one] <;> rfl) ?_
      intro H2 w2
      have q4 := (w2.old _ (by omega)).trans q4
      have q7 := (w2.old _ (by omega)).trans q7
      have q5 := w2.new
      simp only [List.set_cons_succ, List.set_cons_zero] at q5
      have tr : ∀ a b c d e f g h i j k m n o p q r s t : AV, let l := lc_standing_ok a b c d e f g h i j k m n o p; trim ((70,t)::(69,s)::(68,r)::(67,q)::l) l = [(0,a),(1,b),(4,c),(5,d),(7,e),(10,f),(11,g),(12,h),(13,i),(19,j),(40,k),(48,m),(54,n),(59,o),(65,p)] := by intros; rfl
      refine R_nil (tr ..) ?_; clear tr
      refine blk_n ?_
      refine then_n ?_
      refine at_seq rfl ?_
      refine rg rfl ?_
      refine Rq ?_
      refine R_q rfl (by simp (disch := omega) only [go_sem, ↓reduceIte, Nat.reduceEqDiff, reduceCtorEq, q4, q5, q7] <;> rfl) ?_
      refine Rq ?_
      refine R_q rfl (by simp (disch := omega) only [go_sem, ↓reduceIte, Nat.reduceEqDiff, reduceCtorEq, q4, q5, q7] <;> rfl) ?_
      refine Rq ?_
      refine Rq ?_
      refine A_store ty3 (by simp (disch := omega) only [go_sem, ↓reduceIte, Nat.reduceEqDiff, reduceCtorEq, q4, q5, q7] <;> rfl) (by simp (disch := omega) only [go_sem, ↓reduceIte, Nat.reduceEqDiff, reduceCtorEq, q4, q5, q7] <;> rfl) q5 ⟨by omega, rfl, by simp⟩ (k' := _) (by rw [setL_one] <;> rfl) ?_
      intro H2 w2
      have q4 := (w2.old _ (by omega)).trans q4
      have q7 := (w2.old _ (by omega)).trans q7
      have q5 := w2.new
      simp only [List.set_cons_succ, List.set_cons_zero] at q5
      have tr : ∀ a b c d e f g h i j k m n o p q r s t u v : AV, let l := lc_standing_ok a b c d e f g h i j k m n o p; trim ((76,v)::(75,u)::(74,t)::(73,s)::(72,r)::(71,q)::l) l = [(0,a),(1,b),(4,c),(5,d),(7,e),(10,f),(11,g),(12,h),(13,i),(19,j),(40,k),(48,m),(54,n),(59,o),(65,p)] := by intros; rfl
      refine R_nil (tr ..) ?_; clear tr
      refine then_n ?_
      refine at_seq rfl ?_
      refine rg rfl ?_
      refine Rq ?_
      refine R_q rfl (by simp (disch := omega) only [go_sem, ↓reduceIte, Nat.reduceEqDiff, reduceCtorEq, q4, q5, q7] <;> rfl) ?_
      refine Rq ?_
      refine R_q rfl (by simp (disch := omega) only [go_sem, ↓reduceIte, Nat.reduceEqDiff, reduceCtorEq, q4, q5, q7] <;> rfl) ?_
      refine Rq ?_
      refine Rq ?_
      refine A_store ty3 (by simp (disch := omega) only [go_sem, ↓reduceIte, Nat.reduceEqDiff, reduceCtorEq, q4, q5, q7] <;> rfl) (by simp (disch := omega) only [go_sem, ↓reduceIte, Nat.reduceEqDiff, reduceCtorEq, q4, q5, q7] <;> rfl) q5 ⟨by omega, rfl, by simp⟩ (k' := _) (by rw [setL_one] <;> rfl) ?_
      intro H2 w2
      have q4 := (w2.old _ (by omega)).trans q4
      have q7 := (w2.old _ (by omega)).trans q7
      have q5 := w2.new
      simp only [List.set_cons_succ, List.set_cons_zero] at q5
      have tr : ∀ a b c d e f g h i j k m n o p q r s t u v : AV, let l := lc_standing_ok a b c d e f g h i j k m n o p; trim ((82,v)::(81,u)::(80,t)::(79,s)::(78,r)::(77,q)::l) l = [(0,a),(1,b),(4,c),(5,d),(7,e),(10,f),(11,g),(12,h),(13,i),(19,j),(40,k),(48,m),(54,n),(59,o),(65,p)] := by intros; rfl
      refine R_nil (tr ..) ?_; clear tr
      refine then_n ?_
      refine at_seq rfl ?_
      refine rg rfl ?_
      refine Rq ?_
      refine R_q rfl (by simp (disch := omega) only [go_sem, ↓reduceIte, Nat.reduceEqDiff, reduceCtorEq, q4, q5, q7] <;> rfl) ?_
      refine Rq ?_
      refine R_q rfl (by simp (disch := omega) only [go_sem, ↓reduceIte, Nat.reduceEqDiff, reduceCtorEq, q4, q5, q7] <;> rfl) ?_
      refine Rq ?_
      refine Rq ?_
      refine A_store ty3 (by simp (disch := omega) only [go_sem, ↓reduceIte, Nat.reduceEqDiff, reduceCtorEq, q4, q5, q7] <;> rfl) (by simp (disch := omega) only [go_sem, ↓reduceIte, Nat.reduceEqDiff, reduceCtorEq, q4, q5, q7] <;> rfl) q5 ⟨by omega, rfl, by simp⟩ (k' := _) (by rw [setL_one] <;> rfl) ?_
      intro H2 w2
      have q4 := (w2.old _ (by omega)).trans q4
      have q7 := (w2.old _ (by omega)).trans q7
      have q5 := w2.new
      simp only [List.set_cons_succ, List.set_cons_zero] at q5
      have tr : ∀ a b c d e f g h i j k m n o p q r s t u v : AV, let l := lc_standing_ok a b c d e f g h i j k m n o p; trim ((88,v)::(87,u)::(86,t)::(85,s)::(84,r)::(83,q)::l) l = [(0,a),(1,b),(4,c),(5,d),(7,e),(10,f),(11,g),(12,h),(13,i),(19,j),(40,k),(48,m),(54,n),(59,o),(65,p)] := by intros; rfl
      refine R_nil (tr ..) ?_; clear tr
      refine then_n ?_
      refine rg rfl ?_
      refine Rq ?_
      refine R_q rfl (by simp (disch := omega) only [go_sem, ↓reduceIte, Nat.reduceEqDiff, reduceCtorEq, q4, q5, q7] <;> rfl) ?_
      refine Rq ?_
      refine R_q rfl (by simp (disch := omega) only [go_sem, ↓reduceIte, Nat.reduceEqDiff, reduceCtorEq, q4, q5, q7] <;> rfl) ?_
      refine Rq ?_
      refine Rq ?_
      refine A_store ty3 (by simp (disch := omega) only [go_sem, ↓reduceIte, Nat.reduceEqDiff, reduceCtorEq, q4, q5, q7] <;> rfl) (by simp (disch := omega) only [go_sem, ↓reduceIte, Nat.reduceEqDiff, reduceCtorEq, q4, q5, q7] <;> rfl) q5 ⟨by omega, rfl, by simp⟩ (k' := _) (by rw [setL_one] <;> rfl) ?_
      intro H2 w2
      have q4 := (w2.old _ (by omega)).trans q4
      have q7 := (w2.old _ (by omega)).trans q7
      have q5 := w2.new
      simp only [List.set_cons_succ, List.set_cons_zero] at q5
      have tr : ∀ a b c d e f g h i j k m n o p q r s t u v : AV, let l := lc_standing_ok a b c d e f g h i j k m n o p; trim ((94,v)::(93,u)::(92,t)::(91,s)::(90,r)::(89,q)::l) l = [(0,a),(1,b),(4,c),(5,d),(7,e),(10,f),(11,g),(12,h),(13,i),(19,j),(40,k),(48,m),(54,n),(59,o),(65,p)] := by intros; rfl
      refine R_nil (tr ..) ?_; clear tr
      refine blk_n ?_
      refine then_n ?_
      refine rg rfl ?_
      refine Rq ?_
      refine Rq ?_
      have tr : ∀ a b c d e f g h i j k m n o p q r : AV, let l := lc_standing_ok a b c d e f g h i j k m n o p; trim ((12,r)::(95,q)::l) l = [(0,a),(1,b),(4,c),(5,d),(7,e),(10,f),(11,g),(12,r),(13,i),(19,j),(40,k),(48,m),(54,n),(59,o),(65,p)] := by intros; rfl
      refine R_nil (tr ..) ?_; clear tr
      refine then_n ?_
      exact ⟨_, _, ⟨u + 1, _, _, _, _, _, _, _, _, rfl, rfl, by exact q4, by (first | (rw [stdS_snoc l u (by omega), upS, if_pos (by assumption), cn_0 (by omega)]; exact q5) | (rw [stdS_snoc l u (by omega), upS, if_pos (by assumption), cn_w (by omega) (by omega)]; exact q5) | (rw [stdS_snoc l u (by omega), upS, if_pos (by assumption), cn_l (by omega) (by omega)]; exact q5) | (rw [stdS_snoc l u (by omega), upS, if_neg (by assumption), if_pos (by assumption), cn_0 (by omega)]; exact q5) | (rw [stdS_snoc l u (by omega), upS, if_neg (by assumption), if_pos (by assumption), cn_w (by omega) (by omega)]; exact q5) | (rw [stdS_snoc l u (by omega), upS, if_neg (by assumption), if_pos (by assumption), cn_l (by omega) (by omega)]; exact q5) | (rw [stdS_snoc l u (by omega), upS, if_neg (by assumption), if_neg (by assumption)]; exact q5) | (exfalso; omega)), by omega⟩, by rfl, by omega⟩
     ·
      try simp only [decide_eq_true_eq, decide_eq_false_iff_not, decide_eq_decide, Bool.not_eq_true', Bool.not_eq_false', beq_iff_eq, beq_eq_false_iff_ne, ne_eq, Bool.and_eq_true, Bool.and_eq_false_iff, decide_not] at h12
      refine rg rfl ?_
      refine Rq ?_
      refine R_q rfl (by simp (disch := omega) only [go_sem, ↓reduceIte, Nat.reduceEqDiff, reduceCtorEq, q4, q5, q7] <;> rfl) ?_
      refine Rq ?_
      refine Rq ?_
      refine A_store ty3 (by simp (disch := omega) only [go_sem, ↓reduceIte, Nat.reduceEqDiff, reduceCtorEq, q4, q5, q7] <;> rfl) (by simp (disch := omega) only [go_sem, ↓reduceIte, Nat.reduceEqDiff, reduceCtorEq, q4, q5, q7] <;> rfl) q5 ⟨by omega, rfl, by simp⟩ (k' := _) (by rw [setL_one] <;> rfl) ?_
      intro H2 w2
      have q4 := (w2.old _ (by omega)).trans q4
      have q7 := (w2.old _ (by omega)).trans q7
      have q5 := w2.new
      simp only [List.set_cons_succ, List.set_cons_zero] at q5
      have tr : ∀ a b c d e f g h i j k m n o p q r s t : AV, let l := lc_standing_ok a b c d e f g h i j k m n o p; trim ((58,t)::(57,s)::(56,r)::(55,q)::l) l = [(0,a),(1,b),(4,c),(5,d),(7,e),(10,f),(11,g),(12,h),(13,i),(19,j),(40,k),(48,m),(54,n),(59,o),(65,p)] := by intros; rfl
      refine R_nil (tr ..) ?_; clear tr
      refine blk_n ?_
      refine then_n ?_
      refine at_seq rfl ?_
      refine rg rfl ?_
      refine Rq ?_
      refine R_q rfl (by simp (disch := omega) only [go_sem, ↓reduceIte, Nat.reduceEqDiff, reduceCtorEq, q4, q5, q7] <;> rfl) ?_
      refine Rq ?_
      refine R_q rfl (by simp (disch := omega) only [go_sem, ↓reduceIte, Nat.reduceEqDiff, reduceCtorEq, q4, q5, q7] <;> rfl) ?_
      refine Rq ?_
      refine Rq ?_
      refine A_store ty3 (by simp (disch := omega) only [go_sem, ↓reduceIte, Nat.reduceEqDiff, reduceCtorEq, q4, q5, q7] <;> rfl) (by simp (disch := omega) only [go_sem, ↓reduceIte, Nat.reduceEqDiff, reduceCtorEq, q4, q5, q7] <;> rfl) q5 ⟨by omega, rfl, by simp⟩ (k' := _) (by rw [setL_one] <;> rfl) ?_
      intro H2 w2
      have q4 := (w2.old _ (by omega)).trans q4
      have q7 := (w2.old _ (by omega)).trans q7
      have q5 := w2.new
      simp only [List.set_cons_succ, List.set_cons_zero] at q5
      have tr : ∀ a b c d e f g h i j k m n o p q r s t u v : AV, let l := lc_standing_ok a b c d e f g h i j k m n o p; trim ((76,v)::(75,u)::(74,t)::(73,s)::(72,r)::(71,q)::l) l = [(0,a),(1,b),(4,c),(5,d),(7,e),(10,f),(11,g),(12,h),(13,i),(19,j),(40,k),(48,m),(54,n),(59,o),(65,p)] := by intros; rfl
      refine R_nil (tr ..) ?_; clear tr
      refine then_n ?_
      refine at_seq rfl ?_
      refine rg rfl ?_
      refine Rq ?_
      refine R_q rfl (by simp (disch := omega) only [go_sem, ↓reduceIte, Nat.reduceEqDiff, reduceCtorEq, q4, q5, q7] <;> rfl) ?_
      refine Rq ?_
      refine R_q rfl (by simp (disch := omega) only [go_sem, ↓reduceIte, Nat.reduceEqDiff, reduceCtorEq, q4, q5, q7] <;> rfl) ?_
      refine Rq ?_
      refine Rq ?_
      refine A_store ty3 (by simp (disch := omega) only [go_sem, ↓reduceIte, Nat.reduceEqDiff, reduceCtorEq, q4, q5, q7] <;> rfl) (by simp (disch := omega) only [go_sem, ↓reduceIte, Nat.reduceEqDiff, reduceCtorEq, q4, q5, q7] <;> rfl) q5 ⟨by omega, rfl, by simp⟩ (k' := _) (by rw [setL_one] <;> rfl) ?_
      intro H2 w2
      have q4 := (w2.old _ (by omega)).trans q4
      have q7 := (w2.old _ (by omega)).trans q7
      have q5 := w2.new
      simp only [List.set_cons_succ, List.set_cons_zero] at q5
      have tr : ∀ a b c d e f g h i j k m n o p q r s t u v : AV, let l := lc_standing_ok a b c d e f g h i j k m n o p; trim ((82,v)::(81,u)::(80,t)::(79,s)::(78,r)::(77,q)::l) l = [(0,a),(1,b),(4,c),(5,d),(7,e),(10,f),(11,g),(12,h),(13,i),(19,j),(40,k),(48,m),(54,n),(59,o),(65,p)] := by intros; rfl
      refine R_nil (tr ..) ?_; clear tr
      refine then_n ?_
      refine at_seq rfl ?_
      refine rg rfl ?_
      refine Rq ?_
      refine R_q rfl (by simp (disch := omega) only [go_sem, ↓reduceIte, Nat.reduceEqDiff, reduceCtorEq, q4, q5, q7] <;> rfl) ?_
      refine Rq ?_
      refine R_q rfl (by simp (disch := omega) only [go_sem, ↓reduceIte, Nat.reduceEqDiff, reduceCtorEq, q4, q5, q7] <;> rfl) ?_
      refine Rq ?_
      refine Rq ?_
      refine A_store ty3 (by simp (disch := omega) only [go_sem, ↓reduceIte, Nat.reduceEqDiff, reduceCtorEq, q4, q5, q7] <;> rfl) (by simp (disch := omega) only [go_sem, ↓reduceIte, Nat.reduceEqDiff, reduceCtorEq, q4, q5, q7] <;> rfl) q5 ⟨by omega, rfl, by simp⟩ (k' := _) (by rw [setL_one] <;> rfl) ?_
      intro H2 w2
      have q4 := (w2.old _ (by omega)).trans q4
      have q7 := (w2.old _ (by omega)).trans q7
      have q5 := w2.new
      simp only [List.set_cons_succ, List.set_cons_zero] at q5
      have tr : ∀ a b c d e f g h i j k m n o p q r s t u v : AV, let l := lc_standing_ok a b c d e f g h i j k m n o p; trim ((88,v)::(87,u)::(86,t)::(85,s)::(84,r)::(83,q)::l) l = [(0,a),(1,b),(4,c),(5,d),(7,e),(10,f),(11,g),(12,h),(13,i),(19,j),(40,k),(48,m),(54,n),(59,o),(65,p)] := by intros; rfl
      refine R_nil (tr ..) ?_; clear tr
      refine then_n ?_
      refine rg rfl ?_
      refine Rq ?_
      refine R_q rfl (by simp (disch := omega) only [go_sem, ↓reduceIte, Nat.reduceEqDiff, reduceCtorEq, q4, q5, q7] <;> rfl) ?_
      refine Rq ?_
      refine R_q rfl (by simp (disch := omega) only [go_sem, ↓reduceIte, Nat.reduceEqDiff, reduceCtorEq, q4, q5, q7] <;> rfl) ?_
      refine Rq ?_
      refine Rq ?_
      refine A_store ty3 (by simp (disch := omega) only [go_sem, ↓reduceIte, Nat.reduceEqDiff, reduceCtorEq, q4, q5, q7] <;> rfl) (by simp (disch := omega) only [go_sem, ↓reduceIte, Nat.reduceEqDiff, reduceCtorEq, q4, q5, q7] <;> rfl) q5 ⟨by omega, rfl, by simp⟩ (k' := _) (by rw [setL_one] <;> rfl) ?_
      intro H2 w2
      have q4 := (w2.old _ (by omega)).trans q4
      have q7 := (w2.old _ (by omega)).trans q7
      have q5 := w2.new
      simp only [List.set_cons_succ, List.set_cons_zero] at q5
      have tr : ∀ a b c d e f g h i j k m n o p q r s t u v : AV, let l := lc_standing_ok a b c d e f g h i j k m n o p; trim ((94,v)::(93,u)::(92,t)::(91,s)::(90,r)::(89,q)::l) l = [(0,a),(1,b),(4,c),(5,d),(7,e),(10,f),(11,g),(12,h),(13,i),(19,j),(40,k),(48,m),(54,n),(59,o),(65,p)] := by intros; rfl
      refine R_nil (tr ..) ?_; clear tr
      refine blk_n ?_
      refine then_n ?_
      refine rg rfl ?_
      refine Rq ?_
      refine Rq ?_
      have tr : ∀ a b c d e f g h i j k m n o p q r : AV, let l := lc_standing_ok a b c d e f g h i j k m n o p; trim ((12,r)::(95,q)::l) l = [(0,a),(1,b),(4,c),(5,d),(7,e),(10,f),(11,g),(12,r),(13,i),(19,j),(40,k),(48,m),(54,n),(59,o),(65,p)] := by intros; rfl
      refine R_nil (tr ..) ?_; clear tr
      refine then_n ?_
      exact ⟨_, _, ⟨u + 1, _, _, _, _, _, _, _, _, rfl, rfl, by exact q4, by (first | (rw [stdS_snoc l u (by omega), upS, if_pos (by assumption), cn_0 (by omega)]; exact q5) | (rw [stdS_snoc l u (by omega), upS, if_pos (by assumption), cn_w (by omega) (by omega)]; exact q5) | (rw [stdS_snoc l u (by omega), upS, if_pos (by assumption), cn_l (by omega) (by omega)]; exact q5) | (rw [stdS_snoc l u (by omega), upS, if_neg (by assumption), if_pos (by assumption), cn_0 (by omega)]; exact q5) | (rw [stdS_snoc l u (by omega), upS, if_neg (by assumption), if_pos (by assumption), cn_w (by omega) (by omega)]; exact q5) | (rw [stdS_snoc l u (by omega), upS, if_neg (by assumption), if_pos (by assumption), cn_l (by omega) (by omega)]; exact q5) | (rw [stdS_snoc l u (by omega), upS, if_neg (by assumption), if_neg (by assumption)]; exact q5) | (exfalso; omega)), by omega⟩, by rfl, by omega⟩
 ·
  try simp only [decide_eq_true_eq, decide_eq_false_iff_not, decide_eq_decide, Bool.not_eq_true', Bool.not_eq_false', beq_iff_eq, beq_eq_false_iff_ne, ne_eq, Bool.and_eq_true, Bool.and_eq_false_iff, decide_not] at h1
  refine at_exit rfl ?_
  refine then_x ?_
  refine then_x ?_
  refine blk_x ?_
  refine then_n ?_
  refine at_seq rfl ?_
  refine rg rfl ?_
  obtain rfl : u = l.length := by omega
  have hI := stdS_inv hpl t l.length (by omega)
  unfold StI at hI
  rw [List.take_length] at q5 hI
  obtain ⟨S, hS⟩ : ∃ S, S = stdS l t := ⟨_, rfl⟩
  rw [← hS] at q5 hI ⊢
  have lq5 := hget_lt q5
  refine Rq ?_
  refine R_q rfl (by simp (disch := omega) only [go_sem, ↓reduceIte, Nat.reduceEqDiff, reduceCtorEq, q4, q5, q7] <;> rfl) ?_
  refine Rq ?_
  refine Rq ?_
  refine R_q rfl (by simp (disch := omega) only [go_sem, ↓reduceIte, Nat.reduceEqDiff, reduceCtorEq, q4, q5, q7] <;> rfl) ?_
  refine Rq ?_
  refine Rq ?_
  refine A_store ty3 (by simp (disch := omega) only [go_sem, ↓reduceIte, Nat.reduceEqDiff, reduceCtorEq, q5] <;> rfl) (by simp (disch := omega) only [go_sem, ↓reduceIte, Nat.reduceEqDiff, reduceCtorEq, q5] <;> rfl) q5 ⟨by omega, rfl, by simp⟩ (k' := _) (by rw [setL_one] <;> rfl) ?_
  intro H2 w2
  have q4 := (w2.old _ (by omega)).trans q4
  have q5 := w2.new
  simp only [List.set_cons_succ, List.set_cons_zero] at q5
  have tr : ∀ a b c d e f g h i j k m n o p q r s t u v w : AV, let l := lc_standing_ok a b c d e f g h i j k m n o p; trim ((102,w)::(101,v)::(100,u)::(99,t)::(98,s)::(97,r)::(96,q)::l) l = [(0,a),(1,b),(4,c),(5,d),(7,e),(10,f),(11,g),(12,h),(13,i),(19,j),(40,k),(48,m),(54,n),(59,o),(65,p)] := by intros; rfl
  refine R_nil (tr ..) ?_; clear tr
  refine then_n ?_
  refine at_seq rfl ?_
  refine rg rfl ?_
  refine R_q rfl (by simp (disch := omega) only [go_sem, ↓reduceIte, Nat.reduceEqDiff, reduceCtorEq, q4, q5, q7] <;> rfl) ?_
  refine A_store ty47 (by simp (disch := omega) only [go_sem, ↓reduceIte, Nat.reduceEqDiff, reduceCtorEq, q5] <;> rfl) (by simp (disch := omega) only [go_sem, ↓reduceIte, Nat.reduceEqDiff, reduceCtorEq, q5] <;> rfl) q4 ⟨by omega, rfl, Nat.le_refl 10⟩ (k' := [AV.i S.tm, AV.i S.pl, AV.i S.wn, AV.i S.sh, AV.i S.ls, AV.i (2 * S.wn + S.sh), AV.i S.rf, AV.i S.bf, AV.i S.ra, AV.i S.ba]) rfl ?_
  intro H3 w3
  have q4 := w3.new
  have tr : ∀ a b c d e f g h i j k m n o p q : AV, let l := lc_standing_ok a b c d e f g h i j k m n o p; trim ((103,q)::l) l = [(0,a),(1,b),(4,c),(5,d),(7,e),(10,f),(11,g),(12,h),(13,i),(19,j),(40,k),(48,m),(54,n),(59,o),(65,p)] := by intros; rfl
  refine R_nil (tr ..) ?_; clear tr
  refine then_n ?_
  refine at_ret rfl ?_
  refine fin_pure (rs := [.cell 4 47]) rfl (by simp (disch := omega) only [go_sem, ↓reduceIte, Nat.reduceEqDiff, reduceCtorEq, q4] <;> rfl) (by simp (disch := omega) only [go_sem, ↓reduceIte, Nat.reduceEqDiff, reduceCtorEq, q4] <;> rfl) ?_
  refine ⟨?_, rfl⟩
  exact stW_fin hI.2.1

end Go.Proofs.Ytfnapmdedmbdbaa
end
section
set_option linter.unusedVariables false
namespace Go.Proofs.Ytfnapmdedmbdbaa
open Go Go.Am
/-! ### The callees that are taken by contract -/
end Go.Proofs.Ytfnapmdedmbdbaa
end
