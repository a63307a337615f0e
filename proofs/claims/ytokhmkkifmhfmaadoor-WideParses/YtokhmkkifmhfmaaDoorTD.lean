/-
  Walks of chapter 2. The steps are written by program (walk.py).
-/
import Derived.Test.YtokhmkkifmhfmaaDoorTB
import Derived.Test.YtokhmkkifmhfmaaDoorRK
import Derived.Test.YtokhmkkifmhfmaaDoorRB
import Derived.Test.YtokhmkkifmhfmaaDoorT2
set_option linter.unusedSimpArgs false
set_option linter.unusedVariables false
set_option maxHeartbeats 1000000
set_option maxRecDepth 20000
namespace Go.Proofs.YtokhmkkifmhfmaaDoor
open Go Go.Am
abbrev lc_rparse_ok (a b c d e f g h i j k m n o : AV) : Env := [(0,a),(2,b),(3,c),(4,d),(5,e),(6,f),(7,g),(16,h),(26,i),(35,j),(47,k),(54,m),(71,n),(84,o)]
theorem rparse_ok (lim : Nat) (H : Heap) (l : List UInt8) (hl200 : l.length ≤ 200) : ACall sig lim 35 [sv l] H fun r H' => r = .tup [wv (pr l).1, AV.i (pr l).2] ∧ H' = H := by
 obtain ⟨D, eD⟩ : ∃ D, D = dg9 l := ⟨_, rfl⟩
 have hdl : D.length ≤ l.length := by rw [eD]; exact dg_len l
 have hsm := dg_same l
 rw [← eD] at hsm
 refine ACall_pure (fa := fa35) rfl rfl rfl rfl ?_
 have tr : ∀ a0 : AV, env0 fa35.keep [a0] = [(0,a0),(2,.any),(3,.any),(4,.any),(5,.any),(6,.any),(7,.any),(16,.any),(26,.any),(35,.any),(47,.any),(54,.any),(71,.any),(84,.any)] := fun a0 => rfl
 refine W_to (tr _) ?_; clear tr
 refine at_seq rfl ?_
 refine rg rfl ?_
 refine A_alloc rfl ?_
 intro H1 n1
 have en1 := n1.len
 have q1 := n1.new
 have q1 : hget H1 H.length = some [AV.i 0, u6 0] := q1
 have lq1 := hget_lt q1
 refine Rq ?_
 have tr : ∀ a b c d e f g h i j k m n o p q : AV, let l := lc_rparse_ok a b c d e f g h i j k m n o; trim ((3,q)::(2,p)::l) l = [(0,a),(2,p),(3,q),(4,d),(5,e),(6,f),(7,g),(16,h),(26,i),(35,j),(47,k),(54,m),(71,n),(84,o)] := by intros; rfl
 refine R_nil (tr ..) ?_; clear tr
 refine then_n ?_
 refine at_seq rfl ?_
 refine rg rfl ?_
 refine Rq ?_
 refine Rq ?_
 have tr : ∀ a b c d e f g h i j k m n o p q : AV, let l := lc_rparse_ok a b c d e f g h i j k m n o; trim ((4,q)::(8,p)::l) l = [(0,a),(2,b),(3,c),(4,q),(5,e),(6,f),(7,g),(16,h),(26,i),(35,j),(47,k),(54,m),(71,n),(84,o)] := by intros; rfl
 refine R_nil (tr ..) ?_; clear tr
 refine then_n ?_
 refine seq_cut rfl (fun s => ∃ x16 : AV, s = ⟨[(0, sv l), (2, .ptr H.length 0), (3, AV.i 0), (4, sv D), (5, .any), (6, .any), (7, .any), (16, x16), (26, .any), (35, .any), (47, .any), (54, .any), (71, .any), (84, .any)], H1⟩) ?_ ?_
 ·
  refine at_seq rfl ?_
  refine rg rfl ?_
  refine Rq ?_
  refine Rq ?_
  refine Rq ?_
  refine Rq ?_
  refine Rp_split (fun h1 => ?_) (fun h1 => ?_)
  ·
   try simp only [decide_eq_true_eq, decide_eq_false_iff_not, decide_eq_decide, Bool.not_eq_true', Bool.not_eq_false', beq_iff_eq, beq_eq_false_iff_ne, ne_eq, Bool.and_eq_true, Bool.and_eq_false_iff, decide_not] at h1
   refine Ry ?_
   refine Rq ?_
   refine Ry ?_
   refine R_q (r := .v (.int .u8 ((l[0].toNat : Nat) : Int))) rfl (by simp only [go_sem, ↓reduceIte, Nat.reduceEqDiff]; exact ix_bs l 0 (by omega)) ?_
   refine Ry ?_
   refine Rq ?_
   refine Rq ?_
   have tr : ∀ a b c d e f g h i j k m n o p q r s t u v w : AV, let l := lc_rparse_ok a b c d e f g h i j k m n o; trim ((16,w)::(15,v)::(14,u)::(13,t)::(12,s)::(11,r)::(10,q)::(9,p)::l) l = [(0,a),(2,b),(3,c),(4,d),(5,e),(6,f),(7,g),(16,w),(26,i),(35,j),(47,k),(54,m),(71,n),(84,o)] := by intros; rfl
   refine R_nil (tr ..) ?_; clear tr
   refine then_n ?_
   refine cdd (fun h2 => ?_) (fun h2 => ?_)
   ·
    try simp only [decide_eq_true_eq, decide_eq_false_iff_not, decide_eq_decide, Bool.not_eq_true', Bool.not_eq_false', beq_iff_eq, beq_eq_false_iff_ne, ne_eq, Bool.and_eq_true, Bool.and_eq_false_iff, decide_not] at h2
    refine rg rfl ?_
    have hD : D = l.drop 1 := by rw [eD]; exact dg_yes (by omega) (by omega)
    refine Rq ?_
    refine R_q (r := sv (l.drop 1)) rfl (by simp only [go_sem, ↓reduceIte, Nat.reduceEqDiff]; exact sl_bs l (by omega)) ?_
    refine Rq ?_
    have tr : ∀ a b c d e f g h i j k m n o p q r : AV, let l := lc_rparse_ok a b c d e f g h i j k m n o; trim ((4,r)::(18,q)::(17,p)::l) l = [(0,a),(2,b),(3,c),(4,r),(5,e),(6,f),(7,g),(16,h),(26,i),(35,j),(47,k),(54,m),(71,n),(84,o)] := by intros; rfl
    refine R_nil (tr ..) ?_; clear tr
    refine then_n ?_
    exact ⟨_, by rw [hD]⟩
   ·
    try simp only [decide_eq_true_eq, decide_eq_false_iff_not, decide_eq_decide, Bool.not_eq_true', Bool.not_eq_false', beq_iff_eq, beq_eq_false_iff_ne, ne_eq, Bool.and_eq_true, Bool.and_eq_false_iff, decide_not] at h2
    have hD : D = l := by rw [eD]; exact dg_no (by omega) (by omega)
    refine at_skip rfl ?_
    refine then_n ?_
    exact ⟨_, by rw [hD]⟩
  ·
   try simp only [decide_eq_true_eq, decide_eq_false_iff_not, decide_eq_decide, Bool.not_eq_true', Bool.not_eq_false', beq_iff_eq, beq_eq_false_iff_ne, ne_eq, Bool.and_eq_true, Bool.and_eq_false_iff, decide_not] at h1
   have hD : D = l := by rw [eD]; exact dg_zero (by omega)
   refine Rn ?_
   refine Rn ?_
   refine Rn ?_
   refine Rq ?_
   have tr : ∀ a b c d e f g h i j k m n o p q r s t u v w : AV, let l := lc_rparse_ok a b c d e f g h i j k m n o; trim ((16,w)::(15,v)::(14,u)::(13,t)::(12,s)::(11,r)::(10,q)::(9,p)::l) l = [(0,a),(2,b),(3,c),(4,d),(5,e),(6,f),(7,g),(16,w),(26,i),(35,j),(47,k),(54,m),(71,n),(84,o)] := by intros; rfl
   refine R_nil (tr ..) ?_; clear tr
   refine then_n ?_
   refine cdf ?_
   refine at_skip rfl ?_
   refine then_n ?_
   exact ⟨_, by rw [hD]⟩
 ·
  rintro s ⟨x16, rfl⟩
  refine at_seq rfl ?_
  refine at_seq rfl ?_
  refine rg rfl ?_
  refine Rq ?_
  refine Rq ?_
  refine Rq ?_
  refine Rq ?_
  refine Rp_split (fun h3 => ?_) (fun h3 => ?_)
  ·
   try simp only [decide_eq_true_eq, decide_eq_false_iff_not, decide_eq_decide, Bool.not_eq_true', Bool.not_eq_false', beq_iff_eq, beq_eq_false_iff_ne, ne_eq, Bool.and_eq_true, Bool.and_eq_false_iff, decide_not] at h3
   refine Rn ?_
   refine Rn ?_
   refine Rn ?_
   refine Rq ?_
   have tr : ∀ a b c d e f g h i j k m n o p q r s t u v w : AV, let l := lc_rparse_ok a b c d e f g h i j k m n o; trim ((26,w)::(25,v)::(24,u)::(23,t)::(22,s)::(21,r)::(20,q)::(19,p)::l) l = [(0,a),(2,b),(3,c),(4,d),(5,e),(6,f),(7,g),(16,h),(26,w),(35,j),(47,k),(54,m),(71,n),(84,o)] := by intros; rfl
   refine R_nil (tr ..) ?_; clear tr
   refine then_n ?_
   refine cdt ?_
   refine at_seq rfl ?_
   refine rg rfl ?_
   have hno : ¬ okP l := fun h => by
     have := (okP_parts h).1
     rw [← eD] at this
     omega
   refine Rq ?_
   refine A_store ty24 (by simp (disch := first | omega | (simp only [List.length_map, List.length_append, List.length_set, List.length_cons, List.length_nil]; omega)) only [go_sem, ↓reduceIte, Nat.reduceEqDiff, reduceCtorEq] <;> rfl) (by simp (disch := first | omega | (simp only [List.length_map, List.length_append, List.length_set, List.length_cons, List.length_nil]; omega)) only [go_sem, ↓reduceIte, Nat.reduceEqDiff, reduceCtorEq] <;> rfl) q1 ⟨by omega, rfl, Nat.le_refl 2⟩ (k' := [AV.i 0, u6 0]) rfl ?_
   intro H7 w7
   have q7 := w7.new
   refine Rq ?_
   have tr : ∀ a b c d e f g h i j k m n o p q : AV, let l := lc_rparse_ok a b c d e f g h i j k m n o; trim ((3,q)::(27,p)::l) l = [(0,a),(2,b),(3,q),(4,d),(5,e),(6,f),(7,g),(16,h),(26,i),(35,j),(47,k),(54,m),(71,n),(84,o)] := by intros; rfl
   refine R_nil (tr ..) ?_; clear tr
   refine then_n ?_
   refine at_ret rfl ?_
   refine then_r ?_
   first | (refine fin_pure (rs := [.cell 2 24, .tmp 3]) rfl (by first | (simp (disch := first | omega | (simp only [List.length_map, List.length_append, List.length_set, List.length_cons, List.length_nil]; omega)) only [go_sem, ↓reduceIte, Nat.reduceEqDiff, reduceCtorEq, q7] <;> rfl) | rfl) (by first | rfl | (simp (disch := first | omega | (simp only [List.length_map, List.length_append, List.length_set, List.length_cons, List.length_nil]; omega)) only [go_sem, ↓reduceIte, Nat.reduceEqDiff, reduceCtorEq, q7] <;> rfl)) ?_; refine ⟨?_, rfl⟩; rw [pr_n hno] <;> rfl; done) | (exfalso; have h8 : ok = true := (by assumption); have h9 : ok = false := (by assumption); rw [h8] at h9; cases h9; done) | (refine fin_pure (rs := [.cell 2 24, .tmp 3]) rfl (by first | (simp (disch := first | omega | (simp only [List.length_map, List.length_append, List.length_set, List.length_cons, List.length_nil]; omega)) only [go_sem, ↓reduceIte, Nat.reduceEqDiff, reduceCtorEq, q7] <;> rfl) | rfl) (by first | rfl | (simp (disch := first | omega | (simp only [List.length_map, List.length_append, List.length_set, List.length_cons, List.length_nil]; omega)) only [go_sem, ↓reduceIte, Nat.reduceEqDiff, reduceCtorEq, q7] <;> rfl)) ?_; refine ⟨?_, rfl⟩; rw [pr_y hok9, hpvA (by assumption) (by assumption), fS_y hok9.1] <;> rfl; done) | (refine fin_pure (rs := [.cell 2 24, .tmp 3]) rfl (by first | (simp (disch := first | omega | (simp only [List.length_map, List.length_append, List.length_set, List.length_cons, List.length_nil]; omega)) only [go_sem, ↓reduceIte, Nat.reduceEqDiff, reduceCtorEq, q7] <;> rfl) | rfl) (by first | rfl | (simp (disch := first | omega | (simp only [List.length_map, List.length_append, List.length_set, List.length_cons, List.length_nil]; omega)) only [go_sem, ↓reduceIte, Nat.reduceEqDiff, reduceCtorEq, q7] <;> rfl)) ?_; refine ⟨?_, rfl⟩; rw [pr_y hok9, ← hpvB (by assumption) (by assumption)] <;> rfl; done)
  ·
   try simp only [decide_eq_true_eq, decide_eq_false_iff_not, decide_eq_decide, Bool.not_eq_true', Bool.not_eq_false', beq_iff_eq, beq_eq_false_iff_ne, ne_eq, Bool.and_eq_true, Bool.and_eq_false_iff, decide_not] at h3
   refine Ry ?_
   refine Rq ?_
   refine Ry ?_
   refine Rq ?_
   refine Ry ?_
   refine Rq ?_
   refine Rq ?_
   have tr : ∀ a b c d e f g h i j k m n o p q r s t u v w : AV, let l := lc_rparse_ok a b c d e f g h i j k m n o; trim ((26,w)::(25,v)::(24,u)::(23,t)::(22,s)::(21,r)::(20,q)::(19,p)::l) l = [(0,a),(2,b),(3,c),(4,d),(5,e),(6,f),(7,g),(16,h),(26,w),(35,j),(47,k),(54,m),(71,n),(84,o)] := by intros; rfl
   refine R_nil (tr ..) ?_; clear tr
   refine then_n ?_
   refine cdd (fun h4 => ?_) (fun h4 => ?_)
   ·
    try simp only [decide_eq_true_eq, decide_eq_false_iff_not, decide_eq_decide, Bool.not_eq_true', Bool.not_eq_false', beq_iff_eq, beq_eq_false_iff_ne, ne_eq, Bool.and_eq_true, Bool.and_eq_false_iff, decide_not] at h4
    refine at_seq rfl ?_
    refine rg rfl ?_
    have hno : ¬ okP l := fun h => by
      have := (okP_parts h).2.1
      rw [← eD] at this
      omega
    refine Rq ?_
    refine A_store ty24 (by simp (disch := first | omega | (simp only [List.length_map, List.length_append, List.length_set, List.length_cons, List.length_nil]; omega)) only [go_sem, ↓reduceIte, Nat.reduceEqDiff, reduceCtorEq] <;> rfl) (by simp (disch := first | omega | (simp only [List.length_map, List.length_append, List.length_set, List.length_cons, List.length_nil]; omega)) only [go_sem, ↓reduceIte, Nat.reduceEqDiff, reduceCtorEq] <;> rfl) q1 ⟨by omega, rfl, Nat.le_refl 2⟩ (k' := [AV.i 0, u6 0]) rfl ?_
    intro H7 w7
    have q7 := w7.new
    refine Rq ?_
    have tr : ∀ a b c d e f g h i j k m n o p q : AV, let l := lc_rparse_ok a b c d e f g h i j k m n o; trim ((3,q)::(27,p)::l) l = [(0,a),(2,b),(3,q),(4,d),(5,e),(6,f),(7,g),(16,h),(26,i),(35,j),(47,k),(54,m),(71,n),(84,o)] := by intros; rfl
    refine R_nil (tr ..) ?_; clear tr
    refine then_n ?_
    refine at_ret rfl ?_
    refine then_r ?_
    first | (refine fin_pure (rs := [.cell 2 24, .tmp 3]) rfl (by first | (simp (disch := first | omega | (simp only [List.length_map, List.length_append, List.length_set, List.length_cons, List.length_nil]; omega)) only [go_sem, ↓reduceIte, Nat.reduceEqDiff, reduceCtorEq, q7] <;> rfl) | rfl) (by first | rfl | (simp (disch := first | omega | (simp only [List.length_map, List.length_append, List.length_set, List.length_cons, List.length_nil]; omega)) only [go_sem, ↓reduceIte, Nat.reduceEqDiff, reduceCtorEq, q7] <;> rfl)) ?_; refine ⟨?_, rfl⟩; rw [pr_n hno] <;> rfl; done) | (exfalso; have h8 : ok = true := (by assumption); have h9 : ok = false := (by assumption); rw [h8] at h9; cases h9; done) | (refine fin_pure (rs := [.cell 2 24, .tmp 3]) rfl (by first | (simp (disch := first | omega | (simp only [List.length_map, List.length_append, List.length_set, List.length_cons, List.length_nil]; omega)) only [go_sem, ↓reduceIte, Nat.reduceEqDiff, reduceCtorEq, q7] <;> rfl) | rfl) (by first | rfl | (simp (disch := first | omega | (simp only [List.length_map, List.length_append, List.length_set, List.length_cons, List.length_nil]; omega)) only [go_sem, ↓reduceIte, Nat.reduceEqDiff, reduceCtorEq, q7] <;> rfl)) ?_; refine ⟨?_, rfl⟩; rw [pr_y hok9, hpvA (by assumption) (by assumption), fS_y hok9.1] <;> rfl; done) | (refine fin_pure (rs := [.cell 2 24, .tmp 3]) rfl (by first | (simp (disch := first | omega | (simp only [List.length_map, List.length_append, List.length_set, List.length_cons, List.length_nil]; omega)) only [go_sem, ↓reduceIte, Nat.reduceEqDiff, reduceCtorEq, q7] <;> rfl) | rfl) (by first | rfl | (simp (disch := first | omega | (simp only [List.length_map, List.length_append, List.length_set, List.length_cons, List.length_nil]; omega)) only [go_sem, ↓reduceIte, Nat.reduceEqDiff, reduceCtorEq, q7] <;> rfl)) ?_; refine ⟨?_, rfl⟩; rw [pr_y hok9, ← hpvB (by assumption) (by assumption)] <;> rfl; done)
   ·
    try simp only [decide_eq_true_eq, decide_eq_false_iff_not, decide_eq_decide, Bool.not_eq_true', Bool.not_eq_false', beq_iff_eq, beq_eq_false_iff_ne, ne_eq, Bool.and_eq_true, Bool.and_eq_false_iff, decide_not] at h4
    refine at_skip rfl ?_
    refine then_n ?_
    refine at_seq rfl ?_
    refine rg rfl ?_
    refine Rq ?_
    refine A_alloc rfl ?_
    intro H2 n2
    have en2 := n2.len
    have q1 := (n2.old _ (hget_lt q1)).trans q1
    have q2 := n2.new
    have q2 : hget H2 H1.length = some [AV.i 0, u6 0] := q2
    have lq2 := hget_lt q2
    refine A_store ty24 (by simp (disch := first | omega | (simp only [List.length_map, List.length_append, List.length_set, List.length_cons, List.length_nil]; omega)) only [go_sem, ↓reduceIte, Nat.reduceEqDiff, reduceCtorEq] <;> rfl) (by simp (disch := first | omega | (simp only [List.length_map, List.length_append, List.length_set, List.length_cons, List.length_nil]; omega)) only [go_sem, ↓reduceIte, Nat.reduceEqDiff, reduceCtorEq] <;> rfl) q2 ⟨by omega, rfl, Nat.le_refl 2⟩ (k' := [AV.i 0, u6 0]) rfl ?_
    intro H3 w3
    have q2 := w3.new
    have q1 := (w3.old _ (by omega)).trans q1
    have lq1 := hget_lt q1
    have lq2 := hget_lt q2
    refine Rq ?_
    have tr : ∀ a b c d e f g h i j k m n o p q r : AV, let l := lc_rparse_ok a b c d e f g h i j k m n o; trim ((6,r)::(5,q)::(28,p)::l) l = [(0,a),(2,b),(3,c),(4,d),(5,q),(6,r),(7,g),(16,h),(26,i),(35,j),(47,k),(54,m),(71,n),(84,o)] := by intros; rfl
    refine R_nil (tr ..) ?_; clear tr
    refine then_n ?_
    refine at_seq rfl ?_
    refine at_seq rfl ?_
    refine rg rfl ?_
    refine Rq ?_
    have tr : ∀ a b c d e f g h i j k m n o p : AV, let l := lc_rparse_ok a b c d e f g h i j k m n o; trim ((7,p)::l) l = [(0,a),(2,b),(3,c),(4,d),(5,e),(6,f),(7,p),(16,h),(26,i),(35,j),(47,k),(54,m),(71,n),(84,o)] := by intros; rfl
    refine R_nil (tr ..) ?_; clear tr
    refine then_n ?_
    refine at_block rfl ?_
    refine loop_n rfl (fun mm kv H' => ∃ i : Nat, ∃ ok : Bool, ∃ w : Int, ∃ x3 x35 x47 x54 : AV, (kv = [(3, x3), (6, .v (.bool ok)), (7, AV.i (i : Int)), (35, x35), (47, x47), (54, x54)]) ∧ (mm = D.length - i) ∧ (i ≤ D.length) ∧ (hget H' H.length = some [AV.i 0, u6 0]) ∧ (hget H' H1.length = some [AV.i (w / 18446744073709551616), u6 (w % 18446744073709551616)]) ∧ (Fw w) ∧ (ok = true → w = -((vd (D.take i) : Nat) : Int)) ∧ (ok = false → 170141183460469231731687303715884105728 < vd (D.take i))) ⟨0, true, 0, _, _, _, _, rfl, rfl, by omega, by exact q1, by exact q2, by (unfold Fw; omega), by (intro _; rfl), by (intro h; cases h)⟩ (by rfl) ?_
    rintro mm kv HO ⟨i, ok, w, x3, x35, x47, x54, rfl, rfl, hi, q1, q2, hF, hok, hbad⟩
    have tr : ∀ a b c d e f g h i j k m n o p q r s t u : AV, upd [(0,a),(2,b),(3,c),(4,d),(5,e),(6,f),(7,g),(16,h),(26,i),(35,j),(47,k),(54,m),(71,n),(84,o)] [(3,p),(6,q),(7,r),(35,s),(47,t),(54,u)] = [(0,a),(2,b),(3,p),(4,d),(5,e),(6,q),(7,r),(16,h),(26,i),(35,s),(47,t),(54,u),(71,n),(84,o)] := by intros; rfl
    refine W_to (tr ..) ?_; clear tr
    have lq1 := hget_lt q1
    have lq2 := hget_lt q2
    refine at_seq rfl ?_
    refine at_seq rfl ?_
    refine rg rfl ?_
    refine Rq ?_
    refine Rq ?_
    refine Rq ?_
    refine Rq ?_
    refine Rq ?_
    refine Rp_split (fun h5 => ?_) (fun h5 => ?_)
    ·
     try simp only [decide_eq_true_eq, decide_eq_false_iff_not, decide_eq_decide, Bool.not_eq_true', Bool.not_eq_false', beq_iff_eq, beq_eq_false_iff_ne, ne_eq, Bool.and_eq_true, Bool.and_eq_false_iff, decide_not] at h5
     refine Ry ?_
     refine Rq ?_
     refine Rq ?_
     have tr : ∀ a b c d e f g h i j k m n o p q r s t u v : AV, let l := lc_rparse_ok a b c d e f g h i j k m n o; trim ((35,v)::(34,u)::(33,t)::(32,s)::(31,r)::(30,q)::(29,p)::l) l = [(0,a),(2,b),(3,c),(4,d),(5,e),(6,f),(7,g),(16,h),(26,i),(35,v),(47,k),(54,m),(71,n),(84,o)] := by intros; rfl
     refine R_nil (tr ..) ?_; clear tr
     refine then_n ?_
     refine cdd (fun h6 => ?_) (fun h6 => ?_)
     ·
      try simp only [decide_eq_true_eq, decide_eq_false_iff_not, decide_eq_decide, Bool.not_eq_true', Bool.not_eq_false', beq_iff_eq, beq_eq_false_iff_ne, ne_eq, Bool.and_eq_true, Bool.and_eq_false_iff, decide_not] at h6
      refine at_skip rfl ?_
      refine then_n ?_
      refine at_seq rfl ?_
      refine at_block rfl ?_
      refine at_seq rfl ?_
      refine at_seq rfl ?_
      refine rg rfl ?_
      have hiD : i < D.length := by omega
      obtain ⟨c, ec⟩ : ∃ c, c = D[i].toNat := ⟨_, rfl⟩
      have hc256 : c < 256 := by rw [ec]; exact UInt8.toNat_lt _
      have hvt := vd_take D i hiD
      rw [← ec] at hvt
      have hle := vd_le D (i + 1)
      obtain rfl : ok = true := by assumption
      have hw0 := hok rfl
      have hFw := hF
      unfold Fw at hFw
      refine Rq ?_
      refine Rq ?_
      refine R_q (r := .v (.int .u8 (c : Int))) rfl (by simp only [go_sem, ↓reduceIte, Nat.reduceEqDiff]; rw [ec]; exact ix_bs D i hiD) ?_
      refine Rq ?_
      refine Rq ?_
      refine Rp_split (fun h7 => ?_) (fun h7 => ?_)
      ·
       try simp only [decide_eq_true_eq, decide_eq_false_iff_not, decide_eq_decide, Bool.not_eq_true', Bool.not_eq_false', beq_iff_eq, beq_eq_false_iff_ne, ne_eq, Bool.and_eq_true, Bool.and_eq_false_iff, decide_not] at h7
       refine Rn ?_
       refine Rn ?_
       refine Rn ?_
       refine Rn ?_
       refine Rq ?_
       have tr : ∀ a b c d e f g h i j k m n o p q r s t u v w x y : AV, let l := lc_rparse_ok a b c d e f g h i j k m n o; trim ((47,y)::(46,x)::(45,w)::(44,v)::(43,u)::(42,t)::(41,s)::(40,r)::(39,q)::(38,p)::l) l = [(0,a),(2,b),(3,c),(4,d),(5,e),(6,f),(7,g),(16,h),(26,i),(35,j),(47,y),(54,m),(71,n),(84,o)] := by intros; rfl
       refine R_nil (tr ..) ?_; clear tr
       refine then_n ?_
       refine cdt ?_
       refine at_seq rfl ?_
       refine rg rfl ?_
       have hno : ¬ okP l := fun h => by
         have := (okP_parts h).2.2.1 D[i] (by rw [← eD]; exact List.getElem_mem _)
         unfold isD at this
         omega
       refine Rq ?_
       refine A_store ty24 (by simp (disch := first | omega | (simp only [List.length_map, List.length_append, List.length_set, List.length_cons, List.length_nil]; omega)) only [go_sem, ↓reduceIte, Nat.reduceEqDiff, reduceCtorEq] <;> rfl) (by simp (disch := first | omega | (simp only [List.length_map, List.length_append, List.length_set, List.length_cons, List.length_nil]; omega)) only [go_sem, ↓reduceIte, Nat.reduceEqDiff, reduceCtorEq] <;> rfl) q1 ⟨by omega, rfl, Nat.le_refl 2⟩ (k' := [AV.i 0, u6 0]) rfl ?_
       intro H7 w7
       have q7 := w7.new
       refine Rq ?_
       have tr : ∀ a b c d e f g h i j k m n o p q : AV, let l := lc_rparse_ok a b c d e f g h i j k m n o; trim ((3,q)::(48,p)::l) l = [(0,a),(2,b),(3,q),(4,d),(5,e),(6,f),(7,g),(16,h),(26,i),(35,j),(47,k),(54,m),(71,n),(84,o)] := by intros; rfl
       refine R_nil (tr ..) ?_; clear tr
       refine then_n ?_
       refine at_ret rfl ?_
       refine then_r ?_
       refine blk_r ?_
       refine then_r ?_
       refine then_r ?_
       refine blk_r ?_
       refine then_r ?_
       first | (refine fin_pure (rs := [.cell 2 24, .tmp 3]) rfl (by first | (simp (disch := first | omega | (simp only [List.length_map, List.length_append, List.length_set, List.length_cons, List.length_nil]; omega)) only [go_sem, ↓reduceIte, Nat.reduceEqDiff, reduceCtorEq, q7] <;> rfl) | rfl) (by first | rfl | (simp (disch := first | omega | (simp only [List.length_map, List.length_append, List.length_set, List.length_cons, List.length_nil]; omega)) only [go_sem, ↓reduceIte, Nat.reduceEqDiff, reduceCtorEq, q7] <;> rfl)) ?_; refine ⟨?_, rfl⟩; rw [pr_n hno] <;> rfl; done) | (exfalso; have h8 : ok = true := (by assumption); have h9 : ok = false := (by assumption); rw [h8] at h9; cases h9; done) | (refine fin_pure (rs := [.cell 2 24, .tmp 3]) rfl (by first | (simp (disch := first | omega | (simp only [List.length_map, List.length_append, List.length_set, List.length_cons, List.length_nil]; omega)) only [go_sem, ↓reduceIte, Nat.reduceEqDiff, reduceCtorEq, q7] <;> rfl) | rfl) (by first | rfl | (simp (disch := first | omega | (simp only [List.length_map, List.length_append, List.length_set, List.length_cons, List.length_nil]; omega)) only [go_sem, ↓reduceIte, Nat.reduceEqDiff, reduceCtorEq, q7] <;> rfl)) ?_; refine ⟨?_, rfl⟩; rw [pr_y hok9, hpvA (by assumption) (by assumption), fS_y hok9.1] <;> rfl; done) | (refine fin_pure (rs := [.cell 2 24, .tmp 3]) rfl (by first | (simp (disch := first | omega | (simp only [List.length_map, List.length_append, List.length_set, List.length_cons, List.length_nil]; omega)) only [go_sem, ↓reduceIte, Nat.reduceEqDiff, reduceCtorEq, q7] <;> rfl) | rfl) (by first | rfl | (simp (disch := first | omega | (simp only [List.length_map, List.length_append, List.length_set, List.length_cons, List.length_nil]; omega)) only [go_sem, ↓reduceIte, Nat.reduceEqDiff, reduceCtorEq, q7] <;> rfl)) ?_; refine ⟨?_, rfl⟩; rw [pr_y hok9, ← hpvB (by assumption) (by assumption)] <;> rfl; done)
      ·
       try simp only [decide_eq_true_eq, decide_eq_false_iff_not, decide_eq_decide, Bool.not_eq_true', Bool.not_eq_false', beq_iff_eq, beq_eq_false_iff_ne, ne_eq, Bool.and_eq_true, Bool.and_eq_false_iff, decide_not] at h7
       refine Ry ?_
       refine Rq ?_
       refine Ry ?_
       refine Rq ?_
       refine Ry ?_
       refine R_q (r := .v (.int .u8 (c : Int))) rfl (by simp only [go_sem, ↓reduceIte, Nat.reduceEqDiff]; rw [ec]; exact ix_bs D i hiD) ?_
       refine Ry ?_
       refine Rq ?_
       refine Rq ?_
       have tr : ∀ a b c d e f g h i j k m n o p q r s t u v w x y : AV, let l := lc_rparse_ok a b c d e f g h i j k m n o; trim ((47,y)::(46,x)::(45,w)::(44,v)::(43,u)::(42,t)::(41,s)::(40,r)::(39,q)::(38,p)::l) l = [(0,a),(2,b),(3,c),(4,d),(5,e),(6,f),(7,g),(16,h),(26,i),(35,j),(47,y),(54,m),(71,n),(84,o)] := by intros; rfl
       refine R_nil (tr ..) ?_; clear tr
       refine then_n ?_
       refine cdd (fun h8 => ?_) (fun h8 => ?_)
       ·
        try simp only [decide_eq_true_eq, decide_eq_false_iff_not, decide_eq_decide, Bool.not_eq_true', Bool.not_eq_false', beq_iff_eq, beq_eq_false_iff_ne, ne_eq, Bool.and_eq_true, Bool.and_eq_false_iff, decide_not] at h8
        refine at_seq rfl ?_
        refine rg rfl ?_
        have hno : ¬ okP l := fun h => by
          have := (okP_parts h).2.2.1 D[i] (by rw [← eD]; exact List.getElem_mem _)
          unfold isD at this
          omega
        refine Rq ?_
        refine A_store ty24 (by simp (disch := first | omega | (simp only [List.length_map, List.length_append, List.length_set, List.length_cons, List.length_nil]; omega)) only [go_sem, ↓reduceIte, Nat.reduceEqDiff, reduceCtorEq] <;> rfl) (by simp (disch := first | omega | (simp only [List.length_map, List.length_append, List.length_set, List.length_cons, List.length_nil]; omega)) only [go_sem, ↓reduceIte, Nat.reduceEqDiff, reduceCtorEq] <;> rfl) q1 ⟨by omega, rfl, Nat.le_refl 2⟩ (k' := [AV.i 0, u6 0]) rfl ?_
        intro H7 w7
        have q7 := w7.new
        refine Rq ?_
        have tr : ∀ a b c d e f g h i j k m n o p q : AV, let l := lc_rparse_ok a b c d e f g h i j k m n o; trim ((3,q)::(48,p)::l) l = [(0,a),(2,b),(3,q),(4,d),(5,e),(6,f),(7,g),(16,h),(26,i),(35,j),(47,k),(54,m),(71,n),(84,o)] := by intros; rfl
        refine R_nil (tr ..) ?_; clear tr
        refine then_n ?_
        refine at_ret rfl ?_
        refine then_r ?_
        refine blk_r ?_
        refine then_r ?_
        refine then_r ?_
        refine blk_r ?_
        refine then_r ?_
        first | (refine fin_pure (rs := [.cell 2 24, .tmp 3]) rfl (by first | (simp (disch := first | omega | (simp only [List.length_map, List.length_append, List.length_set, List.length_cons, List.length_nil]; omega)) only [go_sem, ↓reduceIte, Nat.reduceEqDiff, reduceCtorEq, q7] <;> rfl) | rfl) (by first | rfl | (simp (disch := first | omega | (simp only [List.length_map, List.length_append, List.length_set, List.length_cons, List.length_nil]; omega)) only [go_sem, ↓reduceIte, Nat.reduceEqDiff, reduceCtorEq, q7] <;> rfl)) ?_; refine ⟨?_, rfl⟩; rw [pr_n hno] <;> rfl; done) | (exfalso; have h8 : ok = true := (by assumption); have h9 : ok = false := (by assumption); rw [h8] at h9; cases h9; done) | (refine fin_pure (rs := [.cell 2 24, .tmp 3]) rfl (by first | (simp (disch := first | omega | (simp only [List.length_map, List.length_append, List.length_set, List.length_cons, List.length_nil]; omega)) only [go_sem, ↓reduceIte, Nat.reduceEqDiff, reduceCtorEq, q7] <;> rfl) | rfl) (by first | rfl | (simp (disch := first | omega | (simp only [List.length_map, List.length_append, List.length_set, List.length_cons, List.length_nil]; omega)) only [go_sem, ↓reduceIte, Nat.reduceEqDiff, reduceCtorEq, q7] <;> rfl)) ?_; refine ⟨?_, rfl⟩; rw [pr_y hok9, hpvA (by assumption) (by assumption), fS_y hok9.1] <;> rfl; done) | (refine fin_pure (rs := [.cell 2 24, .tmp 3]) rfl (by first | (simp (disch := first | omega | (simp only [List.length_map, List.length_append, List.length_set, List.length_cons, List.length_nil]; omega)) only [go_sem, ↓reduceIte, Nat.reduceEqDiff, reduceCtorEq, q7] <;> rfl) | rfl) (by first | rfl | (simp (disch := first | omega | (simp only [List.length_map, List.length_append, List.length_set, List.length_cons, List.length_nil]; omega)) only [go_sem, ↓reduceIte, Nat.reduceEqDiff, reduceCtorEq, q7] <;> rfl)) ?_; refine ⟨?_, rfl⟩; rw [pr_y hok9, ← hpvB (by assumption) (by assumption)] <;> rfl; done)
       ·
        try simp only [decide_eq_true_eq, decide_eq_false_iff_not, decide_eq_decide, Bool.not_eq_true', Bool.not_eq_false', beq_iff_eq, beq_eq_false_iff_ne, ne_eq, Bool.and_eq_true, Bool.and_eq_false_iff, decide_not] at h8
        refine at_skip rfl ?_
        refine then_n ?_
        refine at_seq rfl ?_
        refine rg rfl ?_
        refine R_q rfl (by simp (disch := first | omega | (simp only [List.length_map, List.length_append, List.length_set, List.length_cons, List.length_nil]; omega)) only [go_sem, ↓reduceIte, Nat.reduceEqDiff, reduceCtorEq, q2]; rfl) ?_
        refine Rcall ?_
        refine ACall_eq (rscale_ok _ _ w hF 10 (by omega)) ?_
        refine Rq ?_
        refine Rq ?_
        refine Rq ?_
        refine A_store ty24 (by simp (disch := first | omega | (simp only [List.length_map, List.length_append, List.length_set, List.length_cons, List.length_nil]; omega)) only [go_sem, ↓reduceIte, Nat.reduceEqDiff, reduceCtorEq] <;> rfl) (by simp (disch := first | omega | (simp only [List.length_map, List.length_append, List.length_set, List.length_cons, List.length_nil]; omega)) only [go_sem, ↓reduceIte, Nat.reduceEqDiff, reduceCtorEq] <;> rfl) q2 ⟨by omega, rfl, Nat.le_refl 2⟩ (k' := [AV.i ((fS (w * 10)).1 / 18446744073709551616), u6 ((fS (w * 10)).1 % 18446744073709551616)]) rfl ?_
        intro H5 w5
        have q2 := w5.new
        have q1 := (w5.old _ (by omega)).trans q1
        have lq1 := hget_lt q1
        have lq2 := hget_lt q2
        refine Rq ?_
        have tr : ∀ a b c d e f g h i j k m n o p q r s t u : AV, let l := lc_rparse_ok a b c d e f g h i j k m n o; trim ((6,u)::(53,t)::(52,s)::(49,r)::(51,q)::(50,p)::l) l = [(0,a),(2,b),(3,c),(4,d),(5,e),(6,u),(7,g),(16,h),(26,i),(35,j),(47,k),(54,m),(71,n),(84,o)] := by intros; rfl
        refine R_nil (tr ..) ?_; clear tr
        refine then_n ?_
        refine at_seq rfl ?_
        refine rg rfl ?_
        refine Rq ?_
        have tr : ∀ a b c d e f g h i j k m n o p : AV, let l := lc_rparse_ok a b c d e f g h i j k m n o; trim ((54,p)::l) l = [(0,a),(2,b),(3,c),(4,d),(5,e),(6,f),(7,g),(16,h),(26,i),(35,j),(47,k),(54,p),(71,n),(84,o)] := by intros; rfl
        refine R_nil (tr ..) ?_; clear tr
        refine then_n ?_
        refine cdd (fun h9 => ?_) (fun h9 => ?_)
        ·
         try simp only [decide_eq_true_eq, decide_eq_false_iff_not, decide_eq_decide, Bool.not_eq_true', Bool.not_eq_false', beq_iff_eq, beq_eq_false_iff_ne, ne_eq, Bool.and_eq_true, Bool.and_eq_false_iff, decide_not] at h9
         have hF10 : Fw (w * 10) := fS_2t (by assumption)
         rw [fS_y hF10] at q2
         refine rl3 rfl rfl ?_
         refine L_q rfl (by simp (disch := first | omega | (simp only [List.length_map, List.length_append, List.length_set, List.length_cons, List.length_nil]; omega)) only [go_sem, ↓reduceIte, Nat.reduceEqDiff, reduceCtorEq, q2]; rfl) rfl ?_
         refine Lq ?_
         refine Lq ?_
         refine L_q (r := .v (.int .u8 (c : Int))) rfl (by simp only [go_sem, ↓reduceIte, Nat.reduceEqDiff]; rw [ec]; exact ix_bs D i hiD) rfl ?_
         refine Lq ?_
         refine L_q (r := AV.i ((c : Int) - 48)) rfl (by simp only [go_sem, ↓reduceIte, Nat.reduceEqDiff]; exact congrArg (fun z => some (AV.i z)) (by first | omega | (rw [wrap_i64 _ (by omega)]))) rfl ?_
         refine L_nil ?_
         refine Ms ?_
         refine Rcall ?_
         refine ACall_eq (rof_ok _ _ _ (by omega)) ?_
         refine R_end ?_
         refine Ms ?_
         refine Rcall ?_
         refine ACall_eq (rsub_ok _ _ (w * 10) hF10 ((c : Int) - 48) (by unfold Fw; omega)) ?_
         refine R_end ?_
         refine M_nil ?_
         refine Lq ?_
         refine Lq ?_
         refine Lq ?_
         refine L_nil ?_
         refine Ms ?_ (wrC_store (by first | rfl | (simp (disch := first | omega | (simp only [List.length_map, List.length_append, List.length_set, List.length_cons, List.length_nil]; omega)) only [go_sem, ↓reduceIte, Nat.reduceEqDiff, reduceCtorEq] <;> rfl)) (by first | exact List.not_mem_nil | (intro h; cases h; done) | (simp [rdV, isLoad]; done)))
         refine A_store ty24 (by simp (disch := first | omega | (simp only [List.length_map, List.length_append, List.length_set, List.length_cons, List.length_nil]; omega)) only [go_sem, ↓reduceIte, Nat.reduceEqDiff, reduceCtorEq] <;> rfl) (by simp (disch := first | omega | (simp only [List.length_map, List.length_append, List.length_set, List.length_cons, List.length_nil]; omega)) only [go_sem, ↓reduceIte, Nat.reduceEqDiff, reduceCtorEq] <;> rfl) q2 ⟨by omega, rfl, Nat.le_refl 2⟩ (k' := [AV.i ((fS (w * 10 - ((c : Int) - 48))).1 / 18446744073709551616), u6 ((fS (w * 10 - ((c : Int) - 48))).1 % 18446744073709551616)]) rfl ?_
         intro H6 w6
         have q2 := w6.new
         have q1 := (w6.old _ (by omega)).trans q1
         have lq1 := hget_lt q1
         have lq2 := hget_lt q2
         refine R_end ?_
         refine M_nil ?_
         refine Rq ?_
         have tr : ∀ a b c d e f g h i j k m n o p q r s t u v w x y z A : AV, let l := lc_rparse_ok a b c d e f g h i j k m n o; trim ((6,A)::(65,z)::(64,y)::(55,x)::(63,w)::(62,v)::(61,u)::(60,t)::(59,s)::(58,r)::(57,q)::(56,p)::l) l = [(0,a),(2,b),(3,c),(4,d),(5,e),(6,A),(7,g),(16,h),(26,i),(35,j),(47,k),(54,m),(71,n),(84,o)] := by intros; rfl
         refine R_nil (tr ..) ?_; clear tr
         refine blk_n ?_
         refine then_n ?_
         refine rg rfl ?_
         refine Rq ?_
         refine Rq ?_
         refine Rq ?_
         have tr : ∀ a b c d e f g h i j k m n o p q r : AV, let l := lc_rparse_ok a b c d e f g h i j k m n o; trim ((7,r)::(37,q)::(36,p)::l) l = [(0,a),(2,b),(3,c),(4,d),(5,e),(6,f),(7,r),(16,h),(26,i),(35,j),(47,k),(54,m),(71,n),(84,o)] := by intros; rfl
         refine R_nil (tr ..) ?_; clear tr
         refine then_n ?_
         exact ⟨_, _, ⟨i + 1, (fS (w * 10 - ((c : Int) - 48))).2, (fS (w * 10 - ((c : Int) - 48))).1, _, _, _, _, rfl, rfl, by omega, by exact q1, by first | exact q2 | (rw [q2] <;> rfl), by first | exact fS_F _ | (unfold Fw; omega), by first | (intro h; cases h; done) | (intro h; rw [fS_y (fS_2t h)]; show w * 10 - ((c : Int) - 48) = _; omega), by (intro h; first | (have h9 := fS_2f h; unfold Fw at h9; omega) | (unfold Fw at hF10; omega))⟩, by rfl, by omega⟩
        ·
         try simp only [decide_eq_true_eq, decide_eq_false_iff_not, decide_eq_decide, Bool.not_eq_true', Bool.not_eq_false', beq_iff_eq, beq_eq_false_iff_ne, ne_eq, Bool.and_eq_true, Bool.and_eq_false_iff, decide_not] at h9
         have hF10 : ¬ Fw (w * 10) := fS_2f (by assumption)
         rw [fS_n hF10] at q2
         rewrite [show (fS (w * 10)).2 = false by rw [fS_n hF10]]
         refine at_skip rfl ?_
         refine blk_n ?_
         refine then_n ?_
         refine rg rfl ?_
         refine Rq ?_
         refine Rq ?_
         refine Rq ?_
         have tr : ∀ a b c d e f g h i j k m n o p q r : AV, let l := lc_rparse_ok a b c d e f g h i j k m n o; trim ((7,r)::(37,q)::(36,p)::l) l = [(0,a),(2,b),(3,c),(4,d),(5,e),(6,f),(7,r),(16,h),(26,i),(35,j),(47,k),(54,m),(71,n),(84,o)] := by intros; rfl
         refine R_nil (tr ..) ?_; clear tr
         refine then_n ?_
         exact ⟨_, _, ⟨i + 1, false, 0, _, _, _, _, rfl, rfl, by omega, by exact q1, by first | exact q2 | (rw [q2] <;> rfl), by first | exact fS_F _ | (unfold Fw; omega), by first | (intro h; cases h; done) | (intro h; rw [fS_y (fS_2t h)]; show w * 10 - ((c : Int) - 48) = _; omega), by (intro h; first | (have h9 := fS_2f h; unfold Fw at h9; omega) | (unfold Fw at hF10; omega))⟩, by rfl, by omega⟩
     ·
      try simp only [decide_eq_true_eq, decide_eq_false_iff_not, decide_eq_decide, Bool.not_eq_true', Bool.not_eq_false', beq_iff_eq, beq_eq_false_iff_ne, ne_eq, Bool.and_eq_true, Bool.and_eq_false_iff, decide_not] at h6
      refine at_exit rfl ?_
      refine then_x ?_
      refine then_x ?_
      refine blk_x ?_
      refine then_n ?_
      refine at_seq rfl ?_
      refine at_seq rfl ?_
      refine rg rfl ?_
      have hend : ok = true → D.take i = D := fun h => List.take_of_length_le (by first | omega | (exfalso; have h9 : ok = false := (by assumption); rw [h] at h9; cases h9))
      have hpvA : ok = true → D = l → 0 - w = pv l := fun h h1 => by
        have e := hok h
        rw [hend h] at e
        rw [beq_iff_eq.mpr h1] at hsm
        rw [pv, ← eD, sg_f (by cases hh : ng9 l <;> rw [hh] at hsm <;> first | rfl | cases hsm)]
        omega
      have hpvB : ok = true → ¬ D = l → w = pv l := fun h h1 => by
        have e := hok h
        rw [hend h] at e
        rw [beq_eq_false_iff_ne.mpr h1] at hsm
        rw [pv, ← eD, sg_t (by cases hh : ng9 l <;> rw [hh] at hsm <;> first | rfl | cases hsm)]
        exact e
      have hnoC : ok = false → ¬ okP l := fun h h1 => by
        have h2 := okP_val h1
        have h3 := hbad h
        have h4 := vd_le D i
        rw [← eD] at h2
        omega
      refine Rq ?_
      refine Rq ?_
      refine Rp_split (fun h10 => ?_) (fun h10 => ?_)
      ·
       try simp only [decide_eq_true_eq, decide_eq_false_iff_not, decide_eq_decide, Bool.not_eq_true', Bool.not_eq_false', beq_iff_eq, beq_eq_false_iff_ne, ne_eq, Bool.and_eq_true, Bool.and_eq_false_iff, decide_not] at h10
       refine Ry ?_
       refine Rq ?_
       refine Ry ?_
       refine Rq ?_
       refine Ry ?_
       refine Rq ?_
       refine Rq ?_
       have tr : ∀ a b c d e f g h i j k m n o p q r s t u : AV, let l := lc_rparse_ok a b c d e f g h i j k m n o; trim ((71,u)::(70,t)::(69,s)::(68,r)::(67,q)::(66,p)::l) l = [(0,a),(2,b),(3,c),(4,d),(5,e),(6,f),(7,g),(16,h),(26,i),(35,j),(47,k),(54,m),(71,u),(84,o)] := by intros; rfl
       refine R_nil (tr ..) ?_; clear tr
       refine then_n ?_
       refine cdd (fun h11 => ?_) (fun h11 => ?_)
       ·
        try simp only [decide_eq_true_eq, decide_eq_false_iff_not, decide_eq_decide, Bool.not_eq_true', Bool.not_eq_false', beq_iff_eq, beq_eq_false_iff_ne, ne_eq, Bool.and_eq_true, Bool.and_eq_false_iff, decide_not] at h11
        refine rg rfl ?_
        refine R_q rfl (by simp (disch := first | omega | (simp only [List.length_map, List.length_append, List.length_set, List.length_cons, List.length_nil]; omega)) only [go_sem, ↓reduceIte, Nat.reduceEqDiff, reduceCtorEq, q2]; rfl) ?_
        refine Rcall ?_
        refine ACall_eq (rneg_ok _ _ w hF) ?_
        refine Rq ?_
        refine Rq ?_
        refine Rq ?_
        refine A_store ty24 (by simp (disch := first | omega | (simp only [List.length_map, List.length_append, List.length_set, List.length_cons, List.length_nil]; omega)) only [go_sem, ↓reduceIte, Nat.reduceEqDiff, reduceCtorEq] <;> rfl) (by simp (disch := first | omega | (simp only [List.length_map, List.length_append, List.length_set, List.length_cons, List.length_nil]; omega)) only [go_sem, ↓reduceIte, Nat.reduceEqDiff, reduceCtorEq] <;> rfl) q2 ⟨by omega, rfl, Nat.le_refl 2⟩ (k' := [AV.i ((fS (0 - w)).1 / 18446744073709551616), u6 ((fS (0 - w)).1 % 18446744073709551616)]) rfl ?_
        intro H5 w5
        have q2 := w5.new
        have q1 := (w5.old _ (by omega)).trans q1
        have lq1 := hget_lt q1
        have lq2 := hget_lt q2
        refine Rq ?_
        have tr : ∀ a b c d e f g h i j k m n o p q r s t u : AV, let l := lc_rparse_ok a b c d e f g h i j k m n o; trim ((6,u)::(76,t)::(75,s)::(72,r)::(74,q)::(73,p)::l) l = [(0,a),(2,b),(3,c),(4,d),(5,e),(6,u),(7,g),(16,h),(26,i),(35,j),(47,k),(54,m),(71,n),(84,o)] := by intros; rfl
        refine R_nil (tr ..) ?_; clear tr
        refine then_n ?_
        refine at_seq rfl ?_
        refine at_seq rfl ?_
        refine rg rfl ?_
        refine Rq ?_
        refine Rq ?_
        refine Rq ?_
        refine Rp_split (fun h12 => ?_) (fun h12 => ?_)
        ·
         try simp only [decide_eq_true_eq, decide_eq_false_iff_not, decide_eq_decide, Bool.not_eq_true', Bool.not_eq_false', beq_iff_eq, beq_eq_false_iff_ne, ne_eq, Bool.and_eq_true, Bool.and_eq_false_iff, decide_not] at h12
         refine Rn ?_
         refine Rn ?_
         refine Rn ?_
         refine Rn ?_
         refine Rq ?_
         have tr : ∀ a b c d e f g h i j k m n o p q r s t u v w : AV, let l := lc_rparse_ok a b c d e f g h i j k m n o; trim ((84,w)::(83,v)::(82,u)::(81,t)::(80,s)::(79,r)::(78,q)::(77,p)::l) l = [(0,a),(2,b),(3,c),(4,d),(5,e),(6,f),(7,g),(16,h),(26,i),(35,j),(47,k),(54,m),(71,n),(84,w)] := by intros; rfl
         refine R_nil (tr ..) ?_; clear tr
         refine then_n ?_
         refine cdt ?_
         refine at_seq rfl ?_
         refine rg rfl ?_
         have hno : ¬ okP l := by
           first
           | exact hnoC (by assumption)
           | (intro h; exact fS_2f (n := 0 - w) (by assumption) (by rw [hpvA (by assumption) (by assumption)]; exact h.1))
           | (intro h; have e := hpvA (by assumption) (by assumption); have h1 : ¬ txW (fS (0 - w)).1 = l := (by assumption); rw [e, fS_y h.1] at h1; exact h1 h.2)
           | (intro h; have e := hpvB (by assumption) (by assumption); have h1 : ¬ txW w = l := (by assumption); rw [e] at h1; exact h1 h.2)
         refine Rq ?_
         refine A_store ty24 (by simp (disch := first | omega | (simp only [List.length_map, List.length_append, List.length_set, List.length_cons, List.length_nil]; omega)) only [go_sem, ↓reduceIte, Nat.reduceEqDiff, reduceCtorEq] <;> rfl) (by simp (disch := first | omega | (simp only [List.length_map, List.length_append, List.length_set, List.length_cons, List.length_nil]; omega)) only [go_sem, ↓reduceIte, Nat.reduceEqDiff, reduceCtorEq] <;> rfl) q1 ⟨by omega, rfl, Nat.le_refl 2⟩ (k' := [AV.i 0, u6 0]) rfl ?_
         intro H7 w7
         have q7 := w7.new
         refine Rq ?_
         have tr : ∀ a b c d e f g h i j k m n o p q : AV, let l := lc_rparse_ok a b c d e f g h i j k m n o; trim ((3,q)::(85,p)::l) l = [(0,a),(2,b),(3,q),(4,d),(5,e),(6,f),(7,g),(16,h),(26,i),(35,j),(47,k),(54,m),(71,n),(84,o)] := by intros; rfl
         refine R_nil (tr ..) ?_; clear tr
         refine then_n ?_
         refine at_ret rfl ?_
         refine then_r ?_
         first | (refine fin_pure (rs := [.cell 2 24, .tmp 3]) rfl (by first | (simp (disch := first | omega | (simp only [List.length_map, List.length_append, List.length_set, List.length_cons, List.length_nil]; omega)) only [go_sem, ↓reduceIte, Nat.reduceEqDiff, reduceCtorEq, q7] <;> rfl) | rfl) (by first | rfl | (simp (disch := first | omega | (simp only [List.length_map, List.length_append, List.length_set, List.length_cons, List.length_nil]; omega)) only [go_sem, ↓reduceIte, Nat.reduceEqDiff, reduceCtorEq, q7] <;> rfl)) ?_; refine ⟨?_, rfl⟩; rw [pr_n hno] <;> rfl; done) | (exfalso; have h8 : ok = true := (by assumption); have h9 : ok = false := (by assumption); rw [h8] at h9; cases h9; done) | (refine fin_pure (rs := [.cell 2 24, .tmp 3]) rfl (by first | (simp (disch := first | omega | (simp only [List.length_map, List.length_append, List.length_set, List.length_cons, List.length_nil]; omega)) only [go_sem, ↓reduceIte, Nat.reduceEqDiff, reduceCtorEq, q7] <;> rfl) | rfl) (by first | rfl | (simp (disch := first | omega | (simp only [List.length_map, List.length_append, List.length_set, List.length_cons, List.length_nil]; omega)) only [go_sem, ↓reduceIte, Nat.reduceEqDiff, reduceCtorEq, q7] <;> rfl)) ?_; refine ⟨?_, rfl⟩; rw [pr_y hok9, hpvA (by assumption) (by assumption), fS_y hok9.1] <;> rfl; done) | (refine fin_pure (rs := [.cell 2 24, .tmp 3]) rfl (by first | (simp (disch := first | omega | (simp only [List.length_map, List.length_append, List.length_set, List.length_cons, List.length_nil]; omega)) only [go_sem, ↓reduceIte, Nat.reduceEqDiff, reduceCtorEq, q7] <;> rfl) | rfl) (by first | rfl | (simp (disch := first | omega | (simp only [List.length_map, List.length_append, List.length_set, List.length_cons, List.length_nil]; omega)) only [go_sem, ↓reduceIte, Nat.reduceEqDiff, reduceCtorEq, q7] <;> rfl)) ?_; refine ⟨?_, rfl⟩; rw [pr_y hok9, ← hpvB (by assumption) (by assumption)] <;> rfl; done)
        ·
         try simp only [decide_eq_true_eq, decide_eq_false_iff_not, decide_eq_decide, Bool.not_eq_true', Bool.not_eq_false', beq_iff_eq, beq_eq_false_iff_ne, ne_eq, Bool.and_eq_true, Bool.and_eq_false_iff, decide_not] at h12
         refine Ry ?_
         refine R_q rfl (by simp (disch := first | omega | (simp only [List.length_map, List.length_append, List.length_set, List.length_cons, List.length_nil]; omega)) only [go_sem, ↓reduceIte, Nat.reduceEqDiff, reduceCtorEq, q2]; rfl) ?_
         refine Ry ?_
         refine Rcall ?_
         first | refine ACall_eq (rtext_ok _ _ (fS (0 - w)).1 (fS_F _)) ?_ | refine ACall_eq (rtext_ok _ _ w hF) ?_
         refine Ry ?_
         refine Rq ?_
         refine Ry ?_
         refine Rq ?_
         refine Rq ?_
         have tr : ∀ a b c d e f g h i j k m n o p q r s t u v w : AV, let l := lc_rparse_ok a b c d e f g h i j k m n o; trim ((84,w)::(83,v)::(82,u)::(81,t)::(80,s)::(79,r)::(78,q)::(77,p)::l) l = [(0,a),(2,b),(3,c),(4,d),(5,e),(6,f),(7,g),(16,h),(26,i),(35,j),(47,k),(54,m),(71,n),(84,w)] := by intros; rfl
         refine R_nil (tr ..) ?_; clear tr
         refine then_n ?_
         refine cdd (fun h13 => ?_) (fun h13 => ?_)
         ·
          try simp only [decide_eq_true_eq, decide_eq_false_iff_not, decide_eq_decide, Bool.not_eq_true', Bool.not_eq_false', beq_iff_eq, beq_eq_false_iff_ne, ne_eq, Bool.and_eq_true, Bool.and_eq_false_iff, decide_not] at h13
          refine at_seq rfl ?_
          refine rg rfl ?_
          have hno : ¬ okP l := by
            first
            | exact hnoC (by assumption)
            | (intro h; exact fS_2f (n := 0 - w) (by assumption) (by rw [hpvA (by assumption) (by assumption)]; exact h.1))
            | (intro h; have e := hpvA (by assumption) (by assumption); have h1 : ¬ txW (fS (0 - w)).1 = l := (by assumption); rw [e, fS_y h.1] at h1; exact h1 h.2)
            | (intro h; have e := hpvB (by assumption) (by assumption); have h1 : ¬ txW w = l := (by assumption); rw [e] at h1; exact h1 h.2)
          refine Rq ?_
          refine A_store ty24 (by simp (disch := first | omega | (simp only [List.length_map, List.length_append, List.length_set, List.length_cons, List.length_nil]; omega)) only [go_sem, ↓reduceIte, Nat.reduceEqDiff, reduceCtorEq] <;> rfl) (by simp (disch := first | omega | (simp only [List.length_map, List.length_append, List.length_set, List.length_cons, List.length_nil]; omega)) only [go_sem, ↓reduceIte, Nat.reduceEqDiff, reduceCtorEq] <;> rfl) q1 ⟨by omega, rfl, Nat.le_refl 2⟩ (k' := [AV.i 0, u6 0]) rfl ?_
          intro H7 w7
          have q7 := w7.new
          refine Rq ?_
          have tr : ∀ a b c d e f g h i j k m n o p q : AV, let l := lc_rparse_ok a b c d e f g h i j k m n o; trim ((3,q)::(85,p)::l) l = [(0,a),(2,b),(3,q),(4,d),(5,e),(6,f),(7,g),(16,h),(26,i),(35,j),(47,k),(54,m),(71,n),(84,o)] := by intros; rfl
          refine R_nil (tr ..) ?_; clear tr
          refine then_n ?_
          refine at_ret rfl ?_
          refine then_r ?_
          first | (refine fin_pure (rs := [.cell 2 24, .tmp 3]) rfl (by first | (simp (disch := first | omega | (simp only [List.length_map, List.length_append, List.length_set, List.length_cons, List.length_nil]; omega)) only [go_sem, ↓reduceIte, Nat.reduceEqDiff, reduceCtorEq, q7] <;> rfl) | rfl) (by first | rfl | (simp (disch := first | omega | (simp only [List.length_map, List.length_append, List.length_set, List.length_cons, List.length_nil]; omega)) only [go_sem, ↓reduceIte, Nat.reduceEqDiff, reduceCtorEq, q7] <;> rfl)) ?_; refine ⟨?_, rfl⟩; rw [pr_n hno] <;> rfl; done) | (exfalso; have h8 : ok = true := (by assumption); have h9 : ok = false := (by assumption); rw [h8] at h9; cases h9; done) | (refine fin_pure (rs := [.cell 2 24, .tmp 3]) rfl (by first | (simp (disch := first | omega | (simp only [List.length_map, List.length_append, List.length_set, List.length_cons, List.length_nil]; omega)) only [go_sem, ↓reduceIte, Nat.reduceEqDiff, reduceCtorEq, q7] <;> rfl) | rfl) (by first | rfl | (simp (disch := first | omega | (simp only [List.length_map, List.length_append, List.length_set, List.length_cons, List.length_nil]; omega)) only [go_sem, ↓reduceIte, Nat.reduceEqDiff, reduceCtorEq, q7] <;> rfl)) ?_; refine ⟨?_, rfl⟩; rw [pr_y hok9, hpvA (by assumption) (by assumption), fS_y hok9.1] <;> rfl; done) | (refine fin_pure (rs := [.cell 2 24, .tmp 3]) rfl (by first | (simp (disch := first | omega | (simp only [List.length_map, List.length_append, List.length_set, List.length_cons, List.length_nil]; omega)) only [go_sem, ↓reduceIte, Nat.reduceEqDiff, reduceCtorEq, q7] <;> rfl) | rfl) (by first | rfl | (simp (disch := first | omega | (simp only [List.length_map, List.length_append, List.length_set, List.length_cons, List.length_nil]; omega)) only [go_sem, ↓reduceIte, Nat.reduceEqDiff, reduceCtorEq, q7] <;> rfl)) ?_; refine ⟨?_, rfl⟩; rw [pr_y hok9, ← hpvB (by assumption) (by assumption)] <;> rfl; done)
         ·
          try simp only [decide_eq_true_eq, decide_eq_false_iff_not, decide_eq_decide, Bool.not_eq_true', Bool.not_eq_false', beq_iff_eq, beq_eq_false_iff_ne, ne_eq, Bool.and_eq_true, Bool.and_eq_false_iff, decide_not] at h13
          refine at_skip rfl ?_
          refine then_n ?_
          refine at_seq rfl ?_
          refine rg rfl ?_
          have hok9 : okP l := by
            first
            | (exfalso; have h8 : ok = true := (by assumption); have h9 : ok = false := (by assumption); rw [h8] at h9; cases h9; done)
            | (have e := hpvA (by assumption) (by assumption); have h1 : txW (fS (0 - w)).1 = l := (by assumption); have hF9 : Fw (pv l) := (by rw [← e]; exact fS_2t (by assumption)); rw [e, fS_y hF9] at h1; exact ⟨hF9, h1⟩)
            | (have e := hpvB (by assumption) (by assumption); have h1 : txW w = l := (by assumption); exact ⟨by rw [← e]; exact hF, by rw [← e]; exact h1⟩)
          refine R_q rfl (by simp (disch := first | omega | (simp only [List.length_map, List.length_append, List.length_set, List.length_cons, List.length_nil]; omega)) only [go_sem, ↓reduceIte, Nat.reduceEqDiff, reduceCtorEq, q2]; rfl) ?_
          first
          | (refine A_store ty24 (by simp (disch := first | omega | (simp only [List.length_map, List.length_append, List.length_set, List.length_cons, List.length_nil]; omega)) only [go_sem, ↓reduceIte, Nat.reduceEqDiff, reduceCtorEq] <;> rfl) (by simp (disch := first | omega | (simp only [List.length_map, List.length_append, List.length_set, List.length_cons, List.length_nil]; omega)) only [go_sem, ↓reduceIte, Nat.reduceEqDiff, reduceCtorEq] <;> rfl) q1 ⟨by omega, rfl, Nat.le_refl 2⟩ (k' := [AV.i ((fS (0 - w)).1 / 18446744073709551616), u6 ((fS (0 - w)).1 % 18446744073709551616)]) rfl ?_)
          | (refine A_store ty24 (by simp (disch := first | omega | (simp only [List.length_map, List.length_append, List.length_set, List.length_cons, List.length_nil]; omega)) only [go_sem, ↓reduceIte, Nat.reduceEqDiff, reduceCtorEq] <;> rfl) (by simp (disch := first | omega | (simp only [List.length_map, List.length_append, List.length_set, List.length_cons, List.length_nil]; omega)) only [go_sem, ↓reduceIte, Nat.reduceEqDiff, reduceCtorEq] <;> rfl) q1 ⟨by omega, rfl, Nat.le_refl 2⟩ (k' := [AV.i (w / 18446744073709551616), u6 (w % 18446744073709551616)]) rfl ?_)
          intro H7 w7
          have q7 := w7.new
          refine Rq ?_
          have tr : ∀ a b c d e f g h i j k m n o p q : AV, let l := lc_rparse_ok a b c d e f g h i j k m n o; trim ((3,q)::(86,p)::l) l = [(0,a),(2,b),(3,q),(4,d),(5,e),(6,f),(7,g),(16,h),(26,i),(35,j),(47,k),(54,m),(71,n),(84,o)] := by intros; rfl
          refine R_nil (tr ..) ?_; clear tr
          refine then_n ?_
          refine at_ret rfl ?_
          first | (refine fin_pure (rs := [.cell 2 24, .tmp 3]) rfl (by first | (simp (disch := first | omega | (simp only [List.length_map, List.length_append, List.length_set, List.length_cons, List.length_nil]; omega)) only [go_sem, ↓reduceIte, Nat.reduceEqDiff, reduceCtorEq, q7] <;> rfl) | rfl) (by first | rfl | (simp (disch := first | omega | (simp only [List.length_map, List.length_append, List.length_set, List.length_cons, List.length_nil]; omega)) only [go_sem, ↓reduceIte, Nat.reduceEqDiff, reduceCtorEq, q7] <;> rfl)) ?_; refine ⟨?_, rfl⟩; rw [pr_n hno] <;> rfl; done) | (exfalso; have h8 : ok = true := (by assumption); have h9 : ok = false := (by assumption); rw [h8] at h9; cases h9; done) | (refine fin_pure (rs := [.cell 2 24, .tmp 3]) rfl (by first | (simp (disch := first | omega | (simp only [List.length_map, List.length_append, List.length_set, List.length_cons, List.length_nil]; omega)) only [go_sem, ↓reduceIte, Nat.reduceEqDiff, reduceCtorEq, q7] <;> rfl) | rfl) (by first | rfl | (simp (disch := first | omega | (simp only [List.length_map, List.length_append, List.length_set, List.length_cons, List.length_nil]; omega)) only [go_sem, ↓reduceIte, Nat.reduceEqDiff, reduceCtorEq, q7] <;> rfl)) ?_; refine ⟨?_, rfl⟩; rw [pr_y hok9, hpvA (by assumption) (by assumption), fS_y hok9.1] <;> rfl; done) | (refine fin_pure (rs := [.cell 2 24, .tmp 3]) rfl (by first | (simp (disch := first | omega | (simp only [List.length_map, List.length_append, List.length_set, List.length_cons, List.length_nil]; omega)) only [go_sem, ↓reduceIte, Nat.reduceEqDiff, reduceCtorEq, q7] <;> rfl) | rfl) (by first | rfl | (simp (disch := first | omega | (simp only [List.length_map, List.length_append, List.length_set, List.length_cons, List.length_nil]; omega)) only [go_sem, ↓reduceIte, Nat.reduceEqDiff, reduceCtorEq, q7] <;> rfl)) ?_; refine ⟨?_, rfl⟩; rw [pr_y hok9, ← hpvB (by assumption) (by assumption)] <;> rfl; done)
       ·
        try simp only [decide_eq_true_eq, decide_eq_false_iff_not, decide_eq_decide, Bool.not_eq_true', Bool.not_eq_false', beq_iff_eq, beq_eq_false_iff_ne, ne_eq, Bool.and_eq_true, Bool.and_eq_false_iff, decide_not] at h11
        refine at_skip rfl ?_
        refine then_n ?_
        refine at_seq rfl ?_
        refine at_seq rfl ?_
        refine rg rfl ?_
        refine Rq ?_
        refine Rq ?_
        refine Rq ?_
        refine Rp_split (fun h14 => ?_) (fun h14 => ?_)
        ·
         try simp only [decide_eq_true_eq, decide_eq_false_iff_not, decide_eq_decide, Bool.not_eq_true', Bool.not_eq_false', beq_iff_eq, beq_eq_false_iff_ne, ne_eq, Bool.and_eq_true, Bool.and_eq_false_iff, decide_not] at h14
         refine Rn ?_
         refine Rn ?_
         refine Rn ?_
         refine Rn ?_
         refine Rq ?_
         have tr : ∀ a b c d e f g h i j k m n o p q r s t u v w : AV, let l := lc_rparse_ok a b c d e f g h i j k m n o; trim ((84,w)::(83,v)::(82,u)::(81,t)::(80,s)::(79,r)::(78,q)::(77,p)::l) l = [(0,a),(2,b),(3,c),(4,d),(5,e),(6,f),(7,g),(16,h),(26,i),(35,j),(47,k),(54,m),(71,n),(84,w)] := by intros; rfl
         refine R_nil (tr ..) ?_; clear tr
         refine then_n ?_
         refine cdt ?_
         refine at_seq rfl ?_
         refine rg rfl ?_
         have hno : ¬ okP l := by
           first
           | exact hnoC (by assumption)
           | (intro h; exact fS_2f (n := 0 - w) (by assumption) (by rw [hpvA (by assumption) (by assumption)]; exact h.1))
           | (intro h; have e := hpvA (by assumption) (by assumption); have h1 : ¬ txW (fS (0 - w)).1 = l := (by assumption); rw [e, fS_y h.1] at h1; exact h1 h.2)
           | (intro h; have e := hpvB (by assumption) (by assumption); have h1 : ¬ txW w = l := (by assumption); rw [e] at h1; exact h1 h.2)
         refine Rq ?_
         refine A_store ty24 (by simp (disch := first | omega | (simp only [List.length_map, List.length_append, List.length_set, List.length_cons, List.length_nil]; omega)) only [go_sem, ↓reduceIte, Nat.reduceEqDiff, reduceCtorEq] <;> rfl) (by simp (disch := first | omega | (simp only [List.length_map, List.length_append, List.length_set, List.length_cons, List.length_nil]; omega)) only [go_sem, ↓reduceIte, Nat.reduceEqDiff, reduceCtorEq] <;> rfl) q1 ⟨by omega, rfl, Nat.le_refl 2⟩ (k' := [AV.i 0, u6 0]) rfl ?_
         intro H7 w7
         have q7 := w7.new
         refine Rq ?_
         have tr : ∀ a b c d e f g h i j k m n o p q : AV, let l := lc_rparse_ok a b c d e f g h i j k m n o; trim ((3,q)::(85,p)::l) l = [(0,a),(2,b),(3,q),(4,d),(5,e),(6,f),(7,g),(16,h),(26,i),(35,j),(47,k),(54,m),(71,n),(84,o)] := by intros; rfl
         refine R_nil (tr ..) ?_; clear tr
         refine then_n ?_
         refine at_ret rfl ?_
         refine then_r ?_
         first | (refine fin_pure (rs := [.cell 2 24, .tmp 3]) rfl (by first | (simp (disch := first | omega | (simp only [List.length_map, List.length_append, List.length_set, List.length_cons, List.length_nil]; omega)) only [go_sem, ↓reduceIte, Nat.reduceEqDiff, reduceCtorEq, q7] <;> rfl) | rfl) (by first | rfl | (simp (disch := first | omega | (simp only [List.length_map, List.length_append, List.length_set, List.length_cons, List.length_nil]; omega)) only [go_sem, ↓reduceIte, Nat.reduceEqDiff, reduceCtorEq, q7] <;> rfl)) ?_; refine ⟨?_, rfl⟩; rw [pr_n hno] <;> rfl; done) | (exfalso; have h8 : ok = true := (by assumption); have h9 : ok = false := (by assumption); rw [h8] at h9; cases h9; done) | (refine fin_pure (rs := [.cell 2 24, .tmp 3]) rfl (by first | (simp (disch := first | omega | (simp only [List.length_map, List.length_append, List.length_set, List.length_cons, List.length_nil]; omega)) only [go_sem, ↓reduceIte, Nat.reduceEqDiff, reduceCtorEq, q7] <;> rfl) | rfl) (by first | rfl | (simp (disch := first | omega | (simp only [List.length_map, List.length_append, List.length_set, List.length_cons, List.length_nil]; omega)) only [go_sem, ↓reduceIte, Nat.reduceEqDiff, reduceCtorEq, q7] <;> rfl)) ?_; refine ⟨?_, rfl⟩; rw [pr_y hok9, hpvA (by assumption) (by assumption), fS_y hok9.1] <;> rfl; done) | (refine fin_pure (rs := [.cell 2 24, .tmp 3]) rfl (by first | (simp (disch := first | omega | (simp only [List.length_map, List.length_append, List.length_set, List.length_cons, List.length_nil]; omega)) only [go_sem, ↓reduceIte, Nat.reduceEqDiff, reduceCtorEq, q7] <;> rfl) | rfl) (by first | rfl | (simp (disch := first | omega | (simp only [List.length_map, List.length_append, List.length_set, List.length_cons, List.length_nil]; omega)) only [go_sem, ↓reduceIte, Nat.reduceEqDiff, reduceCtorEq, q7] <;> rfl)) ?_; refine ⟨?_, rfl⟩; rw [pr_y hok9, ← hpvB (by assumption) (by assumption)] <;> rfl; done)
        ·
         try simp only [decide_eq_true_eq, decide_eq_false_iff_not, decide_eq_decide, Bool.not_eq_true', Bool.not_eq_false', beq_iff_eq, beq_eq_false_iff_ne, ne_eq, Bool.and_eq_true, Bool.and_eq_false_iff, decide_not] at h14
         refine Ry ?_
         refine R_q rfl (by simp (disch := first | omega | (simp only [List.length_map, List.length_append, List.length_set, List.length_cons, List.length_nil]; omega)) only [go_sem, ↓reduceIte, Nat.reduceEqDiff, reduceCtorEq, q2]; rfl) ?_
         refine Ry ?_
         refine Rcall ?_
         first | refine ACall_eq (rtext_ok _ _ (fS (0 - w)).1 (fS_F _)) ?_ | refine ACall_eq (rtext_ok _ _ w hF) ?_
         refine Ry ?_
         refine Rq ?_
         refine Ry ?_
         refine Rq ?_
         refine Rq ?_
         have tr : ∀ a b c d e f g h i j k m n o p q r s t u v w : AV, let l := lc_rparse_ok a b c d e f g h i j k m n o; trim ((84,w)::(83,v)::(82,u)::(81,t)::(80,s)::(79,r)::(78,q)::(77,p)::l) l = [(0,a),(2,b),(3,c),(4,d),(5,e),(6,f),(7,g),(16,h),(26,i),(35,j),(47,k),(54,m),(71,n),(84,w)] := by intros; rfl
         refine R_nil (tr ..) ?_; clear tr
         refine then_n ?_
         refine cdd (fun h15 => ?_) (fun h15 => ?_)
         ·
          try simp only [decide_eq_true_eq, decide_eq_false_iff_not, decide_eq_decide, Bool.not_eq_true', Bool.not_eq_false', beq_iff_eq, beq_eq_false_iff_ne, ne_eq, Bool.and_eq_true, Bool.and_eq_false_iff, decide_not] at h15
          refine at_seq rfl ?_
          refine rg rfl ?_
          have hno : ¬ okP l := by
            first
            | exact hnoC (by assumption)
            | (intro h; exact fS_2f (n := 0 - w) (by assumption) (by rw [hpvA (by assumption) (by assumption)]; exact h.1))
            | (intro h; have e := hpvA (by assumption) (by assumption); have h1 : ¬ txW (fS (0 - w)).1 = l := (by assumption); rw [e, fS_y h.1] at h1; exact h1 h.2)
            | (intro h; have e := hpvB (by assumption) (by assumption); have h1 : ¬ txW w = l := (by assumption); rw [e] at h1; exact h1 h.2)
          refine Rq ?_
          refine A_store ty24 (by simp (disch := first | omega | (simp only [List.length_map, List.length_append, List.length_set, List.length_cons, List.length_nil]; omega)) only [go_sem, ↓reduceIte, Nat.reduceEqDiff, reduceCtorEq] <;> rfl) (by simp (disch := first | omega | (simp only [List.length_map, List.length_append, List.length_set, List.length_cons, List.length_nil]; omega)) only [go_sem, ↓reduceIte, Nat.reduceEqDiff, reduceCtorEq] <;> rfl) q1 ⟨by omega, rfl, Nat.le_refl 2⟩ (k' := [AV.i 0, u6 0]) rfl ?_
          intro H7 w7
          have q7 := w7.new
          refine Rq ?_
          have tr : ∀ a b c d e f g h i j k m n o p q : AV, let l := lc_rparse_ok a b c d e f g h i j k m n o; trim ((3,q)::(85,p)::l) l = [(0,a),(2,b),(3,q),(4,d),(5,e),(6,f),(7,g),(16,h),(26,i),(35,j),(47,k),(54,m),(71,n),(84,o)] := by intros; rfl
          refine R_nil (tr ..) ?_; clear tr
          refine then_n ?_
          refine at_ret rfl ?_
          refine then_r ?_
          first | (refine fin_pure (rs := [.cell 2 24, .tmp 3]) rfl (by first | (simp (disch := first | omega | (simp only [List.length_map, List.length_append, List.length_set, List.length_cons, List.length_nil]; omega)) only [go_sem, ↓reduceIte, Nat.reduceEqDiff, reduceCtorEq, q7] <;> rfl) | rfl) (by first | rfl | (simp (disch := first | omega | (simp only [List.length_map, List.length_append, List.length_set, List.length_cons, List.length_nil]; omega)) only [go_sem, ↓reduceIte, Nat.reduceEqDiff, reduceCtorEq, q7] <;> rfl)) ?_; refine ⟨?_, rfl⟩; rw [pr_n hno] <;> rfl; done) | (exfalso; have h8 : ok = true := (by assumption); have h9 : ok = false := (by assumption); rw [h8] at h9; cases h9; done) | (refine fin_pure (rs := [.cell 2 24, .tmp 3]) rfl (by first | (simp (disch := first | omega | (simp only [List.length_map, List.length_append, List.length_set, List.length_cons, List.length_nil]; omega)) only [go_sem, ↓reduceIte, Nat.reduceEqDiff, reduceCtorEq, q7] <;> rfl) | rfl) (by first | rfl | (simp (disch := first | omega | (simp only [List.length_map, List.length_append, List.length_set, List.length_cons, List.length_nil]; omega)) only [go_sem, ↓reduceIte, Nat.reduceEqDiff, reduceCtorEq, q7] <;> rfl)) ?_; refine ⟨?_, rfl⟩; rw [pr_y hok9, hpvA (by assumption) (by assumption), fS_y hok9.1] <;> rfl; done) | (refine fin_pure (rs := [.cell 2 24, .tmp 3]) rfl (by first | (simp (disch := first | omega | (simp only [List.length_map, List.length_append, List.length_set, List.length_cons, List.length_nil]; omega)) only [go_sem, ↓reduceIte, Nat.reduceEqDiff, reduceCtorEq, q7] <;> rfl) | rfl) (by first | rfl | (simp (disch := first | omega | (simp only [List.length_map, List.length_append, List.length_set, List.length_cons, List.length_nil]; omega)) only [go_sem, ↓reduceIte, Nat.reduceEqDiff, reduceCtorEq, q7] <;> rfl)) ?_; refine ⟨?_, rfl⟩; rw [pr_y hok9, ← hpvB (by assumption) (by assumption)] <;> rfl; done)
         ·
          try simp only [decide_eq_true_eq, decide_eq_false_iff_not, decide_eq_decide, Bool.not_eq_true', Bool.not_eq_false', beq_iff_eq, beq_eq_false_iff_ne, ne_eq, Bool.and_eq_true, Bool.and_eq_false_iff, decide_not] at h15
          refine at_skip rfl ?_
          refine then_n ?_
          refine at_seq rfl ?_
          refine rg rfl ?_
          have hok9 : okP l := by
            first
            | (exfalso; have h8 : ok = true := (by assumption); have h9 : ok = false := (by assumption); rw [h8] at h9; cases h9; done)
            | (have e := hpvA (by assumption) (by assumption); have h1 : txW (fS (0 - w)).1 = l := (by assumption); have hF9 : Fw (pv l) := (by rw [← e]; exact fS_2t (by assumption)); rw [e, fS_y hF9] at h1; exact ⟨hF9, h1⟩)
            | (have e := hpvB (by assumption) (by assumption); have h1 : txW w = l := (by assumption); exact ⟨by rw [← e]; exact hF, by rw [← e]; exact h1⟩)
          refine R_q rfl (by simp (disch := first | omega | (simp only [List.length_map, List.length_append, List.length_set, List.length_cons, List.length_nil]; omega)) only [go_sem, ↓reduceIte, Nat.reduceEqDiff, reduceCtorEq, q2]; rfl) ?_
          first
          | (refine A_store ty24 (by simp (disch := first | omega | (simp only [List.length_map, List.length_append, List.length_set, List.length_cons, List.length_nil]; omega)) only [go_sem, ↓reduceIte, Nat.reduceEqDiff, reduceCtorEq] <;> rfl) (by simp (disch := first | omega | (simp only [List.length_map, List.length_append, List.length_set, List.length_cons, List.length_nil]; omega)) only [go_sem, ↓reduceIte, Nat.reduceEqDiff, reduceCtorEq] <;> rfl) q1 ⟨by omega, rfl, Nat.le_refl 2⟩ (k' := [AV.i ((fS (0 - w)).1 / 18446744073709551616), u6 ((fS (0 - w)).1 % 18446744073709551616)]) rfl ?_)
          | (refine A_store ty24 (by simp (disch := first | omega | (simp only [List.length_map, List.length_append, List.length_set, List.length_cons, List.length_nil]; omega)) only [go_sem, ↓reduceIte, Nat.reduceEqDiff, reduceCtorEq] <;> rfl) (by simp (disch := first | omega | (simp only [List.length_map, List.length_append, List.length_set, List.length_cons, List.length_nil]; omega)) only [go_sem, ↓reduceIte, Nat.reduceEqDiff, reduceCtorEq] <;> rfl) q1 ⟨by omega, rfl, Nat.le_refl 2⟩ (k' := [AV.i (w / 18446744073709551616), u6 (w % 18446744073709551616)]) rfl ?_)
          intro H7 w7
          have q7 := w7.new
          refine Rq ?_
          have tr : ∀ a b c d e f g h i j k m n o p q : AV, let l := lc_rparse_ok a b c d e f g h i j k m n o; trim ((3,q)::(86,p)::l) l = [(0,a),(2,b),(3,q),(4,d),(5,e),(6,f),(7,g),(16,h),(26,i),(35,j),(47,k),(54,m),(71,n),(84,o)] := by intros; rfl
          refine R_nil (tr ..) ?_; clear tr
          refine then_n ?_
          refine at_ret rfl ?_
          first | (refine fin_pure (rs := [.cell 2 24, .tmp 3]) rfl (by first | (simp (disch := first | omega | (simp only [List.length_map, List.length_append, List.length_set, List.length_cons, List.length_nil]; omega)) only [go_sem, ↓reduceIte, Nat.reduceEqDiff, reduceCtorEq, q7] <;> rfl) | rfl) (by first | rfl | (simp (disch := first | omega | (simp only [List.length_map, List.length_append, List.length_set, List.length_cons, List.length_nil]; omega)) only [go_sem, ↓reduceIte, Nat.reduceEqDiff, reduceCtorEq, q7] <;> rfl)) ?_; refine ⟨?_, rfl⟩; rw [pr_n hno] <;> rfl; done) | (exfalso; have h8 : ok = true := (by assumption); have h9 : ok = false := (by assumption); rw [h8] at h9; cases h9; done) | (refine fin_pure (rs := [.cell 2 24, .tmp 3]) rfl (by first | (simp (disch := first | omega | (simp only [List.length_map, List.length_append, List.length_set, List.length_cons, List.length_nil]; omega)) only [go_sem, ↓reduceIte, Nat.reduceEqDiff, reduceCtorEq, q7] <;> rfl) | rfl) (by first | rfl | (simp (disch := first | omega | (simp only [List.length_map, List.length_append, List.length_set, List.length_cons, List.length_nil]; omega)) only [go_sem, ↓reduceIte, Nat.reduceEqDiff, reduceCtorEq, q7] <;> rfl)) ?_; refine ⟨?_, rfl⟩; rw [pr_y hok9, hpvA (by assumption) (by assumption), fS_y hok9.1] <;> rfl; done) | (refine fin_pure (rs := [.cell 2 24, .tmp 3]) rfl (by first | (simp (disch := first | omega | (simp only [List.length_map, List.length_append, List.length_set, List.length_cons, List.length_nil]; omega)) only [go_sem, ↓reduceIte, Nat.reduceEqDiff, reduceCtorEq, q7] <;> rfl) | rfl) (by first | rfl | (simp (disch := first | omega | (simp only [List.length_map, List.length_append, List.length_set, List.length_cons, List.length_nil]; omega)) only [go_sem, ↓reduceIte, Nat.reduceEqDiff, reduceCtorEq, q7] <;> rfl)) ?_; refine ⟨?_, rfl⟩; rw [pr_y hok9, ← hpvB (by assumption) (by assumption)] <;> rfl; done)
      ·
       try simp only [decide_eq_true_eq, decide_eq_false_iff_not, decide_eq_decide, Bool.not_eq_true', Bool.not_eq_false', beq_iff_eq, beq_eq_false_iff_ne, ne_eq, Bool.and_eq_true, Bool.and_eq_false_iff, decide_not] at h10
       refine Rn ?_
       refine Rn ?_
       refine Rn ?_
       refine Rq ?_
       have tr : ∀ a b c d e f g h i j k m n o p q r s t u : AV, let l := lc_rparse_ok a b c d e f g h i j k m n o; trim ((71,u)::(70,t)::(69,s)::(68,r)::(67,q)::(66,p)::l) l = [(0,a),(2,b),(3,c),(4,d),(5,e),(6,f),(7,g),(16,h),(26,i),(35,j),(47,k),(54,m),(71,u),(84,o)] := by intros; rfl
       refine R_nil (tr ..) ?_; clear tr
       refine then_n ?_
       refine cdf ?_
       refine at_skip rfl ?_
       refine then_n ?_
       refine at_seq rfl ?_
       refine at_seq rfl ?_
       refine rg rfl ?_
       refine Rq ?_
       refine Rq ?_
       refine Rq ?_
       refine Rp_split (fun h16 => ?_) (fun h16 => ?_)
       ·
        try simp only [decide_eq_true_eq, decide_eq_false_iff_not, decide_eq_decide, Bool.not_eq_true', Bool.not_eq_false', beq_iff_eq, beq_eq_false_iff_ne, ne_eq, Bool.and_eq_true, Bool.and_eq_false_iff, decide_not] at h16
        refine Rn ?_
        refine Rn ?_
        refine Rn ?_
        refine Rn ?_
        refine Rq ?_
        have tr : ∀ a b c d e f g h i j k m n o p q r s t u v w : AV, let l := lc_rparse_ok a b c d e f g h i j k m n o; trim ((84,w)::(83,v)::(82,u)::(81,t)::(80,s)::(79,r)::(78,q)::(77,p)::l) l = [(0,a),(2,b),(3,c),(4,d),(5,e),(6,f),(7,g),(16,h),(26,i),(35,j),(47,k),(54,m),(71,n),(84,w)] := by intros; rfl
        refine R_nil (tr ..) ?_; clear tr
        refine then_n ?_
        refine cdt ?_
        refine at_seq rfl ?_
        refine rg rfl ?_
        have hno : ¬ okP l := by
          first
          | exact hnoC (by assumption)
          | (intro h; exact fS_2f (n := 0 - w) (by assumption) (by rw [hpvA (by assumption) (by assumption)]; exact h.1))
          | (intro h; have e := hpvA (by assumption) (by assumption); have h1 : ¬ txW (fS (0 - w)).1 = l := (by assumption); rw [e, fS_y h.1] at h1; exact h1 h.2)
          | (intro h; have e := hpvB (by assumption) (by assumption); have h1 : ¬ txW w = l := (by assumption); rw [e] at h1; exact h1 h.2)
        refine Rq ?_
        refine A_store ty24 (by simp (disch := first | omega | (simp only [List.length_map, List.length_append, List.length_set, List.length_cons, List.length_nil]; omega)) only [go_sem, ↓reduceIte, Nat.reduceEqDiff, reduceCtorEq] <;> rfl) (by simp (disch := first | omega | (simp only [List.length_map, List.length_append, List.length_set, List.length_cons, List.length_nil]; omega)) only [go_sem, ↓reduceIte, Nat.reduceEqDiff, reduceCtorEq] <;> rfl) q1 ⟨by omega, rfl, Nat.le_refl 2⟩ (k' := [AV.i 0, u6 0]) rfl ?_
        intro H7 w7
        have q7 := w7.new
        refine Rq ?_
        have tr : ∀ a b c d e f g h i j k m n o p q : AV, let l := lc_rparse_ok a b c d e f g h i j k m n o; trim ((3,q)::(85,p)::l) l = [(0,a),(2,b),(3,q),(4,d),(5,e),(6,f),(7,g),(16,h),(26,i),(35,j),(47,k),(54,m),(71,n),(84,o)] := by intros; rfl
        refine R_nil (tr ..) ?_; clear tr
        refine then_n ?_
        refine at_ret rfl ?_
        refine then_r ?_
        first | (refine fin_pure (rs := [.cell 2 24, .tmp 3]) rfl (by first | (simp (disch := first | omega | (simp only [List.length_map, List.length_append, List.length_set, List.length_cons, List.length_nil]; omega)) only [go_sem, ↓reduceIte, Nat.reduceEqDiff, reduceCtorEq, q7] <;> rfl) | rfl) (by first | rfl | (simp (disch := first | omega | (simp only [List.length_map, List.length_append, List.length_set, List.length_cons, List.length_nil]; omega)) only [go_sem, ↓reduceIte, Nat.reduceEqDiff, reduceCtorEq, q7] <;> rfl)) ?_; refine ⟨?_, rfl⟩; rw [pr_n hno] <;> rfl; done) | (exfalso; have h8 : ok = true := (by assumption); have h9 : ok = false := (by assumption); rw [h8] at h9; cases h9; done) | (refine fin_pure (rs := [.cell 2 24, .tmp 3]) rfl (by first | (simp (disch := first | omega | (simp only [List.length_map, List.length_append, List.length_set, List.length_cons, List.length_nil]; omega)) only [go_sem, ↓reduceIte, Nat.reduceEqDiff, reduceCtorEq, q7] <;> rfl) | rfl) (by first | rfl | (simp (disch := first | omega | (simp only [List.length_map, List.length_append, List.length_set, List.length_cons, List.length_nil]; omega)) only [go_sem, ↓reduceIte, Nat.reduceEqDiff, reduceCtorEq, q7] <;> rfl)) ?_; refine ⟨?_, rfl⟩; rw [pr_y hok9, hpvA (by assumption) (by assumption), fS_y hok9.1] <;> rfl; done) | (refine fin_pure (rs := [.cell 2 24, .tmp 3]) rfl (by first | (simp (disch := first | omega | (simp only [List.length_map, List.length_append, List.length_set, List.length_cons, List.length_nil]; omega)) only [go_sem, ↓reduceIte, Nat.reduceEqDiff, reduceCtorEq, q7] <;> rfl) | rfl) (by first | rfl | (simp (disch := first | omega | (simp only [List.length_map, List.length_append, List.length_set, List.length_cons, List.length_nil]; omega)) only [go_sem, ↓reduceIte, Nat.reduceEqDiff, reduceCtorEq, q7] <;> rfl)) ?_; refine ⟨?_, rfl⟩; rw [pr_y hok9, ← hpvB (by assumption) (by assumption)] <;> rfl; done)
       ·
        try simp only [decide_eq_true_eq, decide_eq_false_iff_not, decide_eq_decide, Bool.not_eq_true', Bool.not_eq_false', beq_iff_eq, beq_eq_false_iff_ne, ne_eq, Bool.and_eq_true, Bool.and_eq_false_iff, decide_not] at h16
        refine Ry ?_
        refine R_q rfl (by simp (disch := first | omega | (simp only [List.length_map, List.length_append, List.length_set, List.length_cons, List.length_nil]; omega)) only [go_sem, ↓reduceIte, Nat.reduceEqDiff, reduceCtorEq, q2]; rfl) ?_
        refine Ry ?_
        refine Rcall ?_
        first | refine ACall_eq (rtext_ok _ _ (fS (0 - w)).1 (fS_F _)) ?_ | refine ACall_eq (rtext_ok _ _ w hF) ?_
        refine Ry ?_
        refine Rq ?_
        refine Ry ?_
        refine Rq ?_
        refine Rq ?_
        have tr : ∀ a b c d e f g h i j k m n o p q r s t u v w : AV, let l := lc_rparse_ok a b c d e f g h i j k m n o; trim ((84,w)::(83,v)::(82,u)::(81,t)::(80,s)::(79,r)::(78,q)::(77,p)::l) l = [(0,a),(2,b),(3,c),(4,d),(5,e),(6,f),(7,g),(16,h),(26,i),(35,j),(47,k),(54,m),(71,n),(84,w)] := by intros; rfl
        refine R_nil (tr ..) ?_; clear tr
        refine then_n ?_
        refine cdd (fun h17 => ?_) (fun h17 => ?_)
        ·
         try simp only [decide_eq_true_eq, decide_eq_false_iff_not, decide_eq_decide, Bool.not_eq_true', Bool.not_eq_false', beq_iff_eq, beq_eq_false_iff_ne, ne_eq, Bool.and_eq_true, Bool.and_eq_false_iff, decide_not] at h17
         refine at_seq rfl ?_
         refine rg rfl ?_
         have hno : ¬ okP l := by
           first
           | exact hnoC (by assumption)
           | (intro h; exact fS_2f (n := 0 - w) (by assumption) (by rw [hpvA (by assumption) (by assumption)]; exact h.1))
           | (intro h; have e := hpvA (by assumption) (by assumption); have h1 : ¬ txW (fS (0 - w)).1 = l := (by assumption); rw [e, fS_y h.1] at h1; exact h1 h.2)
           | (intro h; have e := hpvB (by assumption) (by assumption); have h1 : ¬ txW w = l := (by assumption); rw [e] at h1; exact h1 h.2)
         refine Rq ?_
         refine A_store ty24 (by simp (disch := first | omega | (simp only [List.length_map, List.length_append, List.length_set, List.length_cons, List.length_nil]; omega)) only [go_sem, ↓reduceIte, Nat.reduceEqDiff, reduceCtorEq] <;> rfl) (by simp (disch := first | omega | (simp only [List.length_map, List.length_append, List.length_set, List.length_cons, List.length_nil]; omega)) only [go_sem, ↓reduceIte, Nat.reduceEqDiff, reduceCtorEq] <;> rfl) q1 ⟨by omega, rfl, Nat.le_refl 2⟩ (k' := [AV.i 0, u6 0]) rfl ?_
         intro H7 w7
         have q7 := w7.new
         refine Rq ?_
         have tr : ∀ a b c d e f g h i j k m n o p q : AV, let l := lc_rparse_ok a b c d e f g h i j k m n o; trim ((3,q)::(85,p)::l) l = [(0,a),(2,b),(3,q),(4,d),(5,e),(6,f),(7,g),(16,h),(26,i),(35,j),(47,k),(54,m),(71,n),(84,o)] := by intros; rfl
         refine R_nil (tr ..) ?_; clear tr
         refine then_n ?_
         refine at_ret rfl ?_
         refine then_r ?_
         first | (refine fin_pure (rs := [.cell 2 24, .tmp 3]) rfl (by first | (simp (disch := first | omega | (simp only [List.length_map, List.length_append, List.length_set, List.length_cons, List.length_nil]; omega)) only [go_sem, ↓reduceIte, Nat.reduceEqDiff, reduceCtorEq, q7] <;> rfl) | rfl) (by first | rfl | (simp (disch := first | omega | (simp only [List.length_map, List.length_append, List.length_set, List.length_cons, List.length_nil]; omega)) only [go_sem, ↓reduceIte, Nat.reduceEqDiff, reduceCtorEq, q7] <;> rfl)) ?_; refine ⟨?_, rfl⟩; rw [pr_n hno] <;> rfl; done) | (exfalso; have h8 : ok = true := (by assumption); have h9 : ok = false := (by assumption); rw [h8] at h9; cases h9; done) | (refine fin_pure (rs := [.cell 2 24, .tmp 3]) rfl (by first | (simp (disch := first | omega | (simp only [List.length_map, List.length_append, List.length_set, List.length_cons, List.length_nil]; omega)) only [go_sem, ↓reduceIte, Nat.reduceEqDiff, reduceCtorEq, q7] <;> rfl) | rfl) (by first | rfl | (simp (disch := first | omega | (simp only [List.length_map, List.length_append, List.length_set, List.length_cons, List.length_nil]; omega)) only [go_sem, ↓reduceIte, Nat.reduceEqDiff, reduceCtorEq, q7] <;> rfl)) ?_; refine ⟨?_, rfl⟩; rw [pr_y hok9, hpvA (by assumption) (by assumption), fS_y hok9.1] <;> rfl; done) | (refine fin_pure (rs := [.cell 2 24, .tmp 3]) rfl (by first | (simp (disch := first | omega | (simp only [List.length_map, List.length_append, List.length_set, List.length_cons, List.length_nil]; omega)) only [go_sem, ↓reduceIte, Nat.reduceEqDiff, reduceCtorEq, q7] <;> rfl) | rfl) (by first | rfl | (simp (disch := first | omega | (simp only [List.length_map, List.length_append, List.length_set, List.length_cons, List.length_nil]; omega)) only [go_sem, ↓reduceIte, Nat.reduceEqDiff, reduceCtorEq, q7] <;> rfl)) ?_; refine ⟨?_, rfl⟩; rw [pr_y hok9, ← hpvB (by assumption) (by assumption)] <;> rfl; done)
        ·
         try simp only [decide_eq_true_eq, decide_eq_false_iff_not, decide_eq_decide, Bool.not_eq_true', Bool.not_eq_false', beq_iff_eq, beq_eq_false_iff_ne, ne_eq, Bool.and_eq_true, Bool.and_eq_false_iff, decide_not] at h17
         refine at_skip rfl ?_
         refine then_n ?_
         refine at_seq rfl ?_
         refine rg rfl ?_
         have hok9 : okP l := by
           first
           | (exfalso; have h8 : ok = true := (by assumption); have h9 : ok = false := (by assumption); rw [h8] at h9; cases h9; done)
           | (have e := hpvA (by assumption) (by assumption); have h1 : txW (fS (0 - w)).1 = l := (by assumption); have hF9 : Fw (pv l) := (by rw [← e]; exact fS_2t (by assumption)); rw [e, fS_y hF9] at h1; exact ⟨hF9, h1⟩)
           | (have e := hpvB (by assumption) (by assumption); have h1 : txW w = l := (by assumption); exact ⟨by rw [← e]; exact hF, by rw [← e]; exact h1⟩)
         refine R_q rfl (by simp (disch := first | omega | (simp only [List.length_map, List.length_append, List.length_set, List.length_cons, List.length_nil]; omega)) only [go_sem, ↓reduceIte, Nat.reduceEqDiff, reduceCtorEq, q2]; rfl) ?_
         first
         | (refine A_store ty24 (by simp (disch := first | omega | (simp only [List.length_map, List.length_append, List.length_set, List.length_cons, List.length_nil]; omega)) only [go_sem, ↓reduceIte, Nat.reduceEqDiff, reduceCtorEq] <;> rfl) (by simp (disch := first | omega | (simp only [List.length_map, List.length_append, List.length_set, List.length_cons, List.length_nil]; omega)) only [go_sem, ↓reduceIte, Nat.reduceEqDiff, reduceCtorEq] <;> rfl) q1 ⟨by omega, rfl, Nat.le_refl 2⟩ (k' := [AV.i ((fS (0 - w)).1 / 18446744073709551616), u6 ((fS (0 - w)).1 % 18446744073709551616)]) rfl ?_)
         | (refine A_store ty24 (by simp (disch := first | omega | (simp only [List.length_map, List.length_append, List.length_set, List.length_cons, List.length_nil]; omega)) only [go_sem, ↓reduceIte, Nat.reduceEqDiff, reduceCtorEq] <;> rfl) (by simp (disch := first | omega | (simp only [List.length_map, List.length_append, List.length_set, List.length_cons, List.length_nil]; omega)) only [go_sem, ↓reduceIte, Nat.reduceEqDiff, reduceCtorEq] <;> rfl) q1 ⟨by omega, rfl, Nat.le_refl 2⟩ (k' := [AV.i (w / 18446744073709551616), u6 (w % 18446744073709551616)]) rfl ?_)
         intro H7 w7
         have q7 := w7.new
         refine Rq ?_
         have tr : ∀ a b c d e f g h i j k m n o p q : AV, let l := lc_rparse_ok a b c d e f g h i j k m n o; trim ((3,q)::(86,p)::l) l = [(0,a),(2,b),(3,q),(4,d),(5,e),(6,f),(7,g),(16,h),(26,i),(35,j),(47,k),(54,m),(71,n),(84,o)] := by intros; rfl
         refine R_nil (tr ..) ?_; clear tr
         refine then_n ?_
         refine at_ret rfl ?_
         first | (refine fin_pure (rs := [.cell 2 24, .tmp 3]) rfl (by first | (simp (disch := first | omega | (simp only [List.length_map, List.length_append, List.length_set, List.length_cons, List.length_nil]; omega)) only [go_sem, ↓reduceIte, Nat.reduceEqDiff, reduceCtorEq, q7] <;> rfl) | rfl) (by first | rfl | (simp (disch := first | omega | (simp only [List.length_map, List.length_append, List.length_set, List.length_cons, List.length_nil]; omega)) only [go_sem, ↓reduceIte, Nat.reduceEqDiff, reduceCtorEq, q7] <;> rfl)) ?_; refine ⟨?_, rfl⟩; rw [pr_n hno] <;> rfl; done) | (exfalso; have h8 : ok = true := (by assumption); have h9 : ok = false := (by assumption); rw [h8] at h9; cases h9; done) | (refine fin_pure (rs := [.cell 2 24, .tmp 3]) rfl (by first | (simp (disch := first | omega | (simp only [List.length_map, List.length_append, List.length_set, List.length_cons, List.length_nil]; omega)) only [go_sem, ↓reduceIte, Nat.reduceEqDiff, reduceCtorEq, q7] <;> rfl) | rfl) (by first | rfl | (simp (disch := first | omega | (simp only [List.length_map, List.length_append, List.length_set, List.length_cons, List.length_nil]; omega)) only [go_sem, ↓reduceIte, Nat.reduceEqDiff, reduceCtorEq, q7] <;> rfl)) ?_; refine ⟨?_, rfl⟩; rw [pr_y hok9, hpvA (by assumption) (by assumption), fS_y hok9.1] <;> rfl; done) | (refine fin_pure (rs := [.cell 2 24, .tmp 3]) rfl (by first | (simp (disch := first | omega | (simp only [List.length_map, List.length_append, List.length_set, List.length_cons, List.length_nil]; omega)) only [go_sem, ↓reduceIte, Nat.reduceEqDiff, reduceCtorEq, q7] <;> rfl) | rfl) (by first | rfl | (simp (disch := first | omega | (simp only [List.length_map, List.length_append, List.length_set, List.length_cons, List.length_nil]; omega)) only [go_sem, ↓reduceIte, Nat.reduceEqDiff, reduceCtorEq, q7] <;> rfl)) ?_; refine ⟨?_, rfl⟩; rw [pr_y hok9, ← hpvB (by assumption) (by assumption)] <;> rfl; done)
    ·
     try simp only [decide_eq_true_eq, decide_eq_false_iff_not, decide_eq_decide, Bool.not_eq_true', Bool.not_eq_false', beq_iff_eq, beq_eq_false_iff_ne, ne_eq, Bool.and_eq_true, Bool.and_eq_false_iff, decide_not] at h5
     refine Rn ?_
     refine Rq ?_
     have tr : ∀ a b c d e f g h i j k m n o p q r s t u v : AV, let l := lc_rparse_ok a b c d e f g h i j k m n o; trim ((35,v)::(34,u)::(33,t)::(32,s)::(31,r)::(30,q)::(29,p)::l) l = [(0,a),(2,b),(3,c),(4,d),(5,e),(6,f),(7,g),(16,h),(26,i),(35,v),(47,k),(54,m),(71,n),(84,o)] := by intros; rfl
     refine R_nil (tr ..) ?_; clear tr
     refine then_n ?_
     refine cdf ?_
     refine at_exit rfl ?_
     refine then_x ?_
     refine then_x ?_
     refine blk_x ?_
     refine then_n ?_
     refine at_seq rfl ?_
     refine at_seq rfl ?_
     refine rg rfl ?_
     have hend : ok = true → D.take i = D := fun h => List.take_of_length_le (by first | omega | (exfalso; have h9 : ok = false := (by assumption); rw [h] at h9; cases h9))
     have hpvA : ok = true → D = l → 0 - w = pv l := fun h h1 => by
       have e := hok h
       rw [hend h] at e
       rw [beq_iff_eq.mpr h1] at hsm
       rw [pv, ← eD, sg_f (by cases hh : ng9 l <;> rw [hh] at hsm <;> first | rfl | cases hsm)]
       omega
     have hpvB : ok = true → ¬ D = l → w = pv l := fun h h1 => by
       have e := hok h
       rw [hend h] at e
       rw [beq_eq_false_iff_ne.mpr h1] at hsm
       rw [pv, ← eD, sg_t (by cases hh : ng9 l <;> rw [hh] at hsm <;> first | rfl | cases hsm)]
       exact e
     have hnoC : ok = false → ¬ okP l := fun h h1 => by
       have h2 := okP_val h1
       have h3 := hbad h
       have h4 := vd_le D i
       rw [← eD] at h2
       omega
     refine Rq ?_
     refine Rq ?_
     refine Rp_split (fun h18 => ?_) (fun h18 => ?_)
     ·
      try simp only [decide_eq_true_eq, decide_eq_false_iff_not, decide_eq_decide, Bool.not_eq_true', Bool.not_eq_false', beq_iff_eq, beq_eq_false_iff_ne, ne_eq, Bool.and_eq_true, Bool.and_eq_false_iff, decide_not] at h18
      refine Ry ?_
      refine Rq ?_
      refine Ry ?_
      refine Rq ?_
      refine Ry ?_
      refine Rq ?_
      refine Rq ?_
      have tr : ∀ a b c d e f g h i j k m n o p q r s t u : AV, let l := lc_rparse_ok a b c d e f g h i j k m n o; trim ((71,u)::(70,t)::(69,s)::(68,r)::(67,q)::(66,p)::l) l = [(0,a),(2,b),(3,c),(4,d),(5,e),(6,f),(7,g),(16,h),(26,i),(35,j),(47,k),(54,m),(71,u),(84,o)] := by intros; rfl
      refine R_nil (tr ..) ?_; clear tr
      refine then_n ?_
      refine cdd (fun h19 => ?_) (fun h19 => ?_)
      ·
       try simp only [decide_eq_true_eq, decide_eq_false_iff_not, decide_eq_decide, Bool.not_eq_true', Bool.not_eq_false', beq_iff_eq, beq_eq_false_iff_ne, ne_eq, Bool.and_eq_true, Bool.and_eq_false_iff, decide_not] at h19
       refine rg rfl ?_
       refine R_q rfl (by simp (disch := first | omega | (simp only [List.length_map, List.length_append, List.length_set, List.length_cons, List.length_nil]; omega)) only [go_sem, ↓reduceIte, Nat.reduceEqDiff, reduceCtorEq, q2]; rfl) ?_
       refine Rcall ?_
       refine ACall_eq (rneg_ok _ _ w hF) ?_
       refine Rq ?_
       refine Rq ?_
       refine Rq ?_
       refine A_store ty24 (by simp (disch := first | omega | (simp only [List.length_map, List.length_append, List.length_set, List.length_cons, List.length_nil]; omega)) only [go_sem, ↓reduceIte, Nat.reduceEqDiff, reduceCtorEq] <;> rfl) (by simp (disch := first | omega | (simp only [List.length_map, List.length_append, List.length_set, List.length_cons, List.length_nil]; omega)) only [go_sem, ↓reduceIte, Nat.reduceEqDiff, reduceCtorEq] <;> rfl) q2 ⟨by omega, rfl, Nat.le_refl 2⟩ (k' := [AV.i ((fS (0 - w)).1 / 18446744073709551616), u6 ((fS (0 - w)).1 % 18446744073709551616)]) rfl ?_
       intro H5 w5
       have q2 := w5.new
       have q1 := (w5.old _ (by omega)).trans q1
       have lq1 := hget_lt q1
       have lq2 := hget_lt q2
       refine Rq ?_
       have tr : ∀ a b c d e f g h i j k m n o p q r s t u : AV, let l := lc_rparse_ok a b c d e f g h i j k m n o; trim ((6,u)::(76,t)::(75,s)::(72,r)::(74,q)::(73,p)::l) l = [(0,a),(2,b),(3,c),(4,d),(5,e),(6,u),(7,g),(16,h),(26,i),(35,j),(47,k),(54,m),(71,n),(84,o)] := by intros; rfl
       refine R_nil (tr ..) ?_; clear tr
       refine then_n ?_
       refine at_seq rfl ?_
       refine at_seq rfl ?_
       refine rg rfl ?_
       refine Rq ?_
       refine Rq ?_
       refine Rq ?_
       refine Rp_split (fun h20 => ?_) (fun h20 => ?_)
       ·
        try simp only [decide_eq_true_eq, decide_eq_false_iff_not, decide_eq_decide, Bool.not_eq_true', Bool.not_eq_false', beq_iff_eq, beq_eq_false_iff_ne, ne_eq, Bool.and_eq_true, Bool.and_eq_false_iff, decide_not] at h20
        refine Rn ?_
        refine Rn ?_
        refine Rn ?_
        refine Rn ?_
        refine Rq ?_
        have tr : ∀ a b c d e f g h i j k m n o p q r s t u v w : AV, let l := lc_rparse_ok a b c d e f g h i j k m n o; trim ((84,w)::(83,v)::(82,u)::(81,t)::(80,s)::(79,r)::(78,q)::(77,p)::l) l = [(0,a),(2,b),(3,c),(4,d),(5,e),(6,f),(7,g),(16,h),(26,i),(35,j),(47,k),(54,m),(71,n),(84,w)] := by intros; rfl
        refine R_nil (tr ..) ?_; clear tr
        refine then_n ?_
        refine cdt ?_
        refine at_seq rfl ?_
        refine rg rfl ?_
        have hno : ¬ okP l := by
          first
          | exact hnoC (by assumption)
          | (intro h; exact fS_2f (n := 0 - w) (by assumption) (by rw [hpvA (by assumption) (by assumption)]; exact h.1))
          | (intro h; have e := hpvA (by assumption) (by assumption); have h1 : ¬ txW (fS (0 - w)).1 = l := (by assumption); rw [e, fS_y h.1] at h1; exact h1 h.2)
          | (intro h; have e := hpvB (by assumption) (by assumption); have h1 : ¬ txW w = l := (by assumption); rw [e] at h1; exact h1 h.2)
        refine Rq ?_
        refine A_store ty24 (by simp (disch := first | omega | (simp only [List.length_map, List.length_append, List.length_set, List.length_cons, List.length_nil]; omega)) only [go_sem, ↓reduceIte, Nat.reduceEqDiff, reduceCtorEq] <;> rfl) (by simp (disch := first | omega | (simp only [List.length_map, List.length_append, List.length_set, List.length_cons, List.length_nil]; omega)) only [go_sem, ↓reduceIte, Nat.reduceEqDiff, reduceCtorEq] <;> rfl) q1 ⟨by omega, rfl, Nat.le_refl 2⟩ (k' := [AV.i 0, u6 0]) rfl ?_
        intro H7 w7
        have q7 := w7.new
        refine Rq ?_
        have tr : ∀ a b c d e f g h i j k m n o p q : AV, let l := lc_rparse_ok a b c d e f g h i j k m n o; trim ((3,q)::(85,p)::l) l = [(0,a),(2,b),(3,q),(4,d),(5,e),(6,f),(7,g),(16,h),(26,i),(35,j),(47,k),(54,m),(71,n),(84,o)] := by intros; rfl
        refine R_nil (tr ..) ?_; clear tr
        refine then_n ?_
        refine at_ret rfl ?_
        refine then_r ?_
        first | (refine fin_pure (rs := [.cell 2 24, .tmp 3]) rfl (by first | (simp (disch := first | omega | (simp only [List.length_map, List.length_append, List.length_set, List.length_cons, List.length_nil]; omega)) only [go_sem, ↓reduceIte, Nat.reduceEqDiff, reduceCtorEq, q7] <;> rfl) | rfl) (by first | rfl | (simp (disch := first | omega | (simp only [List.length_map, List.length_append, List.length_set, List.length_cons, List.length_nil]; omega)) only [go_sem, ↓reduceIte, Nat.reduceEqDiff, reduceCtorEq, q7] <;> rfl)) ?_; refine ⟨?_, rfl⟩; rw [pr_n hno] <;> rfl; done) | (exfalso; have h8 : ok = true := (by assumption); have h9 : ok = false := (by assumption); rw [h8] at h9; cases h9; done) | (refine fin_pure (rs := [.cell 2 24, .tmp 3]) rfl (by first | (simp (disch := first | omega | (simp only [List.length_map, List.length_append, List.length_set, List.length_cons, List.length_nil]; omega)) only [go_sem, ↓reduceIte, Nat.reduceEqDiff, reduceCtorEq, q7] <;> rfl) | rfl) (by first | rfl | (simp (disch := first | omega | (simp only [List.length_map, List.length_append, List.length_set, List.length_cons, List.length_nil]; omega)) only [go_sem, ↓reduceIte, Nat.reduceEqDiff, reduceCtorEq, q7] <;> rfl)) ?_; refine ⟨?_, rfl⟩; rw [pr_y hok9, hpvA (by assumption) (by assumption), fS_y hok9.1] <;> rfl; done) | (refine fin_pure (rs := [.cell 2 24, .tmp 3]) rfl (by first | (simp (disch := first | omega | (simp only [List.length_map, List.length_append, List.length_set, List.length_cons, List.length_nil]; omega)) only [go_sem, ↓reduceIte, Nat.reduceEqDiff, reduceCtorEq, q7] <;> rfl) | rfl) (by first | rfl | (simp (disch := first | omega | (simp only [List.length_map, List.length_append, List.length_set, List.length_cons, List.length_nil]; omega)) only [go_sem, ↓reduceIte, Nat.reduceEqDiff, reduceCtorEq, q7] <;> rfl)) ?_; refine ⟨?_, rfl⟩; rw [pr_y hok9, ← hpvB (by assumption) (by assumption)] <;> rfl; done)
       ·
        try simp only [decide_eq_true_eq, decide_eq_false_iff_not, decide_eq_decide, Bool.not_eq_true', Bool.not_eq_false', beq_iff_eq, beq_eq_false_iff_ne, ne_eq, Bool.and_eq_true, Bool.and_eq_false_iff, decide_not] at h20
        refine Ry ?_
        refine R_q rfl (by simp (disch := first | omega | (simp only [List.length_map, List.length_append, List.length_set, List.length_cons, List.length_nil]; omega)) only [go_sem, ↓reduceIte, Nat.reduceEqDiff, reduceCtorEq, q2]; rfl) ?_
        refine Ry ?_
        refine Rcall ?_
        first | refine ACall_eq (rtext_ok _ _ (fS (0 - w)).1 (fS_F _)) ?_ | refine ACall_eq (rtext_ok _ _ w hF) ?_
        refine Ry ?_
        refine Rq ?_
        refine Ry ?_
        refine Rq ?_
        refine Rq ?_
        have tr : ∀ a b c d e f g h i j k m n o p q r s t u v w : AV, let l := lc_rparse_ok a b c d e f g h i j k m n o; trim ((84,w)::(83,v)::(82,u)::(81,t)::(80,s)::(79,r)::(78,q)::(77,p)::l) l = [(0,a),(2,b),(3,c),(4,d),(5,e),(6,f),(7,g),(16,h),(26,i),(35,j),(47,k),(54,m),(71,n),(84,w)] := by intros; rfl
        refine R_nil (tr ..) ?_; clear tr
        refine then_n ?_
        refine cdd (fun h21 => ?_) (fun h21 => ?_)
        ·
         try simp only [decide_eq_true_eq, decide_eq_false_iff_not, decide_eq_decide, Bool.not_eq_true', Bool.not_eq_false', beq_iff_eq, beq_eq_false_iff_ne, ne_eq, Bool.and_eq_true, Bool.and_eq_false_iff, decide_not] at h21
         refine at_seq rfl ?_
         refine rg rfl ?_
         have hno : ¬ okP l := by
           first
           | exact hnoC (by assumption)
           | (intro h; exact fS_2f (n := 0 - w) (by assumption) (by rw [hpvA (by assumption) (by assumption)]; exact h.1))
           | (intro h; have e := hpvA (by assumption) (by assumption); have h1 : ¬ txW (fS (0 - w)).1 = l := (by assumption); rw [e, fS_y h.1] at h1; exact h1 h.2)
           | (intro h; have e := hpvB (by assumption) (by assumption); have h1 : ¬ txW w = l := (by assumption); rw [e] at h1; exact h1 h.2)
         refine Rq ?_
         refine A_store ty24 (by simp (disch := first | omega | (simp only [List.length_map, List.length_append, List.length_set, List.length_cons, List.length_nil]; omega)) only [go_sem, ↓reduceIte, Nat.reduceEqDiff, reduceCtorEq] <;> rfl) (by simp (disch := first | omega | (simp only [List.length_map, List.length_append, List.length_set, List.length_cons, List.length_nil]; omega)) only [go_sem, ↓reduceIte, Nat.reduceEqDiff, reduceCtorEq] <;> rfl) q1 ⟨by omega, rfl, Nat.le_refl 2⟩ (k' := [AV.i 0, u6 0]) rfl ?_
         intro H7 w7
         have q7 := w7.new
         refine Rq ?_
         have tr : ∀ a b c d e f g h i j k m n o p q : AV, let l := lc_rparse_ok a b c d e f g h i j k m n o; trim ((3,q)::(85,p)::l) l = [(0,a),(2,b),(3,q),(4,d),(5,e),(6,f),(7,g),(16,h),(26,i),(35,j),(47,k),(54,m),(71,n),(84,o)] := by intros; rfl
         refine R_nil (tr ..) ?_; clear tr
         refine then_n ?_
         refine at_ret rfl ?_
         refine then_r ?_
         first | (refine fin_pure (rs := [.cell 2 24, .tmp 3]) rfl (by first | (simp (disch := first | omega | (simp only [List.length_map, List.length_append, List.length_set, List.length_cons, List.length_nil]; omega)) only [go_sem, ↓reduceIte, Nat.reduceEqDiff, reduceCtorEq, q7] <;> rfl) | rfl) (by first | rfl | (simp (disch := first | omega | (simp only [List.length_map, List.length_append, List.length_set, List.length_cons, List.length_nil]; omega)) only [go_sem, ↓reduceIte, Nat.reduceEqDiff, reduceCtorEq, q7] <;> rfl)) ?_; refine ⟨?_, rfl⟩; rw [pr_n hno] <;> rfl; done) | (exfalso; have h8 : ok = true := (by assumption); have h9 : ok = false := (by assumption); rw [h8] at h9; cases h9; done) | (refine fin_pure (rs := [.cell 2 24, .tmp 3]) rfl (by first | (simp (disch := first | omega | (simp only [List.length_map, List.length_append, List.length_set, List.length_cons, List.length_nil]; omega)) only [go_sem, ↓reduceIte, Nat.reduceEqDiff, reduceCtorEq, q7] <;> rfl) | rfl) (by first | rfl | (simp (disch := first | omega | (simp only [List.length_map, List.length_append, List.length_set, List.length_cons, List.length_nil]; omega)) only [go_sem, ↓reduceIte, Nat.reduceEqDiff, reduceCtorEq, q7] <;> rfl)) ?_; refine ⟨?_, rfl⟩; rw [pr_y hok9, hpvA (by assumption) (by assumption), fS_y hok9.1] <;> rfl; done) | (refine fin_pure (rs := [.cell 2 24, .tmp 3]) rfl (by first | (simp (disch := first | omega | (simp only [List.length_map, List.length_append, List.length_set, List.length_cons, List.length_nil]; omega)) only [go_sem, ↓reduceIte, Nat.reduceEqDiff, reduceCtorEq, q7] <;> rfl) | rfl) (by first | rfl | (simp (disch := first | omega | (simp only [List.length_map, List.length_append, List.length_set, List.length_cons, List.length_nil]; omega)) only [go_sem, ↓reduceIte, Nat.reduceEqDiff, reduceCtorEq, q7] <;> rfl)) ?_; refine ⟨?_, rfl⟩; rw [pr_y hok9, ← hpvB (by assumption) (by assumption)] <;> rfl; done)
        ·
         try simp only [decide_eq_true_eq, decide_eq_false_iff_not, decide_eq_decide, Bool.not_eq_true', Bool.not_eq_false', beq_iff_eq, beq_eq_false_iff_ne, ne_eq, Bool.and_eq_true, Bool.and_eq_false_iff, decide_not] at h21
         refine at_skip rfl ?_
         refine then_n ?_
         refine at_seq rfl ?_
         refine rg rfl ?_
         have hok9 : okP l := by
           first
           | (exfalso; have h8 : ok = true := (by assumption); have h9 : ok = false := (by assumption); rw [h8] at h9; cases h9; done)
           | (have e := hpvA (by assumption) (by assumption); have h1 : txW (fS (0 - w)).1 = l := (by assumption); have hF9 : Fw (pv l) := (by rw [← e]; exact fS_2t (by assumption)); rw [e, fS_y hF9] at h1; exact ⟨hF9, h1⟩)
           | (have e := hpvB (by assumption) (by assumption); have h1 : txW w = l := (by assumption); exact ⟨by rw [← e]; exact hF, by rw [← e]; exact h1⟩)
         refine R_q rfl (by simp (disch := first | omega | (simp only [List.length_map, List.length_append, List.length_set, List.length_cons, List.length_nil]; omega)) only [go_sem, ↓reduceIte, Nat.reduceEqDiff, reduceCtorEq, q2]; rfl) ?_
         first
         | (refine A_store ty24 (by simp (disch := first | omega | (simp only [List.length_map, List.length_append, List.length_set, List.length_cons, List.length_nil]; omega)) only [go_sem, ↓reduceIte, Nat.reduceEqDiff, reduceCtorEq] <;> rfl) (by simp (disch := first | omega | (simp only [List.length_map, List.length_append, List.length_set, List.length_cons, List.length_nil]; omega)) only [go_sem, ↓reduceIte, Nat.reduceEqDiff, reduceCtorEq] <;> rfl) q1 ⟨by omega, rfl, Nat.le_refl 2⟩ (k' := [AV.i ((fS (0 - w)).1 / 18446744073709551616), u6 ((fS (0 - w)).1 % 18446744073709551616)]) rfl ?_)
         | (refine A_store ty24 (by simp (disch := first | omega | (simp only [List.length_map, List.length_append, List.length_set, List.length_cons, List.length_nil]; omega)) only [go_sem, ↓reduceIte, Nat.reduceEqDiff, reduceCtorEq] <;> rfl) (by simp (disch := first | omega | (simp only [List.length_map, List.length_append, List.length_set, List.length_cons, List.length_nil]; omega)) only [go_sem, ↓reduceIte, Nat.reduceEqDiff, reduceCtorEq] <;> rfl) q1 ⟨by omega, rfl, Nat.le_refl 2⟩ (k' := [AV.i (w / 18446744073709551616), u6 (w % 18446744073709551616)]) rfl ?_)
         intro H7 w7
         have q7 := w7.new
         refine Rq ?_
         have tr : ∀ a b c d e f g h i j k m n o p q : AV, let l := lc_rparse_ok a b c d e f g h i j k m n o; trim ((3,q)::(86,p)::l) l = [(0,a),(2,b),(3,q),(4,d),(5,e),(6,f),(7,g),(16,h),(26,i),(35,j),(47,k),(54,m),(71,n),(84,o)] := by intros; rfl
         refine R_nil (tr ..) ?_; clear tr
         refine then_n ?_
         refine at_ret rfl ?_
         first | (refine fin_pure (rs := [.cell 2 24, .tmp 3]) rfl (by first | (simp (disch := first | omega | (simp only [List.length_map, List.length_append, List.length_set, List.length_cons, List.length_nil]; omega)) only [go_sem, ↓reduceIte, Nat.reduceEqDiff, reduceCtorEq, q7] <;> rfl) | rfl) (by first | rfl | (simp (disch := first | omega | (simp only [List.length_map, List.length_append, List.length_set, List.length_cons, List.length_nil]; omega)) only [go_sem, ↓reduceIte, Nat.reduceEqDiff, reduceCtorEq, q7] <;> rfl)) ?_; refine ⟨?_, rfl⟩; rw [pr_n hno] <;> rfl; done) | (exfalso; have h8 : ok = true := (by assumption); have h9 : ok = false := (by assumption); rw [h8] at h9; cases h9; done) | (refine fin_pure (rs := [.cell 2 24, .tmp 3]) rfl (by first | (simp (disch := first | omega | (simp only [List.length_map, List.length_append, List.length_set, List.length_cons, List.length_nil]; omega)) only [go_sem, ↓reduceIte, Nat.reduceEqDiff, reduceCtorEq, q7] <;> rfl) | rfl) (by first | rfl | (simp (disch := first | omega | (simp only [List.length_map, List.length_append, List.length_set, List.length_cons, List.length_nil]; omega)) only [go_sem, ↓reduceIte, Nat.reduceEqDiff, reduceCtorEq, q7] <;> rfl)) ?_; refine ⟨?_, rfl⟩; rw [pr_y hok9, hpvA (by assumption) (by assumption), fS_y hok9.1] <;> rfl; done) | (refine fin_pure (rs := [.cell 2 24, .tmp 3]) rfl (by first | (simp (disch := first | omega | (simp only [List.length_map, List.length_append, List.length_set, List.length_cons, List.length_nil]; omega)) only [go_sem, ↓reduceIte, Nat.reduceEqDiff, reduceCtorEq, q7] <;> rfl) | rfl) (by first | rfl | (simp (disch := first | omega | (simp only [List.length_map, List.length_append, List.length_set, List.length_cons, List.length_nil]; omega)) only [go_sem, ↓reduceIte, Nat.reduceEqDiff, reduceCtorEq, q7] <;> rfl)) ?_; refine ⟨?_, rfl⟩; rw [pr_y hok9, ← hpvB (by assumption) (by assumption)] <;> rfl; done)
      ·
       try simp only [decide_eq_true_eq, decide_eq_false_iff_not, decide_eq_decide, Bool.not_eq_true', Bool.not_eq_false', beq_iff_eq, beq_eq_false_iff_ne, ne_eq, Bool.and_eq_true, Bool.and_eq_false_iff, decide_not] at h19
       refine at_skip rfl ?_
       refine then_n ?_
       refine at_seq rfl ?_
       refine at_seq rfl ?_
       refine rg rfl ?_
       refine Rq ?_
       refine Rq ?_
       refine Rq ?_
       refine Rp_split (fun h22 => ?_) (fun h22 => ?_)
       ·
        try simp only [decide_eq_true_eq, decide_eq_false_iff_not, decide_eq_decide, Bool.not_eq_true', Bool.not_eq_false', beq_iff_eq, beq_eq_false_iff_ne, ne_eq, Bool.and_eq_true, Bool.and_eq_false_iff, decide_not] at h22
        refine Rn ?_
        refine Rn ?_
        refine Rn ?_
        refine Rn ?_
        refine Rq ?_
        have tr : ∀ a b c d e f g h i j k m n o p q r s t u v w : AV, let l := lc_rparse_ok a b c d e f g h i j k m n o; trim ((84,w)::(83,v)::(82,u)::(81,t)::(80,s)::(79,r)::(78,q)::(77,p)::l) l = [(0,a),(2,b),(3,c),(4,d),(5,e),(6,f),(7,g),(16,h),(26,i),(35,j),(47,k),(54,m),(71,n),(84,w)] := by intros; rfl
        refine R_nil (tr ..) ?_; clear tr
        refine then_n ?_
        refine cdt ?_
        refine at_seq rfl ?_
        refine rg rfl ?_
        have hno : ¬ okP l := by
          first
          | exact hnoC (by assumption)
          | (intro h; exact fS_2f (n := 0 - w) (by assumption) (by rw [hpvA (by assumption) (by assumption)]; exact h.1))
          | (intro h; have e := hpvA (by assumption) (by assumption); have h1 : ¬ txW (fS (0 - w)).1 = l := (by assumption); rw [e, fS_y h.1] at h1; exact h1 h.2)
          | (intro h; have e := hpvB (by assumption) (by assumption); have h1 : ¬ txW w = l := (by assumption); rw [e] at h1; exact h1 h.2)
        refine Rq ?_
        refine A_store ty24 (by simp (disch := first | omega | (simp only [List.length_map, List.length_append, List.length_set, List.length_cons, List.length_nil]; omega)) only [go_sem, ↓reduceIte, Nat.reduceEqDiff, reduceCtorEq] <;> rfl) (by simp (disch := first | omega | (simp only [List.length_map, List.length_append, List.length_set, List.length_cons, List.length_nil]; omega)) only [go_sem, ↓reduceIte, Nat.reduceEqDiff, reduceCtorEq] <;> rfl) q1 ⟨by omega, rfl, Nat.le_refl 2⟩ (k' := [AV.i 0, u6 0]) rfl ?_
        intro H7 w7
        have q7 := w7.new
        refine Rq ?_
        have tr : ∀ a b c d e f g h i j k m n o p q : AV, let l := lc_rparse_ok a b c d e f g h i j k m n o; trim ((3,q)::(85,p)::l) l = [(0,a),(2,b),(3,q),(4,d),(5,e),(6,f),(7,g),(16,h),(26,i),(35,j),(47,k),(54,m),(71,n),(84,o)] := by intros; rfl
        refine R_nil (tr ..) ?_; clear tr
        refine then_n ?_
        refine at_ret rfl ?_
        refine then_r ?_
        first | (refine fin_pure (rs := [.cell 2 24, .tmp 3]) rfl (by first | (simp (disch := first | omega | (simp only [List.length_map, List.length_append, List.length_set, List.length_cons, List.length_nil]; omega)) only [go_sem, ↓reduceIte, Nat.reduceEqDiff, reduceCtorEq, q7] <;> rfl) | rfl) (by first | rfl | (simp (disch := first | omega | (simp only [List.length_map, List.length_append, List.length_set, List.length_cons, List.length_nil]; omega)) only [go_sem, ↓reduceIte, Nat.reduceEqDiff, reduceCtorEq, q7] <;> rfl)) ?_; refine ⟨?_, rfl⟩; rw [pr_n hno] <;> rfl; done) | (exfalso; have h8 : ok = true := (by assumption); have h9 : ok = false := (by assumption); rw [h8] at h9; cases h9; done) | (refine fin_pure (rs := [.cell 2 24, .tmp 3]) rfl (by first | (simp (disch := first | omega | (simp only [List.length_map, List.length_append, List.length_set, List.length_cons, List.length_nil]; omega)) only [go_sem, ↓reduceIte, Nat.reduceEqDiff, reduceCtorEq, q7] <;> rfl) | rfl) (by first | rfl | (simp (disch := first | omega | (simp only [List.length_map, List.length_append, List.length_set, List.length_cons, List.length_nil]; omega)) only [go_sem, ↓reduceIte, Nat.reduceEqDiff, reduceCtorEq, q7] <;> rfl)) ?_; refine ⟨?_, rfl⟩; rw [pr_y hok9, hpvA (by assumption) (by assumption), fS_y hok9.1] <;> rfl; done) | (refine fin_pure (rs := [.cell 2 24, .tmp 3]) rfl (by first | (simp (disch := first | omega | (simp only [List.length_map, List.length_append, List.length_set, List.length_cons, List.length_nil]; omega)) only [go_sem, ↓reduceIte, Nat.reduceEqDiff, reduceCtorEq, q7] <;> rfl) | rfl) (by first | rfl | (simp (disch := first | omega | (simp only [List.length_map, List.length_append, List.length_set, List.length_cons, List.length_nil]; omega)) only [go_sem, ↓reduceIte, Nat.reduceEqDiff, reduceCtorEq, q7] <;> rfl)) ?_; refine ⟨?_, rfl⟩; rw [pr_y hok9, ← hpvB (by assumption) (by assumption)] <;> rfl; done)
       ·
        try simp only [decide_eq_true_eq, decide_eq_false_iff_not, decide_eq_decide, Bool.not_eq_true', Bool.not_eq_false', beq_iff_eq, beq_eq_false_iff_ne, ne_eq, Bool.and_eq_true, Bool.and_eq_false_iff, decide_not] at h22
        refine Ry ?_
        refine R_q rfl (by simp (disch := first | omega | (simp only [List.length_map, List.length_append, List.length_set, List.length_cons, List.length_nil]; omega)) only [go_sem, ↓reduceIte, Nat.reduceEqDiff, reduceCtorEq, q2]; rfl) ?_
        refine Ry ?_
        refine Rcall ?_
        first | refine ACall_eq (rtext_ok _ _ (fS (0 - w)).1 (fS_F _)) ?_ | refine ACall_eq (rtext_ok _ _ w hF) ?_
        refine Ry ?_
        refine Rq ?_
        refine Ry ?_
        refine Rq ?_
        refine Rq ?_
        have tr : ∀ a b c d e f g h i j k m n o p q r s t u v w : AV, let l := lc_rparse_ok a b c d e f g h i j k m n o; trim ((84,w)::(83,v)::(82,u)::(81,t)::(80,s)::(79,r)::(78,q)::(77,p)::l) l = [(0,a),(2,b),(3,c),(4,d),(5,e),(6,f),(7,g),(16,h),(26,i),(35,j),(47,k),(54,m),(71,n),(84,w)] := by intros; rfl
        refine R_nil (tr ..) ?_; clear tr
        refine then_n ?_
        refine cdd (fun h23 => ?_) (fun h23 => ?_)
        ·
         try simp only [decide_eq_true_eq, decide_eq_false_iff_not, decide_eq_decide, Bool.not_eq_true', Bool.not_eq_false', beq_iff_eq, beq_eq_false_iff_ne, ne_eq, Bool.and_eq_true, Bool.and_eq_false_iff, decide_not] at h23
         refine at_seq rfl ?_
         refine rg rfl ?_
         have hno : ¬ okP l := by
           first
           | exact hnoC (by assumption)
           | (intro h; exact fS_2f (n := 0 - w) (by assumption) (by rw [hpvA (by assumption) (by assumption)]; exact h.1))
           | (intro h; have e := hpvA (by assumption) (by assumption); have h1 : ¬ txW (fS (0 - w)).1 = l := (by assumption); rw [e, fS_y h.1] at h1; exact h1 h.2)
           | (intro h; have e := hpvB (by assumption) (by assumption); have h1 : ¬ txW w = l := (by assumption); rw [e] at h1; exact h1 h.2)
         refine Rq ?_
         refine A_store ty24 (by simp (disch := first | omega | (simp only [List.length_map, List.length_append, List.length_set, List.length_cons, List.length_nil]; omega)) only [go_sem, ↓reduceIte, Nat.reduceEqDiff, reduceCtorEq] <;> rfl) (by simp (disch := first | omega | (simp only [List.length_map, List.length_append, List.length_set, List.length_cons, List.length_nil]; omega)) only [go_sem, ↓reduceIte, Nat.reduceEqDiff, reduceCtorEq] <;> rfl) q1 ⟨by omega, rfl, Nat.le_refl 2⟩ (k' := [AV.i 0, u6 0]) rfl ?_
         intro H7 w7
         have q7 := w7.new
         refine Rq ?_
         have tr : ∀ a b c d e f g h i j k m n o p q : AV, let l := lc_rparse_ok a b c d e f g h i j k m n o; trim ((3,q)::(85,p)::l) l = [(0,a),(2,b),(3,q),(4,d),(5,e),(6,f),(7,g),(16,h),(26,i),(35,j),(47,k),(54,m),(71,n),(84,o)] := by intros; rfl
         refine R_nil (tr ..) ?_; clear tr
         refine then_n ?_
         refine at_ret rfl ?_
         refine then_r ?_
         first | (refine fin_pure (rs := [.cell 2 24, .tmp 3]) rfl (by first | (simp (disch := first | omega | (simp only [List.length_map, List.length_append, List.length_set, List.length_cons, List.length_nil]; omega)) only [go_sem, ↓reduceIte, Nat.reduceEqDiff, reduceCtorEq, q7] <;> rfl) | rfl) (by first | rfl | (simp (disch := first | omega | (simp only [List.length_map, List.length_append, List.length_set, List.length_cons, List.length_nil]; omega)) only [go_sem, ↓reduceIte, Nat.reduceEqDiff, reduceCtorEq, q7] <;> rfl)) ?_; refine ⟨?_, rfl⟩; rw [pr_n hno] <;> rfl; done) | (exfalso; have h8 : ok = true := (by assumption); have h9 : ok = false := (by assumption); rw [h8] at h9; cases h9; done) | (refine fin_pure (rs := [.cell 2 24, .tmp 3]) rfl (by first | (simp (disch := first | omega | (simp only [List.length_map, List.length_append, List.length_set, List.length_cons, List.length_nil]; omega)) only [go_sem, ↓reduceIte, Nat.reduceEqDiff, reduceCtorEq, q7] <;> rfl) | rfl) (by first | rfl | (simp (disch := first | omega | (simp only [List.length_map, List.length_append, List.length_set, List.length_cons, List.length_nil]; omega)) only [go_sem, ↓reduceIte, Nat.reduceEqDiff, reduceCtorEq, q7] <;> rfl)) ?_; refine ⟨?_, rfl⟩; rw [pr_y hok9, hpvA (by assumption) (by assumption), fS_y hok9.1] <;> rfl; done) | (refine fin_pure (rs := [.cell 2 24, .tmp 3]) rfl (by first | (simp (disch := first | omega | (simp only [List.length_map, List.length_append, List.length_set, List.length_cons, List.length_nil]; omega)) only [go_sem, ↓reduceIte, Nat.reduceEqDiff, reduceCtorEq, q7] <;> rfl) | rfl) (by first | rfl | (simp (disch := first | omega | (simp only [List.length_map, List.length_append, List.length_set, List.length_cons, List.length_nil]; omega)) only [go_sem, ↓reduceIte, Nat.reduceEqDiff, reduceCtorEq, q7] <;> rfl)) ?_; refine ⟨?_, rfl⟩; rw [pr_y hok9, ← hpvB (by assumption) (by assumption)] <;> rfl; done)
        ·
         try simp only [decide_eq_true_eq, decide_eq_false_iff_not, decide_eq_decide, Bool.not_eq_true', Bool.not_eq_false', beq_iff_eq, beq_eq_false_iff_ne, ne_eq, Bool.and_eq_true, Bool.and_eq_false_iff, decide_not] at h23
         refine at_skip rfl ?_
         refine then_n ?_
         refine at_seq rfl ?_
         refine rg rfl ?_
         have hok9 : okP l := by
           first
           | (exfalso; have h8 : ok = true := (by assumption); have h9 : ok = false := (by assumption); rw [h8] at h9; cases h9; done)
           | (have e := hpvA (by assumption) (by assumption); have h1 : txW (fS (0 - w)).1 = l := (by assumption); have hF9 : Fw (pv l) := (by rw [← e]; exact fS_2t (by assumption)); rw [e, fS_y hF9] at h1; exact ⟨hF9, h1⟩)
           | (have e := hpvB (by assumption) (by assumption); have h1 : txW w = l := (by assumption); exact ⟨by rw [← e]; exact hF, by rw [← e]; exact h1⟩)
         refine R_q rfl (by simp (disch := first | omega | (simp only [List.length_map, List.length_append, List.length_set, List.length_cons, List.length_nil]; omega)) only [go_sem, ↓reduceIte, Nat.reduceEqDiff, reduceCtorEq, q2]; rfl) ?_
         first
         | (refine A_store ty24 (by simp (disch := first | omega | (simp only [List.length_map, List.length_append, List.length_set, List.length_cons, List.length_nil]; omega)) only [go_sem, ↓reduceIte, Nat.reduceEqDiff, reduceCtorEq] <;> rfl) (by simp (disch := first | omega | (simp only [List.length_map, List.length_append, List.length_set, List.length_cons, List.length_nil]; omega)) only [go_sem, ↓reduceIte, Nat.reduceEqDiff, reduceCtorEq] <;> rfl) q1 ⟨by omega, rfl, Nat.le_refl 2⟩ (k' := [AV.i ((fS (0 - w)).1 / 18446744073709551616), u6 ((fS (0 - w)).1 % 18446744073709551616)]) rfl ?_)
         | (refine A_store ty24 (by simp (disch := first | omega | (simp only [List.length_map, List.length_append, List.length_set, List.length_cons, List.length_nil]; omega)) only [go_sem, ↓reduceIte, Nat.reduceEqDiff, reduceCtorEq] <;> rfl) (by simp (disch := first | omega | (simp only [List.length_map, List.length_append, List.length_set, List.length_cons, List.length_nil]; omega)) only [go_sem, ↓reduceIte, Nat.reduceEqDiff, reduceCtorEq] <;> rfl) q1 ⟨by omega, rfl, Nat.le_refl 2⟩ (k' := [AV.i (w / 18446744073709551616), u6 (w % 18446744073709551616)]) rfl ?_)
         intro H7 w7
         have q7 := w7.new
         refine Rq ?_
         have tr : ∀ a b c d e f g h i j k m n o p q : AV, let l := lc_rparse_ok a b c d e f g h i j k m n o; trim ((3,q)::(86,p)::l) l = [(0,a),(2,b),(3,q),(4,d),(5,e),(6,f),(7,g),(16,h),(26,i),(35,j),(47,k),(54,m),(71,n),(84,o)] := by intros; rfl
         refine R_nil (tr ..) ?_; clear tr
         refine then_n ?_
         refine at_ret rfl ?_
         first | (refine fin_pure (rs := [.cell 2 24, .tmp 3]) rfl (by first | (simp (disch := first | omega | (simp only [List.length_map, List.length_append, List.length_set, List.length_cons, List.length_nil]; omega)) only [go_sem, ↓reduceIte, Nat.reduceEqDiff, reduceCtorEq, q7] <;> rfl) | rfl) (by first | rfl | (simp (disch := first | omega | (simp only [List.length_map, List.length_append, List.length_set, List.length_cons, List.length_nil]; omega)) only [go_sem, ↓reduceIte, Nat.reduceEqDiff, reduceCtorEq, q7] <;> rfl)) ?_; refine ⟨?_, rfl⟩; rw [pr_n hno] <;> rfl; done) | (exfalso; have h8 : ok = true := (by assumption); have h9 : ok = false := (by assumption); rw [h8] at h9; cases h9; done) | (refine fin_pure (rs := [.cell 2 24, .tmp 3]) rfl (by first | (simp (disch := first | omega | (simp only [List.length_map, List.length_append, List.length_set, List.length_cons, List.length_nil]; omega)) only [go_sem, ↓reduceIte, Nat.reduceEqDiff, reduceCtorEq, q7] <;> rfl) | rfl) (by first | rfl | (simp (disch := first | omega | (simp only [List.length_map, List.length_append, List.length_set, List.length_cons, List.length_nil]; omega)) only [go_sem, ↓reduceIte, Nat.reduceEqDiff, reduceCtorEq, q7] <;> rfl)) ?_; refine ⟨?_, rfl⟩; rw [pr_y hok9, hpvA (by assumption) (by assumption), fS_y hok9.1] <;> rfl; done) | (refine fin_pure (rs := [.cell 2 24, .tmp 3]) rfl (by first | (simp (disch := first | omega | (simp only [List.length_map, List.length_append, List.length_set, List.length_cons, List.length_nil]; omega)) only [go_sem, ↓reduceIte, Nat.reduceEqDiff, reduceCtorEq, q7] <;> rfl) | rfl) (by first | rfl | (simp (disch := first | omega | (simp only [List.length_map, List.length_append, List.length_set, List.length_cons, List.length_nil]; omega)) only [go_sem, ↓reduceIte, Nat.reduceEqDiff, reduceCtorEq, q7] <;> rfl)) ?_; refine ⟨?_, rfl⟩; rw [pr_y hok9, ← hpvB (by assumption) (by assumption)] <;> rfl; done)
     ·
      try simp only [decide_eq_true_eq, decide_eq_false_iff_not, decide_eq_decide, Bool.not_eq_true', Bool.not_eq_false', beq_iff_eq, beq_eq_false_iff_ne, ne_eq, Bool.and_eq_true, Bool.and_eq_false_iff, decide_not] at h18
      refine Rn ?_
      refine Rn ?_
      refine Rn ?_
      refine Rq ?_
      have tr : ∀ a b c d e f g h i j k m n o p q r s t u : AV, let l := lc_rparse_ok a b c d e f g h i j k m n o; trim ((71,u)::(70,t)::(69,s)::(68,r)::(67,q)::(66,p)::l) l = [(0,a),(2,b),(3,c),(4,d),(5,e),(6,f),(7,g),(16,h),(26,i),(35,j),(47,k),(54,m),(71,u),(84,o)] := by intros; rfl
      refine R_nil (tr ..) ?_; clear tr
      refine then_n ?_
      refine cdf ?_
      refine at_skip rfl ?_
      refine then_n ?_
      refine at_seq rfl ?_
      refine at_seq rfl ?_
      refine rg rfl ?_
      refine Rq ?_
      refine Rq ?_
      refine Rq ?_
      refine Rp_split (fun h24 => ?_) (fun h24 => ?_)
      ·
       try simp only [decide_eq_true_eq, decide_eq_false_iff_not, decide_eq_decide, Bool.not_eq_true', Bool.not_eq_false', beq_iff_eq, beq_eq_false_iff_ne, ne_eq, Bool.and_eq_true, Bool.and_eq_false_iff, decide_not] at h24
       refine Rn ?_
       refine Rn ?_
       refine Rn ?_
       refine Rn ?_
       refine Rq ?_
       have tr : ∀ a b c d e f g h i j k m n o p q r s t u v w : AV, let l := lc_rparse_ok a b c d e f g h i j k m n o; trim ((84,w)::(83,v)::(82,u)::(81,t)::(80,s)::(79,r)::(78,q)::(77,p)::l) l = [(0,a),(2,b),(3,c),(4,d),(5,e),(6,f),(7,g),(16,h),(26,i),(35,j),(47,k),(54,m),(71,n),(84,w)] := by intros; rfl
       refine R_nil (tr ..) ?_; clear tr
       refine then_n ?_
       refine cdt ?_
       refine at_seq rfl ?_
       refine rg rfl ?_
       have hno : ¬ okP l := by
         first
         | exact hnoC (by assumption)
         | (intro h; exact fS_2f (n := 0 - w) (by assumption) (by rw [hpvA (by assumption) (by assumption)]; exact h.1))
         | (intro h; have e := hpvA (by assumption) (by assumption); have h1 : ¬ txW (fS (0 - w)).1 = l := (by assumption); rw [e, fS_y h.1] at h1; exact h1 h.2)
         | (intro h; have e := hpvB (by assumption) (by assumption); have h1 : ¬ txW w = l := (by assumption); rw [e] at h1; exact h1 h.2)
       refine Rq ?_
       refine A_store ty24 (by simp (disch := first | omega | (simp only [List.length_map, List.length_append, List.length_set, List.length_cons, List.length_nil]; omega)) only [go_sem, ↓reduceIte, Nat.reduceEqDiff, reduceCtorEq] <;> rfl) (by simp (disch := first | omega | (simp only [List.length_map, List.length_append, List.length_set, List.length_cons, List.length_nil]; omega)) only [go_sem, ↓reduceIte, Nat.reduceEqDiff, reduceCtorEq] <;> rfl) q1 ⟨by omega, rfl, Nat.le_refl 2⟩ (k' := [AV.i 0, u6 0]) rfl ?_
       intro H7 w7
       have q7 := w7.new
       refine Rq ?_
       have tr : ∀ a b c d e f g h i j k m n o p q : AV, let l := lc_rparse_ok a b c d e f g h i j k m n o; trim ((3,q)::(85,p)::l) l = [(0,a),(2,b),(3,q),(4,d),(5,e),(6,f),(7,g),(16,h),(26,i),(35,j),(47,k),(54,m),(71,n),(84,o)] := by intros; rfl
       refine R_nil (tr ..) ?_; clear tr
       refine then_n ?_
       refine at_ret rfl ?_
       refine then_r ?_
       first | (refine fin_pure (rs := [.cell 2 24, .tmp 3]) rfl (by first | (simp (disch := first | omega | (simp only [List.length_map, List.length_append, List.length_set, List.length_cons, List.length_nil]; omega)) only [go_sem, ↓reduceIte, Nat.reduceEqDiff, reduceCtorEq, q7] <;> rfl) | rfl) (by first | rfl | (simp (disch := first | omega | (simp only [List.length_map, List.length_append, List.length_set, List.length_cons, List.length_nil]; omega)) only [go_sem, ↓reduceIte, Nat.reduceEqDiff, reduceCtorEq, q7] <;> rfl)) ?_; refine ⟨?_, rfl⟩; rw [pr_n hno] <;> rfl; done) | (exfalso; have h8 : ok = true := (by assumption); have h9 : ok = false := (by assumption); rw [h8] at h9; cases h9; done) | (refine fin_pure (rs := [.cell 2 24, .tmp 3]) rfl (by first | (simp (disch := first | omega | (simp only [List.length_map, List.length_append, List.length_set, List.length_cons, List.length_nil]; omega)) only [go_sem, ↓reduceIte, Nat.reduceEqDiff, reduceCtorEq, q7] <;> rfl) | rfl) (by first | rfl | (simp (disch := first | omega | (simp only [List.length_map, List.length_append, List.length_set, List.length_cons, List.length_nil]; omega)) only [go_sem, ↓reduceIte, Nat.reduceEqDiff, reduceCtorEq, q7] <;> rfl)) ?_; refine ⟨?_, rfl⟩; rw [pr_y hok9, hpvA (by assumption) (by assumption), fS_y hok9.1] <;> rfl; done) | (refine fin_pure (rs := [.cell 2 24, .tmp 3]) rfl (by first | (simp (disch := first | omega | (simp only [List.length_map, List.length_append, List.length_set, List.length_cons, List.length_nil]; omega)) only [go_sem, ↓reduceIte, Nat.reduceEqDiff, reduceCtorEq, q7] <;> rfl) | rfl) (by first | rfl | (simp (disch := first | omega | (simp only [List.length_map, List.length_append, List.length_set, List.length_cons, List.length_nil]; omega)) only [go_sem, ↓reduceIte, Nat.reduceEqDiff, reduceCtorEq, q7] <;> rfl)) ?_; refine ⟨?_, rfl⟩; rw [pr_y hok9, ← hpvB (by assumption) (by assumption)] <;> rfl; done)
      ·
       try simp only [decide_eq_true_eq, decide_eq_false_iff_not, decide_eq_decide, Bool.not_eq_true', Bool.not_eq_false', beq_iff_eq, beq_eq_false_iff_ne, ne_eq, Bool.and_eq_true, Bool.and_eq_false_iff, decide_not] at h24
       refine Ry ?_
       refine R_q rfl (by simp (disch := first | omega | (simp only [List.length_map, List.length_append, List.length_set, List.length_cons, List.length_nil]; omega)) only [go_sem, ↓reduceIte, Nat.reduceEqDiff, reduceCtorEq, q2]; rfl) ?_
       refine Ry ?_
       refine Rcall ?_
       first | refine ACall_eq (rtext_ok _ _ (fS (0 - w)).1 (fS_F _)) ?_ | refine ACall_eq (rtext_ok _ _ w hF) ?_
       refine Ry ?_
       refine Rq ?_
       refine Ry ?_
       refine Rq ?_
       refine Rq ?_
       have tr : ∀ a b c d e f g h i j k m n o p q r s t u v w : AV, let l := lc_rparse_ok a b c d e f g h i j k m n o; trim ((84,w)::(83,v)::(82,u)::(81,t)::(80,s)::(79,r)::(78,q)::(77,p)::l) l = [(0,a),(2,b),(3,c),(4,d),(5,e),(6,f),(7,g),(16,h),(26,i),(35,j),(47,k),(54,m),(71,n),(84,w)] := by intros; rfl
       refine R_nil (tr ..) ?_; clear tr
       refine then_n ?_
       refine cdd (fun h25 => ?_) (fun h25 => ?_)
       ·
        try simp only [decide_eq_true_eq, decide_eq_false_iff_not, decide_eq_decide, Bool.not_eq_true', Bool.not_eq_false', beq_iff_eq, beq_eq_false_iff_ne, ne_eq, Bool.and_eq_true, Bool.and_eq_false_iff, decide_not] at h25
        refine at_seq rfl ?_
        refine rg rfl ?_
        have hno : ¬ okP l := by
          first
          | exact hnoC (by assumption)
          | (intro h; exact fS_2f (n := 0 - w) (by assumption) (by rw [hpvA (by assumption) (by assumption)]; exact h.1))
          | (intro h; have e := hpvA (by assumption) (by assumption); have h1 : ¬ txW (fS (0 - w)).1 = l := (by assumption); rw [e, fS_y h.1] at h1; exact h1 h.2)
          | (intro h; have e := hpvB (by assumption) (by assumption); have h1 : ¬ txW w = l := (by assumption); rw [e] at h1; exact h1 h.2)
        refine Rq ?_
        refine A_store ty24 (by simp (disch := first | omega | (simp only [List.length_map, List.length_append, List.length_set, List.length_cons, List.length_nil]; omega)) only [go_sem, ↓reduceIte, Nat.reduceEqDiff, reduceCtorEq] <;> rfl) (by simp (disch := first | omega | (simp only [List.length_map, List.length_append, List.length_set, List.length_cons, List.length_nil]; omega)) only [go_sem, ↓reduceIte, Nat.reduceEqDiff, reduceCtorEq] <;> rfl) q1 ⟨by omega, rfl, Nat.le_refl 2⟩ (k' := [AV.i 0, u6 0]) rfl ?_
        intro H7 w7
        have q7 := w7.new
        refine Rq ?_
        have tr : ∀ a b c d e f g h i j k m n o p q : AV, let l := lc_rparse_ok a b c d e f g h i j k m n o; trim ((3,q)::(85,p)::l) l = [(0,a),(2,b),(3,q),(4,d),(5,e),(6,f),(7,g),(16,h),(26,i),(35,j),(47,k),(54,m),(71,n),(84,o)] := by intros; rfl
        refine R_nil (tr ..) ?_; clear tr
        refine then_n ?_
        refine at_ret rfl ?_
        refine then_r ?_
        first | (refine fin_pure (rs := [.cell 2 24, .tmp 3]) rfl (by first | (simp (disch := first | omega | (simp only [List.length_map, List.length_append, List.length_set, List.length_cons, List.length_nil]; omega)) only [go_sem, ↓reduceIte, Nat.reduceEqDiff, reduceCtorEq, q7] <;> rfl) | rfl) (by first | rfl | (simp (disch := first | omega | (simp only [List.length_map, List.length_append, List.length_set, List.length_cons, List.length_nil]; omega)) only [go_sem, ↓reduceIte, Nat.reduceEqDiff, reduceCtorEq, q7] <;> rfl)) ?_; refine ⟨?_, rfl⟩; rw [pr_n hno] <;> rfl; done) | (exfalso; have h8 : ok = true := (by assumption); have h9 : ok = false := (by assumption); rw [h8] at h9; cases h9; done) | (refine fin_pure (rs := [.cell 2 24, .tmp 3]) rfl (by first | (simp (disch := first | omega | (simp only [List.length_map, List.length_append, List.length_set, List.length_cons, List.length_nil]; omega)) only [go_sem, ↓reduceIte, Nat.reduceEqDiff, reduceCtorEq, q7] <;> rfl) | rfl) (by first | rfl | (simp (disch := first | omega | (simp only [List.length_map, List.length_append, List.length_set, List.length_cons, List.length_nil]; omega)) only [go_sem, ↓reduceIte, Nat.reduceEqDiff, reduceCtorEq, q7] <;> rfl)) ?_; refine ⟨?_, rfl⟩; rw [pr_y hok9, hpvA (by assumption) (by assumption), fS_y hok9.1] <;> rfl; done) | (refine fin_pure (rs := [.cell 2 24, .tmp 3]) rfl (by first | (simp (disch := first | omega | (simp only [List.length_map, List.length_append, List.length_set, List.length_cons, List.length_nil]; omega)) only [go_sem, ↓reduceIte, Nat.reduceEqDiff, reduceCtorEq, q7] <;> rfl) | rfl) (by first | rfl | (simp (disch := first | omega | (simp only [List.length_map, List.length_append, List.length_set, List.length_cons, List.length_nil]; omega)) only [go_sem, ↓reduceIte, Nat.reduceEqDiff, reduceCtorEq, q7] <;> rfl)) ?_; refine ⟨?_, rfl⟩; rw [pr_y hok9, ← hpvB (by assumption) (by assumption)] <;> rfl; done)
       ·
        try simp only [decide_eq_true_eq, decide_eq_false_iff_not, decide_eq_decide, Bool.not_eq_true', Bool.not_eq_false', beq_iff_eq, beq_eq_false_iff_ne, ne_eq, Bool.and_eq_true, Bool.and_eq_false_iff, decide_not] at h25
        refine at_skip rfl ?_
        refine then_n ?_
        refine at_seq rfl ?_
        refine rg rfl ?_
        have hok9 : okP l := by
          first
          | (exfalso; have h8 : ok = true := (by assumption); have h9 : ok = false := (by assumption); rw [h8] at h9; cases h9; done)
          | (have e := hpvA (by assumption) (by assumption); have h1 : txW (fS (0 - w)).1 = l := (by assumption); have hF9 : Fw (pv l) := (by rw [← e]; exact fS_2t (by assumption)); rw [e, fS_y hF9] at h1; exact ⟨hF9, h1⟩)
          | (have e := hpvB (by assumption) (by assumption); have h1 : txW w = l := (by assumption); exact ⟨by rw [← e]; exact hF, by rw [← e]; exact h1⟩)
        refine R_q rfl (by simp (disch := first | omega | (simp only [List.length_map, List.length_append, List.length_set, List.length_cons, List.length_nil]; omega)) only [go_sem, ↓reduceIte, Nat.reduceEqDiff, reduceCtorEq, q2]; rfl) ?_
        first
        | (refine A_store ty24 (by simp (disch := first | omega | (simp only [List.length_map, List.length_append, List.length_set, List.length_cons, List.length_nil]; omega)) only [go_sem, ↓reduceIte, Nat.reduceEqDiff, reduceCtorEq] <;> rfl) (by simp (disch := first | omega | (simp only [List.length_map, List.length_append, List.length_set, List.length_cons, List.length_nil]; omega)) only [go_sem, ↓reduceIte, Nat.reduceEqDiff, reduceCtorEq] <;> rfl) q1 ⟨by omega, rfl, Nat.le_refl 2⟩ (k' := [AV.i ((fS (0 - w)).1 / 18446744073709551616), u6 ((fS (0 - w)).1 % 18446744073709551616)]) rfl ?_)
        | (refine A_store ty24 (by simp (disch := first | omega | (simp only [List.length_map, List.length_append, List.length_set, List.length_cons, List.length_nil]; omega)) only [go_sem, ↓reduceIte, Nat.reduceEqDiff, reduceCtorEq] <;> rfl) (by simp (disch := first | omega | (simp only [List.length_map, List.length_append, List.length_set, List.length_cons, List.length_nil]; omega)) only [go_sem, ↓reduceIte, Nat.reduceEqDiff, reduceCtorEq] <;> rfl) q1 ⟨by omega, rfl, Nat.le_refl 2⟩ (k' := [AV.i (w / 18446744073709551616), u6 (w % 18446744073709551616)]) rfl ?_)
        intro H7 w7
        have q7 := w7.new
        refine Rq ?_
        have tr : ∀ a b c d e f g h i j k m n o p q : AV, let l := lc_rparse_ok a b c d e f g h i j k m n o; trim ((3,q)::(86,p)::l) l = [(0,a),(2,b),(3,q),(4,d),(5,e),(6,f),(7,g),(16,h),(26,i),(35,j),(47,k),(54,m),(71,n),(84,o)] := by intros; rfl
        refine R_nil (tr ..) ?_; clear tr
        refine then_n ?_
        refine at_ret rfl ?_
        first | (refine fin_pure (rs := [.cell 2 24, .tmp 3]) rfl (by first | (simp (disch := first | omega | (simp only [List.length_map, List.length_append, List.length_set, List.length_cons, List.length_nil]; omega)) only [go_sem, ↓reduceIte, Nat.reduceEqDiff, reduceCtorEq, q7] <;> rfl) | rfl) (by first | rfl | (simp (disch := first | omega | (simp only [List.length_map, List.length_append, List.length_set, List.length_cons, List.length_nil]; omega)) only [go_sem, ↓reduceIte, Nat.reduceEqDiff, reduceCtorEq, q7] <;> rfl)) ?_; refine ⟨?_, rfl⟩; rw [pr_n hno] <;> rfl; done) | (exfalso; have h8 : ok = true := (by assumption); have h9 : ok = false := (by assumption); rw [h8] at h9; cases h9; done) | (refine fin_pure (rs := [.cell 2 24, .tmp 3]) rfl (by first | (simp (disch := first | omega | (simp only [List.length_map, List.length_append, List.length_set, List.length_cons, List.length_nil]; omega)) only [go_sem, ↓reduceIte, Nat.reduceEqDiff, reduceCtorEq, q7] <;> rfl) | rfl) (by first | rfl | (simp (disch := first | omega | (simp only [List.length_map, List.length_append, List.length_set, List.length_cons, List.length_nil]; omega)) only [go_sem, ↓reduceIte, Nat.reduceEqDiff, reduceCtorEq, q7] <;> rfl)) ?_; refine ⟨?_, rfl⟩; rw [pr_y hok9, hpvA (by assumption) (by assumption), fS_y hok9.1] <;> rfl; done) | (refine fin_pure (rs := [.cell 2 24, .tmp 3]) rfl (by first | (simp (disch := first | omega | (simp only [List.length_map, List.length_append, List.length_set, List.length_cons, List.length_nil]; omega)) only [go_sem, ↓reduceIte, Nat.reduceEqDiff, reduceCtorEq, q7] <;> rfl) | rfl) (by first | rfl | (simp (disch := first | omega | (simp only [List.length_map, List.length_append, List.length_set, List.length_cons, List.length_nil]; omega)) only [go_sem, ↓reduceIte, Nat.reduceEqDiff, reduceCtorEq, q7] <;> rfl)) ?_; refine ⟨?_, rfl⟩; rw [pr_y hok9, ← hpvB (by assumption) (by assumption)] <;> rfl; done)

end Go.Proofs.YtokhmkkifmhfmaaDoor
