/-
  Walks of chapter 51. The steps are written by program (walk.py).
-/
import Derived.Test.YtfnapmdedmbdbaaDoorQA
import Derived.Test.YtfnapmdedmbdbaaDoorQC
set_option linter.unusedSimpArgs false
set_option linter.unusedVariables false
set_option maxHeartbeats 1000000
set_option maxRecDepth 20000
namespace Go.Proofs.YtfnapmdedmbdbaaDoor
open Go Go.Am
abbrev lc_prate_ok (a b c d e f g h i j k m : AV) : Env := [(0,a),(1,b),(2,c),(4,d),(5,e),(6,f),(7,g),(8,h),(9,i),(10,j),(26,k),(46,m)]
theorem prate_ok (lim : Nat) (H : Heap) (z : St) (b : Int) (hb : -9223372036854775808 ≤ b ∧ b ≤ 9223372036854775807) : ACall sig lim 15 [stA z, AV.i b] H fun r H' => r = .tup [sv (rtS z b).1, AV.i (rtS z b).2] ∧ H' = H := by
 refine ACall_pure (fa := fa15) rfl rfl rfl rfl ?_
 have tr : ∀ a0 a1 : AV, env0 fa15.keep [a0, a1] = [(0,a0),(1,a1),(2,.any),(4,.any),(5,.any),(6,.any),(7,.any),(8,.any),(9,.any),(10,.any),(26,.any),(46,.any)] := fun a0 a1 => rfl
 refine W_to (tr _ _) ?_; clear tr
 refine at_seq rfl ?_
 refine rg rfl ?_
 refine R_box rfl (by simp (disch := first | omega | (simp only [List.length_map, List.length_append, List.length_set, List.length_cons, List.length_nil]; omega)) only [go_sem, ↓reduceIte, Nat.reduceEqDiff, reduceCtorEq]; rfl) rfl rfl ?_
 refine Rq ?_
 refine Rq ?_
 have tr : ∀ a b c d e f g h i j k m n o p : AV, let l := lc_prate_ok a b c d e f g h i j k m; trim ((5,p)::(4,o)::(2,n)::l) l = [(0,a),(1,b),(2,n),(4,o),(5,p),(6,f),(7,g),(8,h),(9,i),(10,j),(26,k),(46,m)] := by intros; rfl
 refine R_nil (tr ..) ?_; clear tr
 refine then_n ?_
 refine at_seq rfl ?_
 refine rg rfl ?_
 refine Rq ?_
 refine Rcall ?_
 refine ACall_eq (rate_ok _ _ _) ?_
 refine Rq ?_
 refine Rq ?_
 refine Rq ?_
 refine Rq ?_
 refine Rq ?_
 refine Rq ?_
 refine Rq ?_
 have tr : ∀ a b c d e f g h i j k m n o p q r s t u v : AV, let l := lc_prate_ok a b c d e f g h i j k m; trim ((8,v)::(7,u)::(6,t)::(16,s)::(15,r)::(14,q)::(11,p)::(13,o)::(12,n)::l) l = [(0,a),(1,b),(2,c),(4,d),(5,e),(6,t),(7,u),(8,v),(9,i),(10,j),(26,k),(46,m)] := by intros; rfl
 refine R_nil (tr ..) ?_; clear tr
 refine then_n ?_
 refine at_seq rfl ?_
 refine at_seq rfl ?_
 refine rg rfl ?_
 refine Rq ?_
 refine Rq ?_
 refine Rq ?_
 refine Rp_split (fun h1 => ?_) (fun h1 => ?_)
 ·
  try simp only [decide_eq_true_eq, decide_eq_false_iff_not, decide_eq_decide, Bool.not_eq_true', Bool.not_eq_false', beq_iff_eq, beq_eq_false_iff_ne, ne_eq, Bool.and_eq_true, Bool.and_eq_false_iff, decide_not] at h1
  refine Rn ?_
  refine Rn ?_
  refine Rq ?_
  refine Rq ?_
  refine Rn ?_
  refine Rn ?_
  refine Rq ?_
  have tr : ∀ a b c d e f g h i j k m n o p q r s t u v w : AV, let l := lc_prate_ok a b c d e f g h i j k m; trim ((26,w)::(25,v)::(24,u)::(23,t)::(22,s)::(21,r)::(20,q)::(19,p)::(18,o)::(17,n)::l) l = [(0,a),(1,b),(2,c),(4,d),(5,e),(6,f),(7,g),(8,h),(9,i),(10,j),(26,w),(46,m)] := by intros; rfl
  refine R_nil (tr ..) ?_; clear tr
  refine then_n ?_
  refine cdt ?_
  refine at_seq rfl ?_
  refine rg rfl ?_
  refine Rq ?_
  refine Rq ?_
  have tr : ∀ a b c d e f g h i j k m n o : AV, let l := lc_prate_ok a b c d e f g h i j k m; trim ((5,o)::(4,n)::l) l = [(0,a),(1,b),(2,c),(4,n),(5,o),(6,f),(7,g),(8,h),(9,i),(10,j),(26,k),(46,m)] := by intros; rfl
  refine R_nil (tr ..) ?_; clear tr
  refine then_n ?_
  refine at_ret rfl ?_
  refine then_r ?_
  first | (refine fpure ?_; refine ⟨?_, rfl⟩; rw [rtS_n (fun h => by first | exact absurd h.1 (by assumption) | (have h2 := h.2; omega))] <;> rfl; done) | (refine fpure ?_; refine ⟨?_, rfl⟩; rw [rtS_y hok, rtx_m (by omega)]; refine congrArg (fun l => AV.tup [sv l, AV.i 0]) ?_; simp; done) | (refine fpure ?_; refine ⟨?_, rfl⟩; rw [rtS_y hok, rtx_p (by omega)]; refine congrArg (fun l => AV.tup [sv l, AV.i 0]) ?_; simp; done)
 ·
  try simp only [decide_eq_true_eq, decide_eq_false_iff_not, decide_eq_decide, Bool.not_eq_true', Bool.not_eq_false', beq_iff_eq, beq_eq_false_iff_ne, ne_eq, Bool.and_eq_true, Bool.and_eq_false_iff, decide_not] at h1
  refine Ry ?_
  refine Rq ?_
  refine Ry ?_
  refine Rq ?_
  refine Rq ?_
  refine Rq ?_
  refine Rp_split (fun h2 => ?_) (fun h2 => ?_)
  ·
   try simp only [decide_eq_true_eq, decide_eq_false_iff_not, decide_eq_decide, Bool.not_eq_true', Bool.not_eq_false', beq_iff_eq, beq_eq_false_iff_ne, ne_eq, Bool.and_eq_true, Bool.and_eq_false_iff, decide_not] at h2
   refine Rn ?_
   refine Rn ?_
   refine Rq ?_
   have tr : ∀ a b c d e f g h i j k m n o p q r s t u v w : AV, let l := lc_prate_ok a b c d e f g h i j k m; trim ((26,w)::(25,v)::(24,u)::(23,t)::(22,s)::(21,r)::(20,q)::(19,p)::(18,o)::(17,n)::l) l = [(0,a),(1,b),(2,c),(4,d),(5,e),(6,f),(7,g),(8,h),(9,i),(10,j),(26,w),(46,m)] := by intros; rfl
   refine R_nil (tr ..) ?_; clear tr
   refine then_n ?_
   refine cdt ?_
   refine at_seq rfl ?_
   refine rg rfl ?_
   refine Rq ?_
   refine Rq ?_
   have tr : ∀ a b c d e f g h i j k m n o : AV, let l := lc_prate_ok a b c d e f g h i j k m; trim ((5,o)::(4,n)::l) l = [(0,a),(1,b),(2,c),(4,n),(5,o),(6,f),(7,g),(8,h),(9,i),(10,j),(26,k),(46,m)] := by intros; rfl
   refine R_nil (tr ..) ?_; clear tr
   refine then_n ?_
   refine at_ret rfl ?_
   refine then_r ?_
   first | (refine fpure ?_; refine ⟨?_, rfl⟩; rw [rtS_n (fun h => by first | exact absurd h.1 (by assumption) | (have h2 := h.2; omega))] <;> rfl; done) | (refine fpure ?_; refine ⟨?_, rfl⟩; rw [rtS_y hok, rtx_m (by omega)]; refine congrArg (fun l => AV.tup [sv l, AV.i 0]) ?_; simp; done) | (refine fpure ?_; refine ⟨?_, rfl⟩; rw [rtS_y hok, rtx_p (by omega)]; refine congrArg (fun l => AV.tup [sv l, AV.i 0]) ?_; simp; done)
  ·
   try simp only [decide_eq_true_eq, decide_eq_false_iff_not, decide_eq_decide, Bool.not_eq_true', Bool.not_eq_false', beq_iff_eq, beq_eq_false_iff_ne, ne_eq, Bool.and_eq_true, Bool.and_eq_false_iff, decide_not] at h2
   refine Ry ?_
   refine Rq ?_
   refine Ry ?_
   refine Rq ?_
   refine Rq ?_
   have tr : ∀ a b c d e f g h i j k m n o p q r s t u v w : AV, let l := lc_prate_ok a b c d e f g h i j k m; trim ((26,w)::(25,v)::(24,u)::(23,t)::(22,s)::(21,r)::(20,q)::(19,p)::(18,o)::(17,n)::l) l = [(0,a),(1,b),(2,c),(4,d),(5,e),(6,f),(7,g),(8,h),(9,i),(10,j),(26,w),(46,m)] := by intros; rfl
   refine R_nil (tr ..) ?_; clear tr
   refine then_n ?_
   refine cdd (fun h3 => ?_) (fun h3 => ?_)
   ·
    try simp only [decide_eq_true_eq, decide_eq_false_iff_not, decide_eq_decide, Bool.not_eq_true', Bool.not_eq_false', beq_iff_eq, beq_eq_false_iff_ne, ne_eq, Bool.and_eq_true, Bool.and_eq_false_iff, decide_not] at h3
    refine at_seq rfl ?_
    refine rg rfl ?_
    refine Rq ?_
    refine Rq ?_
    have tr : ∀ a b c d e f g h i j k m n o : AV, let l := lc_prate_ok a b c d e f g h i j k m; trim ((5,o)::(4,n)::l) l = [(0,a),(1,b),(2,c),(4,n),(5,o),(6,f),(7,g),(8,h),(9,i),(10,j),(26,k),(46,m)] := by intros; rfl
    refine R_nil (tr ..) ?_; clear tr
    refine then_n ?_
    refine at_ret rfl ?_
    refine then_r ?_
    first | (refine fpure ?_; refine ⟨?_, rfl⟩; rw [rtS_n (fun h => by first | exact absurd h.1 (by assumption) | (have h2 := h.2; omega))] <;> rfl; done) | (refine fpure ?_; refine ⟨?_, rfl⟩; rw [rtS_y hok, rtx_m (by omega)]; refine congrArg (fun l => AV.tup [sv l, AV.i 0]) ?_; simp; done) | (refine fpure ?_; refine ⟨?_, rfl⟩; rw [rtS_y hok, rtx_p (by omega)]; refine congrArg (fun l => AV.tup [sv l, AV.i 0]) ?_; simp; done)
   ·
    try simp only [decide_eq_true_eq, decide_eq_false_iff_not, decide_eq_decide, Bool.not_eq_true', Bool.not_eq_false', beq_iff_eq, beq_eq_false_iff_ne, ne_eq, Bool.and_eq_true, Bool.and_eq_false_iff, decide_not] at h3
    refine at_skip rfl ?_
    refine then_n ?_
    refine at_seq rfl ?_
    refine rg rfl ?_
    have hok : okR z b := ⟨by assumption, by omega⟩
    rw [rtN_y hok.1, rtD_y hok.1]
    have h1 := rxn_rng hok.1
    have h2 := rxd_rng hok.1
    have h3 := scal_rng h1 hok.2
    have hg4 := rq_rng hok
    obtain ⟨T, hT⟩ : ∃ T, T = rxn z * (b * 1000) := ⟨_, rfl⟩
    rw [← hT] at h3
    have hg5 := rq_at hT
    refine Rq ?_
    refine Rq ?_
    refine Rq ?_
    refine R_q (r := AV.i (T)) rfl (by simp (disch := first | omega | (simp only [List.length_map, List.length_append, List.length_set, List.length_cons, List.length_nil]; omega)) only [go_sem, ↓reduceIte, Nat.reduceEqDiff, reduceCtorEq] <;> exact congrArg (fun z => some (AV.i z)) (by first | exact hT.symm | omega)) ?_
    refine Rq ?_
    have tr : ∀ a b c d e f g h i j k m n o p q r : AV, let l := lc_prate_ok a b c d e f g h i j k m; trim ((6,r)::(30,q)::(29,p)::(28,o)::(27,n)::l) l = [(0,a),(1,b),(2,c),(4,d),(5,e),(6,r),(7,g),(8,h),(9,i),(10,j),(26,k),(46,m)] := by intros; rfl
    refine R_nil (tr ..) ?_; clear tr
    refine then_n ?_
    refine at_seq rfl ?_
    refine rg rfl ?_
    refine Rq ?_
    refine Rq ?_
    refine Rq ?_
    refine Rq ?_
    refine Rq ?_
    refine Rq ?_
    refine Rq ?_
    refine Rq ?_
    refine Rq ?_
    refine R_q (r := AV.i (rq z b)) rfl (by simp (disch := first | omega | (simp only [List.length_map, List.length_append, List.length_set, List.length_cons, List.length_nil]; omega)) only [go_sem, ↓reduceIte, Nat.reduceEqDiff, reduceCtorEq] <;> exact congrArg (fun z => some (AV.i z)) (by first | exact q_wrap (by unfold ab; split <;> omega) rfl hg5 hg4 | exact q_wrap (by unfold ab; split <;> omega) (by omega) hg5 hg4)) ?_
    refine Rq ?_
    have tr : ∀ a b c d e f g h i j k m n o p q r s t u v w x : AV, let l := lc_prate_ok a b c d e f g h i j k m; trim ((9,x)::(40,w)::(39,v)::(38,u)::(37,t)::(36,s)::(35,r)::(34,q)::(33,p)::(32,o)::(31,n)::l) l = [(0,a),(1,b),(2,c),(4,d),(5,e),(6,f),(7,g),(8,h),(9,x),(10,j),(26,k),(46,m)] := by intros; rfl
    refine R_nil (tr ..) ?_; clear tr
    refine then_n ?_
    refine at_seq rfl ?_
    refine rg rfl ?_
    refine Rq ?_
    have tr : ∀ a b c d e f g h i j k m n : AV, let l := lc_prate_ok a b c d e f g h i j k m; trim ((10,n)::l) l = [(0,a),(1,b),(2,c),(4,d),(5,e),(6,f),(7,g),(8,h),(9,i),(10,n),(26,k),(46,m)] := by intros; rfl
    refine R_nil (tr ..) ?_; clear tr
    refine then_n ?_
    refine at_seq rfl ?_
    refine at_seq rfl ?_
    refine rg rfl ?_
    refine Rq ?_
    refine Rq ?_
    refine Rq ?_
    refine Rp_split (fun h4 => ?_) (fun h4 => ?_)
    ·
     try simp only [decide_eq_true_eq, decide_eq_false_iff_not, decide_eq_decide, Bool.not_eq_true', Bool.not_eq_false', beq_iff_eq, beq_eq_false_iff_ne, ne_eq, Bool.and_eq_true, Bool.and_eq_false_iff, decide_not] at h4
     refine Ry ?_
     refine Rq ?_
     refine Ry ?_
     refine Rq ?_
     refine Rq ?_
     have tr : ∀ a b c d e f g h i j k m n o p q r s : AV, let l := lc_prate_ok a b c d e f g h i j k m; trim ((46,s)::(45,r)::(44,q)::(43,p)::(42,o)::(41,n)::l) l = [(0,a),(1,b),(2,c),(4,d),(5,e),(6,f),(7,g),(8,h),(9,i),(10,j),(26,k),(46,s)] := by intros; rfl
     refine R_nil (tr ..) ?_; clear tr
     refine then_n ?_
     refine cdd (fun h5 => ?_) (fun h5 => ?_)
     ·
      try simp only [decide_eq_true_eq, decide_eq_false_iff_not, decide_eq_decide, Bool.not_eq_true', Bool.not_eq_false', beq_iff_eq, beq_eq_false_iff_ne, ne_eq, Bool.and_eq_true, Bool.and_eq_false_iff, decide_not] at h5
      refine rg rfl ?_
      refine Rq ?_
      have tr : ∀ a b c d e f g h i j k m n : AV, let l := lc_prate_ok a b c d e f g h i j k m; trim ((10,n)::l) l = [(0,a),(1,b),(2,c),(4,d),(5,e),(6,f),(7,g),(8,h),(9,i),(10,n),(26,k),(46,m)] := by intros; rfl
      refine R_nil (tr ..) ?_; clear tr
      refine then_n ?_
      refine at_seq rfl ?_
      refine rg rfl ?_
      have hq1 := dd_len20 (n := (rq z b / 1000).toNat) (by omega)
      have hq2 := pad_len3 (n := (rq z b % 1000).toNat) (by omega)
      refine Rq ?_
      refine Rq ?_
      refine Rq ?_
      refine Rcall ?_
      refine ACall_eq (dec_ok _ _ (rq z b / 1000) (by omega)) ?_
      rw [txW_nn (by omega)]
      refine Rq ?_
      refine Rq ?_
      refine Rq ?_
      refine Rq ?_
      refine Rcall ?_
      refine ACall_eq (pad_ok _ _ (rq z b % 1000) (by omega) 3 (by omega)) ?_
      rw [show ((3 : Int).toNat) = 3 from rfl]
      refine Rq ?_
      refine Rq ?_
      refine Rq ?_
      have tr : ∀ a b c d e f g h i j k m n o p q r s t u v w x y : AV, let l := lc_prate_ok a b c d e f g h i j k m; trim ((5,y)::(4,x)::(56,w)::(55,v)::(54,u)::(53,t)::(52,s)::(51,r)::(50,q)::(49,p)::(48,o)::(47,n)::l) l = [(0,a),(1,b),(2,c),(4,x),(5,y),(6,f),(7,g),(8,h),(9,i),(10,j),(26,k),(46,m)] := by intros; rfl
      refine R_nil (tr ..) ?_; clear tr
      refine then_n ?_
      refine at_ret rfl ?_
      first | (refine fpure ?_; refine ⟨?_, rfl⟩; rw [rtS_n (fun h => by first | exact absurd h.1 (by assumption) | (have h2 := h.2; omega))] <;> rfl; done) | (refine fpure ?_; refine ⟨?_, rfl⟩; rw [rtS_y hok, rtx_m (by omega)]; refine congrArg (fun l => AV.tup [sv l, AV.i 0]) ?_; simp; done) | (refine fpure ?_; refine ⟨?_, rfl⟩; rw [rtS_y hok, rtx_p (by omega)]; refine congrArg (fun l => AV.tup [sv l, AV.i 0]) ?_; simp; done)
     ·
      try simp only [decide_eq_true_eq, decide_eq_false_iff_not, decide_eq_decide, Bool.not_eq_true', Bool.not_eq_false', beq_iff_eq, beq_eq_false_iff_ne, ne_eq, Bool.and_eq_true, Bool.and_eq_false_iff, decide_not] at h5
      refine at_skip rfl ?_
      refine then_n ?_
      refine at_seq rfl ?_
      refine rg rfl ?_
      have hq1 := dd_len20 (n := (rq z b / 1000).toNat) (by omega)
      have hq2 := pad_len3 (n := (rq z b % 1000).toNat) (by omega)
      refine Rq ?_
      refine Rq ?_
      refine Rq ?_
      refine Rcall ?_
      refine ACall_eq (dec_ok _ _ (rq z b / 1000) (by omega)) ?_
      rw [txW_nn (by omega)]
      refine Rq ?_
      refine Rq ?_
      refine Rq ?_
      refine Rq ?_
      refine Rcall ?_
      refine ACall_eq (pad_ok _ _ (rq z b % 1000) (by omega) 3 (by omega)) ?_
      rw [show ((3 : Int).toNat) = 3 from rfl]
      refine Rq ?_
      refine Rq ?_
      refine Rq ?_
      have tr : ∀ a b c d e f g h i j k m n o p q r s t u v w x y : AV, let l := lc_prate_ok a b c d e f g h i j k m; trim ((5,y)::(4,x)::(56,w)::(55,v)::(54,u)::(53,t)::(52,s)::(51,r)::(50,q)::(49,p)::(48,o)::(47,n)::l) l = [(0,a),(1,b),(2,c),(4,x),(5,y),(6,f),(7,g),(8,h),(9,i),(10,j),(26,k),(46,m)] := by intros; rfl
      refine R_nil (tr ..) ?_; clear tr
      refine then_n ?_
      refine at_ret rfl ?_
      first | (refine fpure ?_; refine ⟨?_, rfl⟩; rw [rtS_n (fun h => by first | exact absurd h.1 (by assumption) | (have h2 := h.2; omega))] <;> rfl; done) | (refine fpure ?_; refine ⟨?_, rfl⟩; rw [rtS_y hok, rtx_m (by omega)]; refine congrArg (fun l => AV.tup [sv l, AV.i 0]) ?_; simp; done) | (refine fpure ?_; refine ⟨?_, rfl⟩; rw [rtS_y hok, rtx_p (by omega)]; refine congrArg (fun l => AV.tup [sv l, AV.i 0]) ?_; simp; done)
    ·
     try simp only [decide_eq_true_eq, decide_eq_false_iff_not, decide_eq_decide, Bool.not_eq_true', Bool.not_eq_false', beq_iff_eq, beq_eq_false_iff_ne, ne_eq, Bool.and_eq_true, Bool.and_eq_false_iff, decide_not] at h4
     refine Rn ?_
     refine Rn ?_
     refine Rq ?_
     have tr : ∀ a b c d e f g h i j k m n o p q r s : AV, let l := lc_prate_ok a b c d e f g h i j k m; trim ((46,s)::(45,r)::(44,q)::(43,p)::(42,o)::(41,n)::l) l = [(0,a),(1,b),(2,c),(4,d),(5,e),(6,f),(7,g),(8,h),(9,i),(10,j),(26,k),(46,s)] := by intros; rfl
     refine R_nil (tr ..) ?_; clear tr
     refine then_n ?_
     refine cdf ?_
     refine at_skip rfl ?_
     refine then_n ?_
     refine at_seq rfl ?_
     refine rg rfl ?_
     have hq1 := dd_len20 (n := (rq z b / 1000).toNat) (by omega)
     have hq2 := pad_len3 (n := (rq z b % 1000).toNat) (by omega)
     refine Rq ?_
     refine Rq ?_
     refine Rq ?_
     refine Rcall ?_
     refine ACall_eq (dec_ok _ _ (rq z b / 1000) (by omega)) ?_
     rw [txW_nn (by omega)]
     refine Rq ?_
     refine Rq ?_
     refine Rq ?_
     refine Rq ?_
     refine Rcall ?_
     refine ACall_eq (pad_ok _ _ (rq z b % 1000) (by omega) 3 (by omega)) ?_
     rw [show ((3 : Int).toNat) = 3 from rfl]
     refine Rq ?_
     refine Rq ?_
     refine Rq ?_
     have tr : ∀ a b c d e f g h i j k m n o p q r s t u v w x y : AV, let l := lc_prate_ok a b c d e f g h i j k m; trim ((5,y)::(4,x)::(56,w)::(55,v)::(54,u)::(53,t)::(52,s)::(51,r)::(50,q)::(49,p)::(48,o)::(47,n)::l) l = [(0,a),(1,b),(2,c),(4,x),(5,y),(6,f),(7,g),(8,h),(9,i),(10,j),(26,k),(46,m)] := by intros; rfl
     refine R_nil (tr ..) ?_; clear tr
     refine then_n ?_
     refine at_ret rfl ?_
     first | (refine fpure ?_; refine ⟨?_, rfl⟩; rw [rtS_n (fun h => by first | exact absurd h.1 (by assumption) | (have h2 := h.2; omega))] <;> rfl; done) | (refine fpure ?_; refine ⟨?_, rfl⟩; rw [rtS_y hok, rtx_m (by omega)]; refine congrArg (fun l => AV.tup [sv l, AV.i 0]) ?_; simp; done) | (refine fpure ?_; refine ⟨?_, rfl⟩; rw [rtS_y hok, rtx_p (by omega)]; refine congrArg (fun l => AV.tup [sv l, AV.i 0]) ?_; simp; done)

abbrev lc_rprate_ok (a b c d e f g h i j k m : AV) : Env := [(0,a),(1,b),(2,c),(4,d),(5,e),(6,f),(7,g),(8,h),(9,i),(20,j),(27,k),(40,m)]
theorem rprate_ok (lim : Nat) (H : Heap) (z : St) (b : Int) (hb : -9223372036854775808 ≤ b ∧ b ≤ 9223372036854775807) : ACall sig lim 18 [stA z, AV.i b] H fun r H' => r = .tup [sv (rtS z b).1, AV.i (rtS z b).2] ∧ H' = H := by
 refine ACall_pure (fa := fa18) rfl rfl rfl rfl ?_
 have tr : ∀ a0 a1 : AV, env0 fa18.keep [a0, a1] = [(0,a0),(1,a1),(2,.any),(4,.any),(5,.any),(6,.any),(7,.any),(8,.any),(9,.any),(20,.any),(27,.any),(40,.any)] := fun a0 a1 => rfl
 refine W_to (tr _ _) ?_; clear tr
 refine at_seq rfl ?_
 refine rg rfl ?_
 refine R_box rfl (by simp (disch := first | omega | (simp only [List.length_map, List.length_append, List.length_set, List.length_cons, List.length_nil]; omega)) only [go_sem, ↓reduceIte, Nat.reduceEqDiff, reduceCtorEq]; rfl) rfl rfl ?_
 refine Rq ?_
 refine Rq ?_
 have tr : ∀ a b c d e f g h i j k m n o p : AV, let l := lc_rprate_ok a b c d e f g h i j k m; trim ((5,p)::(4,o)::(2,n)::l) l = [(0,a),(1,b),(2,n),(4,o),(5,p),(6,f),(7,g),(8,h),(9,i),(20,j),(27,k),(40,m)] := by intros; rfl
 refine R_nil (tr ..) ?_; clear tr
 refine then_n ?_
 refine at_seq rfl ?_
 refine at_seq rfl ?_
 refine rg rfl ?_
 refine Rq ?_
 refine Rcall ?_
 refine ACall_eq (valid_ok _ _ _) ?_
 refine Rq ?_
 refine Rq ?_
 refine Rp_split (fun h1 => ?_) (fun h1 => ?_)
 ·
  try simp only [decide_eq_true_eq, decide_eq_false_iff_not, decide_eq_decide, Bool.not_eq_true', Bool.not_eq_false', beq_iff_eq, beq_eq_false_iff_ne, ne_eq, Bool.and_eq_true, Bool.and_eq_false_iff, decide_not] at h1
  refine Rn ?_
  refine Rn ?_
  refine Rq ?_
  refine Rq ?_
  refine Rn ?_
  refine Rn ?_
  refine Rq ?_
  have tr : ∀ a b c d e f g h i j k m n o p q r s t u v w x : AV, let l := lc_rprate_ok a b c d e f g h i j k m; trim ((20,x)::(19,w)::(18,v)::(17,u)::(16,t)::(15,s)::(14,r)::(13,q)::(12,p)::(11,o)::(10,n)::l) l = [(0,a),(1,b),(2,c),(4,d),(5,e),(6,f),(7,g),(8,h),(9,i),(20,x),(27,k),(40,m)] := by intros; rfl
  refine R_nil (tr ..) ?_; clear tr
  refine then_n ?_
  refine cdt ?_
  refine at_seq rfl ?_
  refine rg rfl ?_
  refine Rq ?_
  refine Rq ?_
  have tr : ∀ a b c d e f g h i j k m n o : AV, let l := lc_rprate_ok a b c d e f g h i j k m; trim ((5,o)::(4,n)::l) l = [(0,a),(1,b),(2,c),(4,n),(5,o),(6,f),(7,g),(8,h),(9,i),(20,j),(27,k),(40,m)] := by intros; rfl
  refine R_nil (tr ..) ?_; clear tr
  refine then_n ?_
  refine at_ret rfl ?_
  refine then_r ?_
  first | (refine fpure ?_; refine ⟨?_, rfl⟩; rw [rtS_n (fun h => by first | exact absurd h.1 (by assumption) | (have h2 := h.2; omega))] <;> rfl; done) | (refine fpure ?_; refine ⟨?_, rfl⟩; rw [rtS_y hok, rtx_m (by omega)]; refine congrArg (fun l => AV.tup [sv l, AV.i 0]) ?_; simp; done) | (refine fpure ?_; refine ⟨?_, rfl⟩; rw [rtS_y hok, rtx_p (by omega)]; refine congrArg (fun l => AV.tup [sv l, AV.i 0]) ?_; simp; done)
 ·
  try simp only [decide_eq_true_eq, decide_eq_false_iff_not, decide_eq_decide, Bool.not_eq_true', Bool.not_eq_false', beq_iff_eq, beq_eq_false_iff_ne, ne_eq, Bool.and_eq_true, Bool.and_eq_false_iff, decide_not] at h1
  refine Ry ?_
  refine Rq ?_
  refine Ry ?_
  refine Rq ?_
  refine Rq ?_
  refine Rq ?_
  refine Rp_split (fun h2 => ?_) (fun h2 => ?_)
  ·
   try simp only [decide_eq_true_eq, decide_eq_false_iff_not, decide_eq_decide, Bool.not_eq_true', Bool.not_eq_false', beq_iff_eq, beq_eq_false_iff_ne, ne_eq, Bool.and_eq_true, Bool.and_eq_false_iff, decide_not] at h2
   refine Rn ?_
   refine Rn ?_
   refine Rq ?_
   have tr : ∀ a b c d e f g h i j k m n o p q r s t u v w x : AV, let l := lc_rprate_ok a b c d e f g h i j k m; trim ((20,x)::(19,w)::(18,v)::(17,u)::(16,t)::(15,s)::(14,r)::(13,q)::(12,p)::(11,o)::(10,n)::l) l = [(0,a),(1,b),(2,c),(4,d),(5,e),(6,f),(7,g),(8,h),(9,i),(20,x),(27,k),(40,m)] := by intros; rfl
   refine R_nil (tr ..) ?_; clear tr
   refine then_n ?_
   refine cdt ?_
   refine at_seq rfl ?_
   refine rg rfl ?_
   refine Rq ?_
   refine Rq ?_
   have tr : ∀ a b c d e f g h i j k m n o : AV, let l := lc_rprate_ok a b c d e f g h i j k m; trim ((5,o)::(4,n)::l) l = [(0,a),(1,b),(2,c),(4,n),(5,o),(6,f),(7,g),(8,h),(9,i),(20,j),(27,k),(40,m)] := by intros; rfl
   refine R_nil (tr ..) ?_; clear tr
   refine then_n ?_
   refine at_ret rfl ?_
   refine then_r ?_
   first | (refine fpure ?_; refine ⟨?_, rfl⟩; rw [rtS_n (fun h => by first | exact absurd h.1 (by assumption) | (have h2 := h.2; omega))] <;> rfl; done) | (refine fpure ?_; refine ⟨?_, rfl⟩; rw [rtS_y hok, rtx_m (by omega)]; refine congrArg (fun l => AV.tup [sv l, AV.i 0]) ?_; simp; done) | (refine fpure ?_; refine ⟨?_, rfl⟩; rw [rtS_y hok, rtx_p (by omega)]; refine congrArg (fun l => AV.tup [sv l, AV.i 0]) ?_; simp; done)
  ·
   try simp only [decide_eq_true_eq, decide_eq_false_iff_not, decide_eq_decide, Bool.not_eq_true', Bool.not_eq_false', beq_iff_eq, beq_eq_false_iff_ne, ne_eq, Bool.and_eq_true, Bool.and_eq_false_iff, decide_not] at h2
   refine Ry ?_
   refine Rq ?_
   refine Ry ?_
   refine Rq ?_
   refine Rq ?_
   have tr : ∀ a b c d e f g h i j k m n o p q r s t u v w x : AV, let l := lc_rprate_ok a b c d e f g h i j k m; trim ((20,x)::(19,w)::(18,v)::(17,u)::(16,t)::(15,s)::(14,r)::(13,q)::(12,p)::(11,o)::(10,n)::l) l = [(0,a),(1,b),(2,c),(4,d),(5,e),(6,f),(7,g),(8,h),(9,i),(20,x),(27,k),(40,m)] := by intros; rfl
   refine R_nil (tr ..) ?_; clear tr
   refine then_n ?_
   refine cdd (fun h3 => ?_) (fun h3 => ?_)
   ·
    try simp only [decide_eq_true_eq, decide_eq_false_iff_not, decide_eq_decide, Bool.not_eq_true', Bool.not_eq_false', beq_iff_eq, beq_eq_false_iff_ne, ne_eq, Bool.and_eq_true, Bool.and_eq_false_iff, decide_not] at h3
    refine at_seq rfl ?_
    refine rg rfl ?_
    refine Rq ?_
    refine Rq ?_
    have tr : ∀ a b c d e f g h i j k m n o : AV, let l := lc_rprate_ok a b c d e f g h i j k m; trim ((5,o)::(4,n)::l) l = [(0,a),(1,b),(2,c),(4,n),(5,o),(6,f),(7,g),(8,h),(9,i),(20,j),(27,k),(40,m)] := by intros; rfl
    refine R_nil (tr ..) ?_; clear tr
    refine then_n ?_
    refine at_ret rfl ?_
    refine then_r ?_
    first | (refine fpure ?_; refine ⟨?_, rfl⟩; rw [rtS_n (fun h => by first | exact absurd h.1 (by assumption) | (have h2 := h.2; omega))] <;> rfl; done) | (refine fpure ?_; refine ⟨?_, rfl⟩; rw [rtS_y hok, rtx_m (by omega)]; refine congrArg (fun l => AV.tup [sv l, AV.i 0]) ?_; simp; done) | (refine fpure ?_; refine ⟨?_, rfl⟩; rw [rtS_y hok, rtx_p (by omega)]; refine congrArg (fun l => AV.tup [sv l, AV.i 0]) ?_; simp; done)
   ·
    try simp only [decide_eq_true_eq, decide_eq_false_iff_not, decide_eq_decide, Bool.not_eq_true', Bool.not_eq_false', beq_iff_eq, beq_eq_false_iff_ne, ne_eq, Bool.and_eq_true, Bool.and_eq_false_iff, decide_not] at h3
    refine at_skip rfl ?_
    refine then_n ?_
    refine at_seq rfl ?_
    refine rg rfl ?_
    have hok : okR z b := ⟨by assumption, by omega⟩
    have h1 := rxn_rng hok.1
    have h2 := rxd_rng hok.1
    have h3 := scal_rng h1 hok.2
    have hg4 := rq_rng hok
    obtain ⟨T, hT⟩ : ∃ T, T = rxn z * (b * 1000) := ⟨_, rfl⟩
    rw [← hT] at h3
    have hg5 := rq_at hT
    refine Rq ?_
    refine Rcall ?_
    refine ACall_eq (rrate_ok _ _ _ hok.1) ?_
    refine Rq ?_
    refine Rq ?_
    refine Rq ?_
    refine Rq ?_
    refine Rq ?_
    have tr : ∀ a b c d e f g h i j k m n o p q r s t : AV, let l := lc_rprate_ok a b c d e f g h i j k m; trim ((7,t)::(6,s)::(25,r)::(24,q)::(21,p)::(23,o)::(22,n)::l) l = [(0,a),(1,b),(2,c),(4,d),(5,e),(6,s),(7,t),(8,h),(9,i),(20,j),(27,k),(40,m)] := by intros; rfl
    refine R_nil (tr ..) ?_; clear tr
    refine then_n ?_
    refine at_seq rfl ?_
    refine rg rfl ?_
    refine Rq ?_
    have tr : ∀ a b c d e f g h i j k m n : AV, let l := lc_rprate_ok a b c d e f g h i j k m; trim ((8,n)::l) l = [(0,a),(1,b),(2,c),(4,d),(5,e),(6,f),(7,g),(8,n),(9,i),(20,j),(27,k),(40,m)] := by intros; rfl
    refine R_nil (tr ..) ?_; clear tr
    refine then_n ?_
    refine at_seq rfl ?_
    refine at_seq rfl ?_
    refine rg rfl ?_
    refine Rq ?_
    refine Rq ?_
    have tr : ∀ a b c d e f g h i j k m n o : AV, let l := lc_rprate_ok a b c d e f g h i j k m; trim ((27,o)::(26,n)::l) l = [(0,a),(1,b),(2,c),(4,d),(5,e),(6,f),(7,g),(8,h),(9,i),(20,j),(27,o),(40,m)] := by intros; rfl
    refine R_nil (tr ..) ?_; clear tr
    refine then_n ?_
    refine cdd (fun h4 => ?_) (fun h4 => ?_)
    ·
     try simp only [decide_eq_true_eq, decide_eq_false_iff_not, decide_eq_decide, Bool.not_eq_true', Bool.not_eq_false', beq_iff_eq, beq_eq_false_iff_ne, ne_eq, Bool.and_eq_true, Bool.and_eq_false_iff, decide_not] at h4
     refine rg rfl ?_
     refine Rq ?_
     refine Rq ?_
     refine Rq ?_
     refine Rq ?_
     have tr : ∀ a b c d e f g h i j k m n o p q : AV, let l := lc_rprate_ok a b c d e f g h i j k m; trim ((6,q)::(8,p)::(29,o)::(28,n)::l) l = [(0,a),(1,b),(2,c),(4,d),(5,e),(6,q),(7,g),(8,p),(9,i),(20,j),(27,k),(40,m)] := by intros; rfl
     refine R_nil (tr ..) ?_; clear tr
     refine then_n ?_
     refine at_seq rfl ?_
     refine rg rfl ?_
     refine Rq ?_
     refine Rq ?_
     refine Rq ?_
     refine Rq ?_
     refine Rq ?_
     refine Rq ?_
     refine Rq ?_
     refine Rq ?_
     refine R_q (r := AV.i (rq z b)) rfl (by simp (disch := first | omega | (simp only [List.length_map, List.length_append, List.length_set, List.length_cons, List.length_nil]; omega)) only [go_sem, ↓reduceIte, Nat.reduceEqDiff, reduceCtorEq] <;> exact congrArg (fun z => some (AV.i z)) (by first | exact q_wrap (by unfold ab; split <;> omega) rfl hg5 hg4 | exact q_wrap (by unfold ab; split <;> omega) (by omega) hg5 hg4)) ?_
     refine Rq ?_
     have tr : ∀ a b c d e f g h i j k m n o p q r s t u v w : AV, let l := lc_rprate_ok a b c d e f g h i j k m; trim ((9,w)::(38,v)::(37,u)::(36,t)::(35,s)::(34,r)::(33,q)::(32,p)::(31,o)::(30,n)::l) l = [(0,a),(1,b),(2,c),(4,d),(5,e),(6,f),(7,g),(8,h),(9,w),(20,j),(27,k),(40,m)] := by intros; rfl
     refine R_nil (tr ..) ?_; clear tr
     refine then_n ?_
     refine at_seq rfl ?_
     refine at_seq rfl ?_
     refine rg rfl ?_
     refine Rq ?_
     refine Rq ?_
     have tr : ∀ a b c d e f g h i j k m n o : AV, let l := lc_rprate_ok a b c d e f g h i j k m; trim ((40,o)::(39,n)::l) l = [(0,a),(1,b),(2,c),(4,d),(5,e),(6,f),(7,g),(8,h),(9,i),(20,j),(27,k),(40,o)] := by intros; rfl
     refine R_nil (tr ..) ?_; clear tr
     refine then_n ?_
     refine cdd (fun h5 => ?_) (fun h5 => ?_)
     ·
      try simp only [decide_eq_true_eq, decide_eq_false_iff_not, decide_eq_decide, Bool.not_eq_true', Bool.not_eq_false', beq_iff_eq, beq_eq_false_iff_ne, ne_eq, Bool.and_eq_true, Bool.and_eq_false_iff, decide_not] at h5
      refine rg rfl ?_
      refine Rq ?_
      have tr : ∀ a b c d e f g h i j k m n : AV, let l := lc_rprate_ok a b c d e f g h i j k m; trim ((8,n)::l) l = [(0,a),(1,b),(2,c),(4,d),(5,e),(6,f),(7,g),(8,n),(9,i),(20,j),(27,k),(40,m)] := by intros; rfl
      refine R_nil (tr ..) ?_; clear tr
      refine then_n ?_
      refine at_seq rfl ?_
      refine rg rfl ?_
      have hq1 := dd_len20 (n := (rq z b / 1000).toNat) (by omega)
      have hq2 := pad_len3 (n := (rq z b % 1000).toNat) (by omega)
      refine Rq ?_
      refine Rq ?_
      refine Rq ?_
      refine Rcall ?_
      refine ACall_eq (rdec_ok _ _ (rq z b / 1000) (by omega)) ?_
      rw [txW_nn (by omega)]
      refine Rq ?_
      refine Rq ?_
      refine Rq ?_
      refine Rq ?_
      refine Rcall ?_
      refine ACall_eq (rpad_ok _ _ (rq z b % 1000) (by omega) 3 (by omega)) ?_
      rw [if_neg (by omega), List.nil_append, ab_pos (by omega)]
      rw [show ((3 : Int).toNat) = 3 from rfl]
      refine Rq ?_
      refine Rq ?_
      refine Rq ?_
      have tr : ∀ a b c d e f g h i j k m n o p q r s t u v w x y : AV, let l := lc_rprate_ok a b c d e f g h i j k m; trim ((5,y)::(4,x)::(50,w)::(49,v)::(48,u)::(47,t)::(46,s)::(45,r)::(44,q)::(43,p)::(42,o)::(41,n)::l) l = [(0,a),(1,b),(2,c),(4,x),(5,y),(6,f),(7,g),(8,h),(9,i),(20,j),(27,k),(40,m)] := by intros; rfl
      refine R_nil (tr ..) ?_; clear tr
      refine then_n ?_
      refine at_ret rfl ?_
      first | (refine fpure ?_; refine ⟨?_, rfl⟩; rw [rtS_n (fun h => by first | exact absurd h.1 (by assumption) | (have h2 := h.2; omega))] <;> rfl; done) | (refine fpure ?_; refine ⟨?_, rfl⟩; rw [rtS_y hok, rtx_m (by omega)]; refine congrArg (fun l => AV.tup [sv l, AV.i 0]) ?_; simp; done) | (refine fpure ?_; refine ⟨?_, rfl⟩; rw [rtS_y hok, rtx_p (by omega)]; refine congrArg (fun l => AV.tup [sv l, AV.i 0]) ?_; simp; done)
     ·
      try simp only [decide_eq_true_eq, decide_eq_false_iff_not, decide_eq_decide, Bool.not_eq_true', Bool.not_eq_false', beq_iff_eq, beq_eq_false_iff_ne, ne_eq, Bool.and_eq_true, Bool.and_eq_false_iff, decide_not] at h5
      refine at_skip rfl ?_
      refine then_n ?_
      refine at_seq rfl ?_
      refine rg rfl ?_
      have hq1 := dd_len20 (n := (rq z b / 1000).toNat) (by omega)
      have hq2 := pad_len3 (n := (rq z b % 1000).toNat) (by omega)
      refine Rq ?_
      refine Rq ?_
      refine Rq ?_
      refine Rcall ?_
      refine ACall_eq (rdec_ok _ _ (rq z b / 1000) (by omega)) ?_
      rw [txW_nn (by omega)]
      refine Rq ?_
      refine Rq ?_
      refine Rq ?_
      refine Rq ?_
      refine Rcall ?_
      refine ACall_eq (rpad_ok _ _ (rq z b % 1000) (by omega) 3 (by omega)) ?_
      rw [if_neg (by omega), List.nil_append, ab_pos (by omega)]
      rw [show ((3 : Int).toNat) = 3 from rfl]
      refine Rq ?_
      refine Rq ?_
      refine Rq ?_
      have tr : ∀ a b c d e f g h i j k m n o p q r s t u v w x y : AV, let l := lc_rprate_ok a b c d e f g h i j k m; trim ((5,y)::(4,x)::(50,w)::(49,v)::(48,u)::(47,t)::(46,s)::(45,r)::(44,q)::(43,p)::(42,o)::(41,n)::l) l = [(0,a),(1,b),(2,c),(4,x),(5,y),(6,f),(7,g),(8,h),(9,i),(20,j),(27,k),(40,m)] := by intros; rfl
      refine R_nil (tr ..) ?_; clear tr
      refine then_n ?_
      refine at_ret rfl ?_
      first | (refine fpure ?_; refine ⟨?_, rfl⟩; rw [rtS_n (fun h => by first | exact absurd h.1 (by assumption) | (have h2 := h.2; omega))] <;> rfl; done) | (refine fpure ?_; refine ⟨?_, rfl⟩; rw [rtS_y hok, rtx_m (by omega)]; refine congrArg (fun l => AV.tup [sv l, AV.i 0]) ?_; simp; done) | (refine fpure ?_; refine ⟨?_, rfl⟩; rw [rtS_y hok, rtx_p (by omega)]; refine congrArg (fun l => AV.tup [sv l, AV.i 0]) ?_; simp; done)
    ·
     try simp only [decide_eq_true_eq, decide_eq_false_iff_not, decide_eq_decide, Bool.not_eq_true', Bool.not_eq_false', beq_iff_eq, beq_eq_false_iff_ne, ne_eq, Bool.and_eq_true, Bool.and_eq_false_iff, decide_not] at h4
     refine at_skip rfl ?_
     refine then_n ?_
     refine at_seq rfl ?_
     refine rg rfl ?_
     refine Rq ?_
     refine Rq ?_
     refine Rq ?_
     refine Rq ?_
     refine Rq ?_
     refine Rq ?_
     refine Rq ?_
     refine Rq ?_
     refine R_q (r := AV.i (rq z b)) rfl (by simp (disch := first | omega | (simp only [List.length_map, List.length_append, List.length_set, List.length_cons, List.length_nil]; omega)) only [go_sem, ↓reduceIte, Nat.reduceEqDiff, reduceCtorEq] <;> exact congrArg (fun z => some (AV.i z)) (by first | exact q_wrap (by unfold ab; split <;> omega) rfl hg5 hg4 | exact q_wrap (by unfold ab; split <;> omega) (by omega) hg5 hg4)) ?_
     refine Rq ?_
     have tr : ∀ a b c d e f g h i j k m n o p q r s t u v w : AV, let l := lc_rprate_ok a b c d e f g h i j k m; trim ((9,w)::(38,v)::(37,u)::(36,t)::(35,s)::(34,r)::(33,q)::(32,p)::(31,o)::(30,n)::l) l = [(0,a),(1,b),(2,c),(4,d),(5,e),(6,f),(7,g),(8,h),(9,w),(20,j),(27,k),(40,m)] := by intros; rfl
     refine R_nil (tr ..) ?_; clear tr
     refine then_n ?_
     refine at_seq rfl ?_
     refine at_seq rfl ?_
     refine rg rfl ?_
     refine Rq ?_
     refine Rq ?_
     have tr : ∀ a b c d e f g h i j k m n o : AV, let l := lc_rprate_ok a b c d e f g h i j k m; trim ((40,o)::(39,n)::l) l = [(0,a),(1,b),(2,c),(4,d),(5,e),(6,f),(7,g),(8,h),(9,i),(20,j),(27,k),(40,o)] := by intros; rfl
     refine R_nil (tr ..) ?_; clear tr
     refine then_n ?_
     refine cdd (fun h6 => ?_) (fun h6 => ?_)
     ·
      try simp only [decide_eq_true_eq, decide_eq_false_iff_not, decide_eq_decide, Bool.not_eq_true', Bool.not_eq_false', beq_iff_eq, beq_eq_false_iff_ne, ne_eq, Bool.and_eq_true, Bool.and_eq_false_iff, decide_not] at h6
      refine rg rfl ?_
      refine Rq ?_
      have tr : ∀ a b c d e f g h i j k m n : AV, let l := lc_rprate_ok a b c d e f g h i j k m; trim ((8,n)::l) l = [(0,a),(1,b),(2,c),(4,d),(5,e),(6,f),(7,g),(8,n),(9,i),(20,j),(27,k),(40,m)] := by intros; rfl
      refine R_nil (tr ..) ?_; clear tr
      refine then_n ?_
      refine at_seq rfl ?_
      refine rg rfl ?_
      have hq1 := dd_len20 (n := (rq z b / 1000).toNat) (by omega)
      have hq2 := pad_len3 (n := (rq z b % 1000).toNat) (by omega)
      refine Rq ?_
      refine Rq ?_
      refine Rq ?_
      refine Rcall ?_
      refine ACall_eq (rdec_ok _ _ (rq z b / 1000) (by omega)) ?_
      rw [txW_nn (by omega)]
      refine Rq ?_
      refine Rq ?_
      refine Rq ?_
      refine Rq ?_
      refine Rcall ?_
      refine ACall_eq (rpad_ok _ _ (rq z b % 1000) (by omega) 3 (by omega)) ?_
      rw [if_neg (by omega), List.nil_append, ab_pos (by omega)]
      rw [show ((3 : Int).toNat) = 3 from rfl]
      refine Rq ?_
      refine Rq ?_
      refine Rq ?_
      have tr : ∀ a b c d e f g h i j k m n o p q r s t u v w x y : AV, let l := lc_rprate_ok a b c d e f g h i j k m; trim ((5,y)::(4,x)::(50,w)::(49,v)::(48,u)::(47,t)::(46,s)::(45,r)::(44,q)::(43,p)::(42,o)::(41,n)::l) l = [(0,a),(1,b),(2,c),(4,x),(5,y),(6,f),(7,g),(8,h),(9,i),(20,j),(27,k),(40,m)] := by intros; rfl
      refine R_nil (tr ..) ?_; clear tr
      refine then_n ?_
      refine at_ret rfl ?_
      first | (refine fpure ?_; refine ⟨?_, rfl⟩; rw [rtS_n (fun h => by first | exact absurd h.1 (by assumption) | (have h2 := h.2; omega))] <;> rfl; done) | (refine fpure ?_; refine ⟨?_, rfl⟩; rw [rtS_y hok, rtx_m (by omega)]; refine congrArg (fun l => AV.tup [sv l, AV.i 0]) ?_; simp; done) | (refine fpure ?_; refine ⟨?_, rfl⟩; rw [rtS_y hok, rtx_p (by omega)]; refine congrArg (fun l => AV.tup [sv l, AV.i 0]) ?_; simp; done)
     ·
      try simp only [decide_eq_true_eq, decide_eq_false_iff_not, decide_eq_decide, Bool.not_eq_true', Bool.not_eq_false', beq_iff_eq, beq_eq_false_iff_ne, ne_eq, Bool.and_eq_true, Bool.and_eq_false_iff, decide_not] at h6
      refine at_skip rfl ?_
      refine then_n ?_
      refine at_seq rfl ?_
      refine rg rfl ?_
      have hq1 := dd_len20 (n := (rq z b / 1000).toNat) (by omega)
      have hq2 := pad_len3 (n := (rq z b % 1000).toNat) (by omega)
      refine Rq ?_
      refine Rq ?_
      refine Rq ?_
      refine Rcall ?_
      refine ACall_eq (rdec_ok _ _ (rq z b / 1000) (by omega)) ?_
      rw [txW_nn (by omega)]
      refine Rq ?_
      refine Rq ?_
      refine Rq ?_
      refine Rq ?_
      refine Rcall ?_
      refine ACall_eq (rpad_ok _ _ (rq z b % 1000) (by omega) 3 (by omega)) ?_
      rw [if_neg (by omega), List.nil_append, ab_pos (by omega)]
      rw [show ((3 : Int).toNat) = 3 from rfl]
      refine Rq ?_
      refine Rq ?_
      refine Rq ?_
      have tr : ∀ a b c d e f g h i j k m n o p q r s t u v w x y : AV, let l := lc_rprate_ok a b c d e f g h i j k m; trim ((5,y)::(4,x)::(50,w)::(49,v)::(48,u)::(47,t)::(46,s)::(45,r)::(44,q)::(43,p)::(42,o)::(41,n)::l) l = [(0,a),(1,b),(2,c),(4,x),(5,y),(6,f),(7,g),(8,h),(9,i),(20,j),(27,k),(40,m)] := by intros; rfl
      refine R_nil (tr ..) ?_; clear tr
      refine then_n ?_
      refine at_ret rfl ?_
      first | (refine fpure ?_; refine ⟨?_, rfl⟩; rw [rtS_n (fun h => by first | exact absurd h.1 (by assumption) | (have h2 := h.2; omega))] <;> rfl; done) | (refine fpure ?_; refine ⟨?_, rfl⟩; rw [rtS_y hok, rtx_m (by omega)]; refine congrArg (fun l => AV.tup [sv l, AV.i 0]) ?_; simp; done) | (refine fpure ?_; refine ⟨?_, rfl⟩; rw [rtS_y hok, rtx_p (by omega)]; refine congrArg (fun l => AV.tup [sv l, AV.i 0]) ?_; simp; done)

end Go.Proofs.YtfnapmdedmbdbaaDoor
