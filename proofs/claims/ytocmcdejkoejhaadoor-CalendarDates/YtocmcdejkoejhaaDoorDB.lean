/-
  Walks of chapter 48. The steps are written by program (walk.py).
-/
import Derived.Test.YtocmcdejkoejhaaDoorPd
import Derived.Test.YtocmcdejkoejhaaDoorDA
import Derived.Test.YtocmcdejkoejhaaDoorK10
set_option linter.unusedSimpArgs false
set_option linter.unusedVariables false
set_option maxHeartbeats 1000000
set_option maxRecDepth 20000
namespace Go.Proofs.YtocmcdejkoejhaaDoor
open Go Go.Am
abbrev lc_text_ok (a b c d e f g h : AV) : Env := [(0,a),(2,b),(3,c),(4,d),(5,e),(6,f),(7,g),(16,h)]
theorem text_ok (lim : Nat) (H : Heap) (n : Int) : ACall sig lim 17 [AV.i n] H fun r H' => r = .tup [.v (.string (txS n).1), AV.i (txS n).2] ∧ H' = H := by
 refine ACall_pure (fa := fa17) rfl rfl rfl rfl ?_
 have tr : ∀ a0 : AV, env0 fa17.keep [a0] = [(0,a0),(2,.any),(3,.any),(4,.any),(5,.any),(6,.any),(7,.any),(16,.any)] := fun a0 => rfl
 refine W_to (tr _) ?_; clear tr
 refine at_seq rfl ?_
 refine rg rfl ?_
 refine Rq ?_
 refine Rq ?_
 have tr : ∀ a b c d e f g h i j : AV, let l := lc_text_ok a b c d e f g h; trim ((3,j)::(2,i)::l) l = [(0,a),(2,i),(3,j),(4,d),(5,e),(6,f),(7,g),(16,h)] := by intros; rfl
 refine R_nil (tr ..) ?_; clear tr
 refine then_n ?_
 refine at_seq rfl ?_
 refine rg rfl ?_
 refine Rq ?_
 refine Rcall ?_
 refine ACall_mono (date_ok _ _ n) ?_
 rintro r Hx ⟨⟨rfl, hD⟩, hHx⟩
 have hHx := hHx.symm
 subst hHx
 refine Rq ?_
 refine Rq ?_
 refine Rq ?_
 refine Rq ?_
 refine Rq ?_
 refine Rq ?_
 refine Rq ?_
 refine Rq ?_
 refine Rq ?_
 have tr : ∀ a b c d e f g h i j k m n o p q r s t : AV, let l := lc_text_ok a b c d e f g h; trim ((7,t)::(6,s)::(5,r)::(4,q)::(14,p)::(13,o)::(12,n)::(11,m)::(8,k)::(10,j)::(9,i)::l) l = [(0,a),(2,b),(3,c),(4,q),(5,r),(6,s),(7,t),(16,h)] := by intros; rfl
 refine R_nil (tr ..) ?_; clear tr
 refine then_n ?_
 refine at_seq rfl ?_
 refine at_seq rfl ?_
 refine rg rfl ?_
 refine Rq ?_
 refine Rq ?_
 have tr : ∀ a b c d e f g h i j : AV, let l := lc_text_ok a b c d e f g h; trim ((16,j)::(15,i)::l) l = [(0,a),(2,b),(3,c),(4,d),(5,e),(6,f),(7,g),(16,j)] := by intros; rfl
 refine R_nil (tr ..) ?_; clear tr
 refine then_n ?_
 refine cdd (fun h1 => ?_) (fun h1 => ?_)
 ·
  try simp only [decide_eq_true_eq, decide_eq_false_iff_not, Bool.not_eq_true', Bool.not_eq_false', beq_iff_eq, beq_eq_false_iff_ne, ne_eq] at h1
  refine at_seq rfl ?_
  refine rg rfl ?_
  have hbad : n < 0 ∨ 109572 < n := by
    by_cases hb : n < 0 ∨ 109572 < n
    · exact hb
    · exfalso; simp only [dtS, if_neg hb] at *; first | omega | contradiction | (rename_i hh; exact hh rfl)
  refine Rq ?_
  refine Rq ?_
  refine Rq ?_
  have tr : ∀ a b c d e f g h i j k : AV, let l := lc_text_ok a b c d e f g h; trim ((3,k)::(2,j)::(17,i)::l) l = [(0,a),(2,j),(3,k),(4,d),(5,e),(6,f),(7,g),(16,h)] := by intros; rfl
  refine R_nil (tr ..) ?_; clear tr
  refine then_n ?_
  refine at_ret rfl ?_
  refine then_r ?_
  first | (refine fpure ?_; refine ⟨?_, rfl⟩; rw [txS, if_pos hbad, dtS, if_pos hbad]; done) | (refine fpure ?_; refine ⟨?_, rfl⟩; rw [txS, if_neg hgood]; rfl)
 ·
  try simp only [decide_eq_true_eq, decide_eq_false_iff_not, Bool.not_eq_true', Bool.not_eq_false', beq_iff_eq, beq_eq_false_iff_ne, ne_eq] at h1
  refine at_skip rfl ?_
  refine then_n ?_
  refine at_seq rfl ?_
  refine rg rfl ?_
  have hgood : ¬ (n < 0 ∨ 109572 < n) := by
    intro hb; simp only [dtS, if_pos hb] at *; first | omega | contradiction
  have hr := date_range (hD (by omega))
  rw [show (dtS n).1 = dateS n by rw [dtS, if_neg hgood]]
  refine Rq ?_
  refine Rcall ?_
  refine ACall_eq (pad4_ok _ _ hr.1) ?_
  refine Rq ?_
  refine Rq ?_
  refine Rcall ?_
  refine ACall_eq (pad2_ok _ _ (by omega)) ?_
  refine Rq ?_
  refine Rq ?_
  refine Rq ?_
  refine Rcall ?_
  refine ACall_eq (pad2_ok _ _ (by omega)) ?_
  refine Rq ?_
  refine Rq ?_
  refine Rq ?_
  have tr : ∀ a b c d e f g h i j k m n o p q r s t u : AV, let l := lc_text_ok a b c d e f g h; trim ((3,u)::(2,t)::(27,s)::(26,r)::(25,q)::(24,p)::(23,o)::(22,n)::(21,m)::(20,k)::(19,j)::(18,i)::l) l = [(0,a),(2,t),(3,u),(4,d),(5,e),(6,f),(7,g),(16,h)] := by intros; rfl
  refine R_nil (tr ..) ?_; clear tr
  refine then_n ?_
  refine at_ret rfl ?_
  first | (refine fpure ?_; refine ⟨?_, rfl⟩; rw [txS, if_pos hbad, dtS, if_pos hbad]; done) | (refine fpure ?_; refine ⟨?_, rfl⟩; rw [txS, if_neg hgood]; rfl)

abbrev lc_rtext_ok (a b c d e f g h : AV) : Env := [(0,a),(2,b),(3,c),(4,d),(5,e),(6,f),(7,g),(16,h)]
theorem rtext_ok (lim : Nat) (H : Heap) (n : Int) : ACall sig lim 20 [AV.i n] H fun r H' => r = .tup [.v (.string (txS n).1), AV.i (txS n).2] ∧ H' = H := by
 refine ACall_pure (fa := fa20) rfl rfl rfl rfl ?_
 have tr : ∀ a0 : AV, env0 fa20.keep [a0] = [(0,a0),(2,.any),(3,.any),(4,.any),(5,.any),(6,.any),(7,.any),(16,.any)] := fun a0 => rfl
 refine W_to (tr _) ?_; clear tr
 refine at_seq rfl ?_
 refine rg rfl ?_
 refine Rq ?_
 refine Rq ?_
 have tr : ∀ a b c d e f g h i j : AV, let l := lc_rtext_ok a b c d e f g h; trim ((3,j)::(2,i)::l) l = [(0,a),(2,i),(3,j),(4,d),(5,e),(6,f),(7,g),(16,h)] := by intros; rfl
 refine R_nil (tr ..) ?_; clear tr
 refine then_n ?_
 refine at_seq rfl ?_
 refine rg rfl ?_
 refine Rq ?_
 refine Rcall ?_
 refine ACall_mono (rdate_ok _ _ n) ?_
 rintro r Hx ⟨⟨rfl, hD⟩, hHx⟩
 have hHx := hHx.symm
 subst hHx
 refine Rq ?_
 refine Rq ?_
 refine Rq ?_
 refine Rq ?_
 refine Rq ?_
 refine Rq ?_
 refine Rq ?_
 refine Rq ?_
 refine Rq ?_
 have tr : ∀ a b c d e f g h i j k m n o p q r s t : AV, let l := lc_rtext_ok a b c d e f g h; trim ((7,t)::(6,s)::(5,r)::(4,q)::(14,p)::(13,o)::(12,n)::(11,m)::(8,k)::(10,j)::(9,i)::l) l = [(0,a),(2,b),(3,c),(4,q),(5,r),(6,s),(7,t),(16,h)] := by intros; rfl
 refine R_nil (tr ..) ?_; clear tr
 refine then_n ?_
 refine at_seq rfl ?_
 refine at_seq rfl ?_
 refine rg rfl ?_
 refine Rq ?_
 refine Rq ?_
 have tr : ∀ a b c d e f g h i j : AV, let l := lc_rtext_ok a b c d e f g h; trim ((16,j)::(15,i)::l) l = [(0,a),(2,b),(3,c),(4,d),(5,e),(6,f),(7,g),(16,j)] := by intros; rfl
 refine R_nil (tr ..) ?_; clear tr
 refine then_n ?_
 refine cdd (fun h1 => ?_) (fun h1 => ?_)
 ·
  try simp only [decide_eq_true_eq, decide_eq_false_iff_not, Bool.not_eq_true', Bool.not_eq_false', beq_iff_eq, beq_eq_false_iff_ne, ne_eq] at h1
  refine at_seq rfl ?_
  refine rg rfl ?_
  have hbad : n < 0 ∨ 109572 < n := by
    by_cases hb : n < 0 ∨ 109572 < n
    · exact hb
    · exfalso; simp only [dtS, if_neg hb] at *; first | omega | contradiction | (rename_i hh; exact hh rfl)
  refine Rq ?_
  refine Rq ?_
  refine Rq ?_
  have tr : ∀ a b c d e f g h i j k : AV, let l := lc_rtext_ok a b c d e f g h; trim ((3,k)::(2,j)::(17,i)::l) l = [(0,a),(2,j),(3,k),(4,d),(5,e),(6,f),(7,g),(16,h)] := by intros; rfl
  refine R_nil (tr ..) ?_; clear tr
  refine then_n ?_
  refine at_ret rfl ?_
  refine then_r ?_
  first | (refine fpure ?_; refine ⟨?_, rfl⟩; rw [txS, if_pos hbad, dtS, if_pos hbad]; done) | (refine fpure ?_; refine ⟨?_, rfl⟩; rw [txS, if_neg hgood]; rfl)
 ·
  try simp only [decide_eq_true_eq, decide_eq_false_iff_not, Bool.not_eq_true', Bool.not_eq_false', beq_iff_eq, beq_eq_false_iff_ne, ne_eq] at h1
  refine at_skip rfl ?_
  refine then_n ?_
  refine at_seq rfl ?_
  refine rg rfl ?_
  have hgood : ¬ (n < 0 ∨ 109572 < n) := by
    intro hb; simp only [dtS, if_pos hb] at *; first | omega | contradiction
  have hr := date_range (hD (by omega))
  rw [show (dtS n).1 = dateS n by rw [dtS, if_neg hgood]]
  refine Rq ?_
  refine Rcall ?_
  refine ACall_eq (rpad4_ok _ _ hr.1) ?_
  refine Rq ?_
  refine Rq ?_
  refine Rcall ?_
  refine ACall_eq (rpad2_ok _ _ (by omega)) ?_
  refine Rq ?_
  refine Rq ?_
  refine Rq ?_
  refine Rcall ?_
  refine ACall_eq (rpad2_ok _ _ (by omega)) ?_
  refine Rq ?_
  refine Rq ?_
  refine Rq ?_
  have tr : ∀ a b c d e f g h i j k m n o p q r s t u : AV, let l := lc_rtext_ok a b c d e f g h; trim ((3,u)::(2,t)::(27,s)::(26,r)::(25,q)::(24,p)::(23,o)::(22,n)::(21,m)::(20,k)::(19,j)::(18,i)::l) l = [(0,a),(2,t),(3,u),(4,d),(5,e),(6,f),(7,g),(16,h)] := by intros; rfl
  refine R_nil (tr ..) ?_; clear tr
  refine then_n ?_
  refine at_ret rfl ?_
  first | (refine fpure ?_; refine ⟨?_, rfl⟩; rw [txS, if_pos hbad, dtS, if_pos hbad]; done) | (refine fpure ?_; refine ⟨?_, rfl⟩; rw [txS, if_neg hgood]; rfl)

end Go.Proofs.YtocmcdejkoejhaaDoor
