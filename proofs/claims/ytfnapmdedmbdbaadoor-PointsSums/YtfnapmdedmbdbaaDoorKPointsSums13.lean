/-
  Texts of PointsSums, part 14 of 15. Walks of chapter 51. The steps are written by program (walk.py).
-/
import Derived.Test.YtfnapmdedmbdbaaDoorKPointsSums7
import Derived.Test.YtfnapmdedmbdbaaDoorKPointsSums8
import Derived.Test.YtfnapmdedmbdbaaDoorKPointsSums10
import Derived.Test.YtfnapmdedmbdbaaDoorKPointsSums12
import Derived.Test.YtfnapmdedmbdbaaDoorKPointsSums3
import Derived.ProofKit
import Derived.ChangeArms
import Derived.DataReads
import Derived.OpenShut
import Derived.WideShapes
import Derived.KernelRfl
import Derived.Test.YtfnapmdedmbdbaaDoorKPointsSums5
section
set_option linter.unusedSimpArgs false
set_option linter.unusedVariables false
set_option maxHeartbeats 4000000
set_option maxRecDepth 20000
namespace Go.Proofs.YtfnapmdedmbdbaaDoor
open Go Go.Am
abbrev lc_psums_ok (a b c d e f g h i j k m n o p q r s t u v w x y : AV) : Env := [(0,a),(1,b),(4,c),(5,d),(6,e),(7,f),(8,g),(9,h),(10,i),(11,j),(13,k),(15,m),(18,n),(26,o),(33,p),(34,q),(35,r),(36,s),(37,t),(85,u),(135,v),(136,w),(137,x),(138,y)]
theorem psums_ok (lim : Nat) (H : Heap) (n : Int) (hn : -9223372036854775808 ≤ n ∧ n ≤ 9223372036854775807) (l : List Pl) : ACall sig lim 8 [AV.i n, plsAV l] H fun r _ => r = .v (.bool true) := by
 have q7 : True := trivial
 have q9 : True := trivial
 refine ACall_pure (fa := fa8) rfl rfl rfl rfl ?_
 have tr : ∀ a0 a1 : AV, env0 fa8.keep [a0, a1] = [(0,a0),(1,a1),(4,.any),(5,.any),(6,.any),(7,.any),(8,.any),(9,.any),(10,.any),(11,.any),(13,.any),(15,.any),(18,.any),(26,.any),(33,.any),(34,.any),(35,.any),(36,.any),(37,.any),(85,.any),(135,.any),(136,.any),(137,.any),(138,.any)] := fun a0 a1 => rfl
 refine W_to (tr _ _) ?_; clear tr
 refine at_seq rfl ?_
 refine rg rfl ?_
 refine Rq ?_
 have tr : ∀ a b c d e f g h i j k m n o p q r s t u v w x y z : AV, let l := lc_psums_ok a b c d e f g h i j k m n o p q r s t u v w x y; trim ((4,z)::l) l = [(0,a),(1,b),(4,z),(5,d),(6,e),(7,f),(8,g),(9,h),(10,i),(11,j),(13,k),(15,m),(18,n),(26,o),(33,p),(34,q),(35,r),(36,s),(37,t),(85,u),(135,v),(136,w),(137,x),(138,y)] := by intros; rfl
 refine R_nil (tr ..) ?_; clear tr
 refine then_n ?_
 refine at_seq rfl ?_
 refine at_seq rfl ?_
 refine rg rfl ?_
 refine Rcall ?_
 refine ACall_eval 400 (awake51 _ _) ?_
 refine Rq ?_
 have tr : ∀ a b c d e f g h i j k m n o p q r s t u v w x y z A : AV, let l := lc_psums_ok a b c d e f g h i j k m n o p q r s t u v w x y; trim ((15,A)::(14,z)::l) l = [(0,a),(1,b),(4,c),(5,d),(6,e),(7,f),(8,g),(9,h),(10,i),(11,j),(13,k),(15,A),(18,n),(26,o),(33,p),(34,q),(35,r),(36,s),(37,t),(85,u),(135,v),(136,w),(137,x),(138,y)] := by intros; rfl
 refine R_nil (tr ..) ?_; clear tr
 refine then_n ?_
 refine cdf ?_
 refine at_skip rfl ?_
 refine then_n ?_
 refine at_seq rfl ?_
 refine at_seq rfl ?_
 refine rg rfl ?_
 refine Rq ?_
 refine Rq ?_
 refine Rq ?_
 have tr : ∀ a b c d e f g h i j k m n o p q r s t u v w x y z A B : AV, let l := lc_psums_ok a b c d e f g h i j k m n o p q r s t u v w x y; trim ((18,B)::(17,A)::(16,z)::l) l = [(0,a),(1,b),(4,c),(5,d),(6,e),(7,f),(8,g),(9,h),(10,i),(11,j),(13,k),(15,m),(18,B),(26,o),(33,p),(34,q),(35,r),(36,s),(37,t),(85,u),(135,v),(136,w),(137,x),(138,y)] := by intros; rfl
 refine R_nil (tr ..) ?_; clear tr
 refine then_n ?_
 refine cdd (fun h1 => ?_) (fun h1 => ?_)
 ·
  try simp only [decide_eq_true_eq, decide_eq_false_iff_not, decide_eq_decide, Bool.not_eq_true', Bool.not_eq_false', beq_iff_eq, beq_eq_false_iff_ne, ne_eq, Bool.and_eq_true, Bool.and_eq_false_iff, decide_not] at h1
  refine at_seq rfl ?_
  refine rg rfl ?_
  refine Rq ?_
  have tr : ∀ a b c d e f g h i j k m n o p q r s t u v w x y z : AV, let l := lc_psums_ok a b c d e f g h i j k m n o p q r s t u v w x y; trim ((4,z)::l) l = [(0,a),(1,b),(4,z),(5,d),(6,e),(7,f),(8,g),(9,h),(10,i),(11,j),(13,k),(15,m),(18,n),(26,o),(33,p),(34,q),(35,r),(36,s),(37,t),(85,u),(135,v),(136,w),(137,x),(138,y)] := by intros; rfl
  refine R_nil (tr ..) ?_; clear tr
  refine then_n ?_
  refine at_ret rfl ?_
  refine then_r ?_
  refine fpure ?_
  first | rfl | exact congrArg (fun b => AV.v (.bool b)) (decide_eq_true (by omega)) | (simp; done) | (exfalso; omega)
 ·
  try simp only [decide_eq_true_eq, decide_eq_false_iff_not, decide_eq_decide, Bool.not_eq_true', Bool.not_eq_false', beq_iff_eq, beq_eq_false_iff_ne, ne_eq, Bool.and_eq_true, Bool.and_eq_false_iff, decide_not] at h1
  refine at_skip rfl ?_
  refine then_n ?_
  refine at_seq rfl ?_
  refine rg rfl ?_
  refine Rq ?_
  refine Rq ?_
  refine Rcall ?_
  refine ACall_eq (table_ok _ _ n hn l) ?_
  refine Rq ?_
  refine Rq ?_
  refine Rq ?_
  refine Rq ?_
  refine Rq ?_
  have tr : ∀ a b c d e f g h i j k m n o p q r s t u v w x y z A B C D E F G : AV, let l := lc_psums_ok a b c d e f g h i j k m n o p q r s t u v w x y; trim ((6,G)::(5,F)::(24,E)::(23,D)::(19,C)::(22,B)::(21,A)::(20,z)::l) l = [(0,a),(1,b),(4,c),(5,F),(6,G),(7,f),(8,g),(9,h),(10,i),(11,j),(13,k),(15,m),(18,n),(26,o),(33,p),(34,q),(35,r),(36,s),(37,t),(85,u),(135,v),(136,w),(137,x),(138,y)] := by intros; rfl
  refine R_nil (tr ..) ?_; clear tr
  refine then_n ?_
  refine at_seq rfl ?_
  refine at_seq rfl ?_
  refine rg rfl ?_
  refine Rq ?_
  refine Rq ?_
  have tr : ∀ a b c d e f g h i j k m n o p q r s t u v w x y z A : AV, let l := lc_psums_ok a b c d e f g h i j k m n o p q r s t u v w x y; trim ((26,A)::(25,z)::l) l = [(0,a),(1,b),(4,c),(5,d),(6,e),(7,f),(8,g),(9,h),(10,i),(11,j),(13,k),(15,m),(18,n),(26,A),(33,p),(34,q),(35,r),(36,s),(37,t),(85,u),(135,v),(136,w),(137,x),(138,y)] := by intros; rfl
  refine R_nil (tr ..) ?_; clear tr
  refine then_n ?_
  refine cdd (fun h2 => ?_) (fun h2 => ?_)
  ·
   try simp only [decide_eq_true_eq, decide_eq_false_iff_not, decide_eq_decide, Bool.not_eq_true', Bool.not_eq_false', beq_iff_eq, beq_eq_false_iff_ne, ne_eq, Bool.and_eq_true, Bool.and_eq_false_iff, decide_not] at h2
   refine at_seq rfl ?_
   refine rg rfl ?_
   rw [tabS_n (by assumption), tbAV_nil]
   refine Rq ?_
   refine Rq ?_
   refine Rq ?_
   refine Rq ?_
   have tr : ∀ a b c d e f g h i j k m n o p q r s t u v w x y z A B C : AV, let l := lc_psums_ok a b c d e f g h i j k m n o p q r s t u v w x y; trim ((4,C)::(29,B)::(28,A)::(27,z)::l) l = [(0,a),(1,b),(4,C),(5,d),(6,e),(7,f),(8,g),(9,h),(10,i),(11,j),(13,k),(15,m),(18,n),(26,o),(33,p),(34,q),(35,r),(36,s),(37,t),(85,u),(135,v),(136,w),(137,x),(138,y)] := by intros; rfl
   refine R_nil (tr ..) ?_; clear tr
   refine then_n ?_
   refine at_ret rfl ?_
   refine then_r ?_
   refine fpure ?_
   first | rfl | exact congrArg (fun b => AV.v (.bool b)) (decide_eq_true (by omega)) | (simp; done) | (exfalso; omega)
  ·
   try simp only [decide_eq_true_eq, decide_eq_false_iff_not, decide_eq_decide, Bool.not_eq_true', Bool.not_eq_false', beq_iff_eq, beq_eq_false_iff_ne, ne_eq, Bool.and_eq_true, Bool.and_eq_false_iff, decide_not] at h2
   refine at_skip rfl ?_
   refine then_n ?_
   refine at_seq rfl ?_
   refine at_seq rfl ?_
   refine rg rfl ?_
   have hc : chS n l = 0 := by first | assumption | omega
   obtain ⟨hn2, hl4, hpl⟩ := chS_z hc
   rw [tabS_y hc, tbAV_ne (tab_ne hc)]
   obtain ⟨hzl, hrow, hpla, hord, hsum⟩ := tab_all hc
   obtain ⟨zs, hzs⟩ : ∃ zs, zs = tbS (stds n.toNat l) := ⟨_, rfl⟩
   rw [← hzs] at hzl hrow hpla hord hsum ⊢
   refine Rq ?_
   refine Rq ?_
   refine Rq ?_
   refine Rq ?_
   have tr : ∀ a b c d e f g h i j k m n o p q r s t u v w x y z A B C : AV, let l := lc_psums_ok a b c d e f g h i j k m n o p q r s t u v w x y; trim ((33,C)::(32,B)::(31,A)::(30,z)::l) l = [(0,a),(1,b),(4,c),(5,d),(6,e),(7,f),(8,g),(9,h),(10,i),(11,j),(13,k),(15,m),(18,n),(26,o),(33,C),(34,q),(35,r),(36,s),(37,t),(85,u),(135,v),(136,w),(137,x),(138,y)] := by intros; rfl
   refine R_nil (tr ..) ?_; clear tr
   refine then_n ?_
   refine cdd (fun h3 => ?_) (fun h3 => ?_)
   ·
    try simp only [decide_eq_true_eq, decide_eq_false_iff_not, decide_eq_decide, Bool.not_eq_true', Bool.not_eq_false', beq_iff_eq, beq_eq_false_iff_ne, ne_eq, Bool.and_eq_true, Bool.and_eq_false_iff, decide_not] at h3
    refine at_seq rfl ?_
    refine rg rfl ?_
    first | omega | contradiction | exact absurd rfl (by assumption) | exact absurd trivial (by assumption) | (simp at *; done) | (simp at *; omega)
   ·
    try simp only [decide_eq_true_eq, decide_eq_false_iff_not, decide_eq_decide, Bool.not_eq_true', Bool.not_eq_false', beq_iff_eq, beq_eq_false_iff_ne, ne_eq, Bool.and_eq_true, Bool.and_eq_false_iff, decide_not] at h3
    refine at_skip rfl ?_
    refine then_n ?_
    refine at_seq rfl ?_
    refine rg rfl ?_
    refine A_alloc rfl ?_
    intro H1 n1
    have q7 := n1.new
    have tr : ∀ a b c d e f g h i j k m n o p q r s t u v w x y z : AV, let l := lc_psums_ok a b c d e f g h i j k m n o p q r s t u v w x y; trim ((7,z)::l) l = [(0,a),(1,b),(4,c),(5,d),(6,e),(7,z),(8,g),(9,h),(10,i),(11,j),(13,k),(15,m),(18,n),(26,o),(33,p),(34,q),(35,r),(36,s),(37,t),(85,u),(135,v),(136,w),(137,x),(138,y)] := by intros; rfl
    refine R_nil (tr ..) ?_; clear tr
    refine then_n ?_
    refine at_seq rfl ?_
    refine at_seq rfl ?_
    refine rg rfl ?_
    refine Rq ?_
    refine Rq ?_
    refine Rq ?_
    have tr : ∀ a b c d e f g h i j k m n o p q r s t u v w x y z A B : AV, let l := lc_psums_ok a b c d e f g h i j k m n o p q r s t u v w x y; trim ((36,B)::(35,A)::(34,z)::l) l = [(0,a),(1,b),(4,c),(5,d),(6,e),(7,f),(8,g),(9,h),(10,i),(11,j),(13,k),(15,m),(18,n),(26,o),(33,p),(34,z),(35,A),(36,B),(37,t),(85,u),(135,v),(136,w),(137,x),(138,y)] := by intros; rfl
    refine R_nil (tr ..) ?_; clear tr
    refine then_n ?_
    refine at_block rfl ?_
    refine loop_n rfl (fun mm kv H' => ∃ i : Nat, ∃ x4 x8 x9 x37 x85 : AV, (kv = [(4, x4), (8, x8), (9, x9), (36, AV.i (i : Int)), (37, x37), (85, x85)]) ∧ (mm = zs.length - i) ∧ (hget H' H.length = some (stL (smZ zs i))) ∧ (i ≤ zs.length)) ⟨0, _, _, _, _, _, rfl, rfl, by exact q7, by omega⟩ (by rfl) ?_
    rintro mm kv HB ⟨i, x4, x8, x9, x37, x85, rfl, rfl, q7, hi⟩
    have tr : ∀ a b c d e f g h i j k m n o p q r s t u v w x y z A B C D E : AV, upd [(0,a),(1,b),(4,c),(5,d),(6,e),(7,f),(8,g),(9,h),(10,i),(11,j),(13,k),(15,m),(18,n),(26,o),(33,p),(34,q),(35,r),(36,s),(37,t),(85,u),(135,v),(136,w),(137,x),(138,y)] [(4,z),(8,A),(9,B),(36,C),(37,D),(85,E)] = [(0,a),(1,b),(4,z),(5,d),(6,e),(7,f),(8,A),(9,B),(10,i),(11,j),(13,k),(15,m),(18,n),(26,o),(33,p),(34,q),(35,r),(36,C),(37,D),(85,E),(135,v),(136,w),(137,x),(138,y)] := by intros; rfl
    refine W_to (tr ..) ?_; clear tr
    refine at_seq rfl ?_
    refine rg rfl ?_
    refine Rq ?_
    have tr : ∀ a b c d e f g h i j k m n o p q r s t u v w x y z : AV, let l := lc_psums_ok a b c d e f g h i j k m n o p q r s t u v w x y; trim ((37,z)::l) l = [(0,a),(1,b),(4,c),(5,d),(6,e),(7,f),(8,g),(9,h),(10,i),(11,j),(13,k),(15,m),(18,n),(26,o),(33,p),(34,q),(35,r),(36,s),(37,z),(85,u),(135,v),(136,w),(137,x),(138,y)] := by intros; rfl
    refine R_nil (tr ..) ?_; clear tr
    refine then_n ?_
    refine at_seq rfl ?_
    refine cdd (fun h4 => ?_) (fun h4 => ?_)
    ·
     try simp only [decide_eq_true_eq, decide_eq_false_iff_not, decide_eq_decide, Bool.not_eq_true', Bool.not_eq_false', beq_iff_eq, beq_eq_false_iff_ne, ne_eq, Bool.and_eq_true, Bool.and_eq_false_iff, decide_not] at h4
     refine at_skip rfl ?_
     refine then_n ?_
     refine at_seq rfl ?_
     refine at_block rfl ?_
     refine at_seq rfl ?_
     refine rg rfl ?_
     have hri := hrow i (by omega)
     unfold RowI at hri
     have hsr := smZ_rng hrow i (by omega) (by omega)
     refine Rq ?_
     refine Rq ?_
     refine R_q rfl (by simp (disch := first | omega | (simp only [List.length_map, List.length_append, List.length_set, List.length_cons, List.length_nil]; omega)) only [go_sem, ↓reduceIte, Nat.reduceEqDiff, reduceCtorEq, q7, q9] <;> rfl) ?_
     have lq7 := hget_lt q7
     refine A_alloc rfl ?_
     intro H5 n5
     have en5 := n5.len
     have q7 := (n5.old _ (hget_lt q7)).trans q7
     have q9 := n5.new
     refine Rq ?_
     refine A_store ty23 (by simp (disch := first | omega | (simp only [List.length_map, List.length_append, List.length_set, List.length_cons, List.length_nil]; omega)) only [go_sem, ↓reduceIte, Nat.reduceEqDiff, reduceCtorEq] <;> rfl) (by simp (disch := first | omega | (simp only [List.length_map, List.length_append, List.length_set, List.length_cons, List.length_nil]; omega)) only [go_sem, ↓reduceIte, Nat.reduceEqDiff, reduceCtorEq] <;> rfl) q9 ⟨by omega, rfl, Nat.le_refl 10⟩ (k' := stL (gz zs i)) rfl ?_
     intro H6 w6
     have q7 := (w6.old _ (by omega)).trans q7
     have q9 := w6.new
     obtain ⟨S, hS⟩ : ∃ S, S = smZ zs i := ⟨_, rfl⟩
     rw [← hS] at q7 hsr
     have tr : ∀ a b c d e f g h i j k m n o p q r s t u v w x y z A B C D : AV, let l := lc_psums_ok a b c d e f g h i j k m n o p q r s t u v w x y; trim ((8,D)::(9,C)::(40,B)::(39,A)::(38,z)::l) l = [(0,a),(1,b),(4,c),(5,d),(6,e),(7,f),(8,D),(9,C),(10,i),(11,j),(13,k),(15,m),(18,n),(26,o),(33,p),(34,q),(35,r),(36,s),(37,t),(85,u),(135,v),(136,w),(137,x),(138,y)] := by intros; rfl
     refine R_nil (tr ..) ?_; clear tr
     refine then_n ?_
     refine at_seq rfl ?_
     refine at_seq rfl ?_
     refine rd rfl rfl ?_
     refine Qq ?_
     refine Qq ?_
     refine Q_q rfl (by simp (disch := first | omega | (simp only [List.length_map, List.length_append, List.length_set, List.length_cons, List.length_nil]; omega)) only [go_sem, ↓reduceIte, Nat.reduceEqDiff, reduceCtorEq, q7, q9] <;> rfl) ?_
     refine Qcall ?_
     refine ACall_eq (place_ok _ _ _ zs (.inr rfl) (gz zs i).tm (by omega)) ?_
     rw [hpla i (by omega)]
     refine ⟨rfl, ?_⟩
     refine Qq ?_
     refine Qq ?_
     refine Qq ?_
     refine Qq ?_
     refine Qp_split (fun h5 => ?_) (fun h5 => ?_)
     ·
      try simp only [decide_eq_true_eq, decide_eq_false_iff_not, decide_eq_decide, Bool.not_eq_true', Bool.not_eq_false', beq_iff_eq, beq_eq_false_iff_ne, ne_eq, Bool.and_eq_true, Bool.and_eq_false_iff, decide_not] at h5
      first | omega | contradiction | exact absurd rfl (by assumption) | exact absurd trivial (by assumption) | (simp at *; done) | (simp at *; omega)
     ·
      try simp only [decide_eq_true_eq, decide_eq_false_iff_not, decide_eq_decide, Bool.not_eq_true', Bool.not_eq_false', beq_iff_eq, beq_eq_false_iff_ne, ne_eq, Bool.and_eq_true, Bool.and_eq_false_iff, decide_not] at h5
      refine Qy ?_
      refine Qq ?_
      refine Qy ?_
      refine Q_q rfl (by simp (disch := first | omega | (simp only [List.length_map, List.length_append, List.length_set, List.length_cons, List.length_nil]; omega)) only [go_sem, ↓reduceIte, Nat.reduceEqDiff, reduceCtorEq, q7, q9] <;> rfl) ?_
      refine Qy ?_
      refine Qq ?_
      refine Qy ?_
      refine Q_q rfl (by simp (disch := first | omega | (simp only [List.length_map, List.length_append, List.length_set, List.length_cons, List.length_nil]; omega)) only [go_sem, ↓reduceIte, Nat.reduceEqDiff, reduceCtorEq, q7, q9] <;> rfl) ?_
      refine Qy ?_
      refine Qq ?_
      refine Qy ?_
      refine Q_q rfl (by simp (disch := first | omega | (simp only [List.length_map, List.length_append, List.length_set, List.length_cons, List.length_nil]; omega)) only [go_sem, ↓reduceIte, Nat.reduceEqDiff, reduceCtorEq, q7, q9] <;> rfl) ?_
      refine Qy ?_
      refine Qq ?_
      refine Qy ?_
      refine Qq ?_
      refine Qy ?_
      refine Q_q rfl (by simp (disch := first | omega | (simp only [List.length_map, List.length_append, List.length_set, List.length_cons, List.length_nil]; omega)) only [go_sem, ↓reduceIte, Nat.reduceEqDiff, reduceCtorEq, q7, q9] <;> rfl) ?_
      refine Qy ?_
      refine Qq ?_
      refine Qy ?_
      refine Qq ?_
      refine Qq ?_
      refine Qq ?_
      refine Qp_split (fun h6 => ?_) (fun h6 => ?_)
      ·
       try simp only [decide_eq_true_eq, decide_eq_false_iff_not, decide_eq_decide, Bool.not_eq_true', Bool.not_eq_false', beq_iff_eq, beq_eq_false_iff_ne, ne_eq, Bool.and_eq_true, Bool.and_eq_false_iff, decide_not] at h6
       first | omega | contradiction | exact absurd rfl (by assumption) | exact absurd trivial (by assumption) | (simp at *; done) | (simp at *; omega)
      ·
       try simp only [decide_eq_true_eq, decide_eq_false_iff_not, decide_eq_decide, Bool.not_eq_true', Bool.not_eq_false', beq_iff_eq, beq_eq_false_iff_ne, ne_eq, Bool.and_eq_true, Bool.and_eq_false_iff, decide_not] at h6
       refine Qy ?_
       refine Qq ?_
       refine Qy ?_
       refine Q_q rfl (by simp (disch := first | omega | (simp only [List.length_map, List.length_append, List.length_set, List.length_cons, List.length_nil]; omega)) only [go_sem, ↓reduceIte, Nat.reduceEqDiff, reduceCtorEq, q7, q9] <;> rfl) ?_
       refine Qy ?_
       refine Qq ?_
       refine Qy ?_
       refine Q_q rfl (by simp (disch := first | omega | (simp only [List.length_map, List.length_append, List.length_set, List.length_cons, List.length_nil]; omega)) only [go_sem, ↓reduceIte, Nat.reduceEqDiff, reduceCtorEq, q7, q9] <;> rfl) ?_
       refine Qy ?_
       refine Qq ?_
       refine Qy ?_
       refine Qq ?_
       refine Qy ?_
       refine Q_q rfl (by simp (disch := first | omega | (simp only [List.length_map, List.length_append, List.length_set, List.length_cons, List.length_nil]; omega)) only [go_sem, ↓reduceIte, Nat.reduceEqDiff, reduceCtorEq, q7, q9] <;> rfl) ?_
       refine Qy ?_
       refine Qq ?_
       refine Qy ?_
       refine Qq ?_
       refine Qq ?_
       refine Qq ?_
       refine Qp_split (fun h7 => ?_) (fun h7 => ?_)
       ·
        try simp only [decide_eq_true_eq, decide_eq_false_iff_not, decide_eq_decide, Bool.not_eq_true', Bool.not_eq_false', beq_iff_eq, beq_eq_false_iff_ne, ne_eq, Bool.and_eq_true, Bool.and_eq_false_iff, decide_not] at h7
        first | omega | contradiction | exact absurd rfl (by assumption) | exact absurd trivial (by assumption) | (simp at *; done) | (simp at *; omega)
       ·
        try simp only [decide_eq_true_eq, decide_eq_false_iff_not, decide_eq_decide, Bool.not_eq_true', Bool.not_eq_false', beq_iff_eq, beq_eq_false_iff_ne, ne_eq, Bool.and_eq_true, Bool.and_eq_false_iff, decide_not] at h7
        refine Qy ?_
        refine Qq ?_
        refine Qy ?_
        refine Qq ?_
        refine Qy ?_
        refine Qq ?_
        refine Qp_split (fun h8 => ?_) (fun h8 => ?_)
        ·
         try simp only [decide_eq_true_eq, decide_eq_false_iff_not, decide_eq_decide, Bool.not_eq_true', Bool.not_eq_false', beq_iff_eq, beq_eq_false_iff_ne, ne_eq, Bool.and_eq_true, Bool.and_eq_false_iff, decide_not] at h8
         have hcm := hord (i - 1) (by omega)
         rw [show i - 1 + 1 = i by omega] at hcm
         refine Qy ?_
         refine Qq ?_
         refine Qy ?_
         refine Qq ?_
         refine Qy ?_
         refine Qq ?_
         refine Qy ?_
         refine Qq ?_
         refine Qy ?_
         refine Q_q rfl (by simp (disch := first | omega | (simp only [List.length_map, List.length_append, List.length_set, List.length_cons, List.length_nil]; omega)) only [go_sem, ↓reduceIte, Nat.reduceEqDiff, reduceCtorEq, q7, q9] <;> rfl) ?_
         refine Qy ?_
         refine Q_q rfl (by simp (disch := first | omega | (simp only [List.length_map, List.length_append, List.length_set, List.length_cons, List.length_nil]; omega)) only [go_sem, ↓reduceIte, Nat.reduceEqDiff, reduceCtorEq, q7, q9] <;> rfl) ?_
         refine Qy ?_
         refine Qcall ?_
         refine ACall_eq (comp_ok _ _ _ _) ?_
         refine ⟨rfl, ?_⟩
         refine Qy ?_
         refine Qq ?_
         refine Qy ?_
         refine Qq ?_
         refine Qq ?_
         refine Q_nil ?_
         have tr : ∀ a b c d e f g h i j k m n o p q r s t u v w x y z A B C D E F G H I J K L M N O P Q R S T U V W X Y Z a1 b1 c1 d1 e1 f1 g1 h1 i1 j1 k1 m1 n1 o1 p1 q1 r1 s1 : AV, let l := lc_psums_ok a b c d e f g h i j k m n o p q r s t u v w x y; trim ((85,s1)::(84,r1)::(83,q1)::(82,p1)::(81,o1)::(80,n1)::(79,m1)::(78,k1)::(77,j1)::(76,i1)::(75,h1)::(74,g1)::(73,f1)::(72,e1)::(71,d1)::(70,c1)::(69,b1)::(68,a1)::(67,Z)::(66,Y)::(65,X)::(64,W)::(63,V)::(62,U)::(61,T)::(60,S)::(59,R)::(58,Q)::(57,P)::(56,O)::(55,N)::(54,M)::(53,L)::(52,K)::(51,J)::(50,I)::(49,H)::(48,G)::(47,F)::(46,E)::(45,D)::(44,C)::(43,B)::(42,A)::(41,z)::l) l = [(0,a),(1,b),(4,c),(5,d),(6,e),(7,f),(8,g),(9,h),(10,i),(11,j),(13,k),(15,m),(18,n),(26,o),(33,p),(34,q),(35,r),(36,s),(37,t),(85,s1),(135,v),(136,w),(137,x),(138,y)] := by intros; rfl
         refine R_nil (tr ..) ?_; clear tr
         refine then_n ?_
         refine cdd (fun h9 => ?_) (fun h9 => ?_)
         ·
          try simp only [decide_eq_true_eq, decide_eq_false_iff_not, decide_eq_decide, Bool.not_eq_true', Bool.not_eq_false', beq_iff_eq, beq_eq_false_iff_ne, ne_eq, Bool.and_eq_true, Bool.and_eq_false_iff, decide_not] at h9
          refine at_seq rfl ?_
          refine rg rfl ?_
          first | omega | contradiction | exact absurd rfl (by assumption) | exact absurd trivial (by assumption) | (simp at *; done) | (simp at *; omega)
         ·
          try simp only [decide_eq_true_eq, decide_eq_false_iff_not, decide_eq_decide, Bool.not_eq_true', Bool.not_eq_false', beq_iff_eq, beq_eq_false_iff_ne, ne_eq, Bool.and_eq_true, Bool.and_eq_false_iff, decide_not] at h9
          refine at_skip rfl ?_
          refine then_n ?_
          refine at_seq rfl ?_
          refine rg rfl ?_
          refine Rq ?_
          refine R_q rfl (by simp (disch := first | omega | (simp only [List.length_map, List.length_append, List.length_set, List.length_cons, List.length_nil]; omega)) only [go_sem, ↓reduceIte, Nat.reduceEqDiff, reduceCtorEq, q7, q9] <;> rfl) ?_
          refine Rq ?_
          refine R_q rfl (by simp (disch := first | omega | (simp only [List.length_map, List.length_append, List.length_set, List.length_cons, List.length_nil]; omega)) only [go_sem, ↓reduceIte, Nat.reduceEqDiff, reduceCtorEq, q7, q9] <;> rfl) ?_
          refine Rq ?_
          refine Rq ?_
          refine A_store ty3 (by simp (disch := first | omega | (simp only [List.length_map, List.length_append, List.length_set, List.length_cons, List.length_nil]; omega)) only [go_sem, ↓reduceIte, Nat.reduceEqDiff, reduceCtorEq, q7, q9] <;> rfl) (by simp (disch := first | omega | (simp only [List.length_map, List.length_append, List.length_set, List.length_cons, List.length_nil]; omega)) only [go_sem, ↓reduceIte, Nat.reduceEqDiff, reduceCtorEq, q7, q9] <;> rfl) q7 ⟨by omega, rfl, by simp⟩ (k' := _) (by rw [setL_one] <;> rfl) ?_
          intro H2 w2
          have q9 := (w2.old _ (by omega)).trans q9
          have q7 := w2.new
          simp only [List.set_cons_succ, List.set_cons_zero] at q7
          have tr : ∀ a b c d e f g h i j k m n o p q r s t u v w x y z A B C D E : AV, let l := lc_psums_ok a b c d e f g h i j k m n o p q r s t u v w x y; trim ((91,E)::(90,D)::(89,C)::(88,B)::(87,A)::(86,z)::l) l = [(0,a),(1,b),(4,c),(5,d),(6,e),(7,f),(8,g),(9,h),(10,i),(11,j),(13,k),(15,m),(18,n),(26,o),(33,p),(34,q),(35,r),(36,s),(37,t),(85,u),(135,v),(136,w),(137,x),(138,y)] := by intros; rfl
          refine R_nil (tr ..) ?_; clear tr
          refine then_n ?_
          refine at_seq rfl ?_
          refine rg rfl ?_
          refine Rq ?_
          refine R_q rfl (by simp (disch := first | omega | (simp only [List.length_map, List.length_append, List.length_set, List.length_cons, List.length_nil]; omega)) only [go_sem, ↓reduceIte, Nat.reduceEqDiff, reduceCtorEq, q7, q9] <;> rfl) ?_
          refine Rq ?_
          refine R_q rfl (by simp (disch := first | omega | (simp only [List.length_map, List.length_append, List.length_set, List.length_cons, List.length_nil]; omega)) only [go_sem, ↓reduceIte, Nat.reduceEqDiff, reduceCtorEq, q7, q9] <;> rfl) ?_
          refine Rq ?_
          refine Rq ?_
          refine A_store ty3 (by simp (disch := first | omega | (simp only [List.length_map, List.length_append, List.length_set, List.length_cons, List.length_nil]; omega)) only [go_sem, ↓reduceIte, Nat.reduceEqDiff, reduceCtorEq, q7, q9] <;> rfl) (by simp (disch := first | omega | (simp only [List.length_map, List.length_append, List.length_set, List.length_cons, List.length_nil]; omega)) only [go_sem, ↓reduceIte, Nat.reduceEqDiff, reduceCtorEq, q7, q9] <;> rfl) q7 ⟨by omega, rfl, by simp⟩ (k' := _) (by rw [setL_one] <;> rfl) ?_
          intro H2 w2
          have q9 := (w2.old _ (by omega)).trans q9
          have q7 := w2.new
          simp only [List.set_cons_succ, List.set_cons_zero] at q7
          have tr : ∀ a b c d e f g h i j k m n o p q r s t u v w x y z A B C D E : AV, let l := lc_psums_ok a b c d e f g h i j k m n o p q r s t u v w x y; trim ((97,E)::(96,D)::(95,C)::(94,B)::(93,A)::(92,z)::l) l = [(0,a),(1,b),(4,c),(5,d),(6,e),(7,f),(8,g),(9,h),(10,i),(11,j),(13,k),(15,m),(18,n),(26,o),(33,p),(34,q),(35,r),(36,s),(37,t),(85,u),(135,v),(136,w),(137,x),(138,y)] := by intros; rfl
          refine R_nil (tr ..) ?_; clear tr
          refine then_n ?_
          refine at_seq rfl ?_
          refine rg rfl ?_
          refine Rq ?_
          refine R_q rfl (by simp (disch := first | omega | (simp only [List.length_map, List.length_append, List.length_set, List.length_cons, List.length_nil]; omega)) only [go_sem, ↓reduceIte, Nat.reduceEqDiff, reduceCtorEq, q7, q9] <;> rfl) ?_
          refine Rq ?_
          refine R_q rfl (by simp (disch := first | omega | (simp only [List.length_map, List.length_append, List.length_set, List.length_cons, List.length_nil]; omega)) only [go_sem, ↓reduceIte, Nat.reduceEqDiff, reduceCtorEq, q7, q9] <;> rfl) ?_
          refine Rq ?_
          refine Rq ?_
          refine A_store ty3 (by simp (disch := first | omega | (simp only [List.length_map, List.length_append, List.length_set, List.length_cons, List.length_nil]; omega)) only [go_sem, ↓reduceIte, Nat.reduceEqDiff, reduceCtorEq, q7, q9] <;> rfl) (by simp (disch := first | omega | (simp only [List.length_map, List.length_append, List.length_set, List.length_cons, List.length_nil]; omega)) only [go_sem, ↓reduceIte, Nat.reduceEqDiff, reduceCtorEq, q7, q9] <;> rfl) q7 ⟨by omega, rfl, by simp⟩ (k' := _) (by rw [setL_one] <;> rfl) ?_
          intro H2 w2
          have q9 := (w2.old _ (by omega)).trans q9
          have q7 := w2.new
          simp only [List.set_cons_succ, List.set_cons_zero] at q7
          have tr : ∀ a b c d e f g h i j k m n o p q r s t u v w x y z A B C D E : AV, let l := lc_psums_ok a b c d e f g h i j k m n o p q r s t u v w x y; trim ((103,E)::(102,D)::(101,C)::(100,B)::(99,A)::(98,z)::l) l = [(0,a),(1,b),(4,c),(5,d),(6,e),(7,f),(8,g),(9,h),(10,i),(11,j),(13,k),(15,m),(18,n),(26,o),(33,p),(34,q),(35,r),(36,s),(37,t),(85,u),(135,v),(136,w),(137,x),(138,y)] := by intros; rfl
          refine R_nil (tr ..) ?_; clear tr
          refine then_n ?_
          refine at_seq rfl ?_
          refine rg rfl ?_
          refine Rq ?_
          refine R_q rfl (by simp (disch := first | omega | (simp only [List.length_map, List.length_append, List.length_set, List.length_cons, List.length_nil]; omega)) only [go_sem, ↓reduceIte, Nat.reduceEqDiff, reduceCtorEq, q7, q9] <;> rfl) ?_
          refine Rq ?_
          refine R_q rfl (by simp (disch := first | omega | (simp only [List.length_map, List.length_append, List.length_set, List.length_cons, List.length_nil]; omega)) only [go_sem, ↓reduceIte, Nat.reduceEqDiff, reduceCtorEq, q7, q9] <;> rfl) ?_
          refine Rq ?_
          refine Rq ?_
          refine A_store ty3 (by simp (disch := first | omega | (simp only [List.length_map, List.length_append, List.length_set, List.length_cons, List.length_nil]; omega)) only [go_sem, ↓reduceIte, Nat.reduceEqDiff, reduceCtorEq, q7, q9] <;> rfl) (by simp (disch := first | omega | (simp only [List.length_map, List.length_append, List.length_set, List.length_cons, List.length_nil]; omega)) only [go_sem, ↓reduceIte, Nat.reduceEqDiff, reduceCtorEq, q7, q9] <;> rfl) q7 ⟨by omega, rfl, by simp⟩ (k' := _) (by rw [setL_one] <;> rfl) ?_
          intro H2 w2
          have q9 := (w2.old _ (by omega)).trans q9
          have q7 := w2.new
          simp only [List.set_cons_succ, List.set_cons_zero] at q7
          have tr : ∀ a b c d e f g h i j k m n o p q r s t u v w x y z A B C D E : AV, let l := lc_psums_ok a b c d e f g h i j k m n o p q r s t u v w x y; trim ((109,E)::(108,D)::(107,C)::(106,B)::(105,A)::(104,z)::l) l = [(0,a),(1,b),(4,c),(5,d),(6,e),(7,f),(8,g),(9,h),(10,i),(11,j),(13,k),(15,m),(18,n),(26,o),(33,p),(34,q),(35,r),(36,s),(37,t),(85,u),(135,v),(136,w),(137,x),(138,y)] := by intros; rfl
          refine R_nil (tr ..) ?_; clear tr
          refine then_n ?_
          refine at_seq rfl ?_
          refine rg rfl ?_
          refine Rq ?_
          refine R_q rfl (by simp (disch := first | omega | (simp only [List.length_map, List.length_append, List.length_set, List.length_cons, List.length_nil]; omega)) only [go_sem, ↓reduceIte, Nat.reduceEqDiff, reduceCtorEq, q7, q9] <;> rfl) ?_
          refine Rq ?_
          refine R_q rfl (by simp (disch := first | omega | (simp only [List.length_map, List.length_append, List.length_set, List.length_cons, List.length_nil]; omega)) only [go_sem, ↓reduceIte, Nat.reduceEqDiff, reduceCtorEq, q7, q9] <;> rfl) ?_
          refine Rq ?_
          refine Rq ?_
          refine A_store ty3 (by simp (disch := first | omega | (simp only [List.length_map, List.length_append, List.length_set, List.length_cons, List.length_nil]; omega)) only [go_sem, ↓reduceIte, Nat.reduceEqDiff, reduceCtorEq, q7, q9] <;> rfl) (by simp (disch := first | omega | (simp only [List.length_map, List.length_append, List.length_set, List.length_cons, List.length_nil]; omega)) only [go_sem, ↓reduceIte, Nat.reduceEqDiff, reduceCtorEq, q7, q9] <;> rfl) q7 ⟨by omega, rfl, by simp⟩ (k' := _) (by rw [setL_one] <;> rfl) ?_
          intro H2 w2
          have q9 := (w2.old _ (by omega)).trans q9
          have q7 := w2.new
          simp only [List.set_cons_succ, List.set_cons_zero] at q7
          have tr : ∀ a b c d e f g h i j k m n o p q r s t u v w x y z A B C D E : AV, let l := lc_psums_ok a b c d e f g h i j k m n o p q r s t u v w x y; trim ((115,E)::(114,D)::(113,C)::(112,B)::(111,A)::(110,z)::l) l = [(0,a),(1,b),(4,c),(5,d),(6,e),(7,f),(8,g),(9,h),(10,i),(11,j),(13,k),(15,m),(18,n),(26,o),(33,p),(34,q),(35,r),(36,s),(37,t),(85,u),(135,v),(136,w),(137,x),(138,y)] := by intros; rfl
          refine R_nil (tr ..) ?_; clear tr
          refine then_n ?_
          refine at_seq rfl ?_
          refine rg rfl ?_
          refine Rq ?_
          refine R_q rfl (by simp (disch := first | omega | (simp only [List.length_map, List.length_append, List.length_set, List.length_cons, List.length_nil]; omega)) only [go_sem, ↓reduceIte, Nat.reduceEqDiff, reduceCtorEq, q7, q9] <;> rfl) ?_
          refine Rq ?_
          refine R_q rfl (by simp (disch := first | omega | (simp only [List.length_map, List.length_append, List.length_set, List.length_cons, List.length_nil]; omega)) only [go_sem, ↓reduceIte, Nat.reduceEqDiff, reduceCtorEq, q7, q9] <;> rfl) ?_
          refine Rq ?_
          refine Rq ?_
          refine A_store ty3 (by simp (disch := first | omega | (simp only [List.length_map, List.length_append, List.length_set, List.length_cons, List.length_nil]; omega)) only [go_sem, ↓reduceIte, Nat.reduceEqDiff, reduceCtorEq, q7, q9] <;> rfl) (by simp (disch := first | omega | (simp only [List.length_map, List.length_append, List.length_set, List.length_cons, List.length_nil]; omega)) only [go_sem, ↓reduceIte, Nat.reduceEqDiff, reduceCtorEq, q7, q9] <;> rfl) q7 ⟨by omega, rfl, by simp⟩ (k' := _) (by rw [setL_one] <;> rfl) ?_
          intro H2 w2
          have q9 := (w2.old _ (by omega)).trans q9
          have q7 := w2.new
          simp only [List.set_cons_succ, List.set_cons_zero] at q7
          have tr : ∀ a b c d e f g h i j k m n o p q r s t u v w x y z A B C D E : AV, let l := lc_psums_ok a b c d e f g h i j k m n o p q r s t u v w x y; trim ((121,E)::(120,D)::(119,C)::(118,B)::(117,A)::(116,z)::l) l = [(0,a),(1,b),(4,c),(5,d),(6,e),(7,f),(8,g),(9,h),(10,i),(11,j),(13,k),(15,m),(18,n),(26,o),(33,p),(34,q),(35,r),(36,s),(37,t),(85,u),(135,v),(136,w),(137,x),(138,y)] := by intros; rfl
          refine R_nil (tr ..) ?_; clear tr
          refine then_n ?_
          refine at_seq rfl ?_
          refine rg rfl ?_
          refine Rq ?_
          refine R_q rfl (by simp (disch := first | omega | (simp only [List.length_map, List.length_append, List.length_set, List.length_cons, List.length_nil]; omega)) only [go_sem, ↓reduceIte, Nat.reduceEqDiff, reduceCtorEq, q7, q9] <;> rfl) ?_
          refine Rq ?_
          refine R_q rfl (by simp (disch := first | omega | (simp only [List.length_map, List.length_append, List.length_set, List.length_cons, List.length_nil]; omega)) only [go_sem, ↓reduceIte, Nat.reduceEqDiff, reduceCtorEq, q7, q9] <;> rfl) ?_
          refine Rq ?_
          refine Rq ?_
          refine A_store ty3 (by simp (disch := first | omega | (simp only [List.length_map, List.length_append, List.length_set, List.length_cons, List.length_nil]; omega)) only [go_sem, ↓reduceIte, Nat.reduceEqDiff, reduceCtorEq, q7, q9] <;> rfl) (by simp (disch := first | omega | (simp only [List.length_map, List.length_append, List.length_set, List.length_cons, List.length_nil]; omega)) only [go_sem, ↓reduceIte, Nat.reduceEqDiff, reduceCtorEq, q7, q9] <;> rfl) q7 ⟨by omega, rfl, by simp⟩ (k' := _) (by rw [setL_one] <;> rfl) ?_
          intro H2 w2
          have q9 := (w2.old _ (by omega)).trans q9
          have q7 := w2.new
          simp only [List.set_cons_succ, List.set_cons_zero] at q7
          have tr : ∀ a b c d e f g h i j k m n o p q r s t u v w x y z A B C D E : AV, let l := lc_psums_ok a b c d e f g h i j k m n o p q r s t u v w x y; trim ((127,E)::(126,D)::(125,C)::(124,B)::(123,A)::(122,z)::l) l = [(0,a),(1,b),(4,c),(5,d),(6,e),(7,f),(8,g),(9,h),(10,i),(11,j),(13,k),(15,m),(18,n),(26,o),(33,p),(34,q),(35,r),(36,s),(37,t),(85,u),(135,v),(136,w),(137,x),(138,y)] := by intros; rfl
          refine R_nil (tr ..) ?_; clear tr
          refine then_n ?_
          refine rg rfl ?_
          refine Rq ?_
          refine R_q rfl (by simp (disch := first | omega | (simp only [List.length_map, List.length_append, List.length_set, List.length_cons, List.length_nil]; omega)) only [go_sem, ↓reduceIte, Nat.reduceEqDiff, reduceCtorEq, q7, q9] <;> rfl) ?_
          refine Rq ?_
          refine R_q rfl (by simp (disch := first | omega | (simp only [List.length_map, List.length_append, List.length_set, List.length_cons, List.length_nil]; omega)) only [go_sem, ↓reduceIte, Nat.reduceEqDiff, reduceCtorEq, q7, q9] <;> rfl) ?_
          refine Rq ?_
          refine Rq ?_
          refine A_store ty3 (by simp (disch := first | omega | (simp only [List.length_map, List.length_append, List.length_set, List.length_cons, List.length_nil]; omega)) only [go_sem, ↓reduceIte, Nat.reduceEqDiff, reduceCtorEq, q7, q9] <;> rfl) (by simp (disch := first | omega | (simp only [List.length_map, List.length_append, List.length_set, List.length_cons, List.length_nil]; omega)) only [go_sem, ↓reduceIte, Nat.reduceEqDiff, reduceCtorEq, q7, q9] <;> rfl) q7 ⟨by omega, rfl, by simp⟩ (k' := _) (by rw [setL_one] <;> rfl) ?_
          intro H2 w2
          have q9 := (w2.old _ (by omega)).trans q9
          have q7 := w2.new
          simp only [List.set_cons_succ, List.set_cons_zero] at q7
          have tr : ∀ a b c d e f g h i j k m n o p q r s t u v w x y z A B C D E : AV, let l := lc_psums_ok a b c d e f g h i j k m n o p q r s t u v w x y; trim ((133,E)::(132,D)::(131,C)::(130,B)::(129,A)::(128,z)::l) l = [(0,a),(1,b),(4,c),(5,d),(6,e),(7,f),(8,g),(9,h),(10,i),(11,j),(13,k),(15,m),(18,n),(26,o),(33,p),(34,q),(35,r),(36,s),(37,t),(85,u),(135,v),(136,w),(137,x),(138,y)] := by intros; rfl
          refine R_nil (tr ..) ?_; clear tr
          refine blk_n ?_
          refine then_n ?_
          refine rg rfl ?_
          refine Rq ?_
          refine Rq ?_
          have tr : ∀ a b c d e f g h i j k m n o p q r s t u v w x y z A : AV, let l := lc_psums_ok a b c d e f g h i j k m n o p q r s t u v w x y; trim ((36,A)::(134,z)::l) l = [(0,a),(1,b),(4,c),(5,d),(6,e),(7,f),(8,g),(9,h),(10,i),(11,j),(13,k),(15,m),(18,n),(26,o),(33,p),(34,q),(35,r),(36,A),(37,t),(85,u),(135,v),(136,w),(137,x),(138,y)] := by intros; rfl
          refine R_nil (tr ..) ?_; clear tr
          refine then_n ?_
          exact ⟨_, _, ⟨i + 1, _, _, _, _, _, rfl, rfl, by (rw [smZ_step, ← hS]; exact q7), by omega⟩, by rfl, by omega⟩
        ·
         try simp only [decide_eq_true_eq, decide_eq_false_iff_not, decide_eq_decide, Bool.not_eq_true', Bool.not_eq_false', beq_iff_eq, beq_eq_false_iff_ne, ne_eq, Bool.and_eq_true, Bool.and_eq_false_iff, decide_not] at h8
         refine Qn ?_
         refine Qn ?_
         refine Qn ?_
         refine Qn ?_
         refine Qn ?_
         refine Qn ?_
         refine Qn ?_
         refine Qn ?_
         refine Qy ?_
         refine Qq ?_
         refine Qq ?_
         refine Q_nil ?_
         have tr : ∀ a b c d e f g h i j k m n o p q r s t u v w x y z A B C D E F G H I J K L M N O P Q R S T U V W X Y Z a1 b1 c1 d1 e1 f1 g1 h1 i1 j1 k1 m1 n1 o1 p1 q1 r1 s1 : AV, let l := lc_psums_ok a b c d e f g h i j k m n o p q r s t u v w x y; trim ((85,s1)::(84,r1)::(83,q1)::(82,p1)::(81,o1)::(80,n1)::(79,m1)::(78,k1)::(77,j1)::(76,i1)::(75,h1)::(74,g1)::(73,f1)::(72,e1)::(71,d1)::(70,c1)::(69,b1)::(68,a1)::(67,Z)::(66,Y)::(65,X)::(64,W)::(63,V)::(62,U)::(61,T)::(60,S)::(59,R)::(58,Q)::(57,P)::(56,O)::(55,N)::(54,M)::(53,L)::(52,K)::(51,J)::(50,I)::(49,H)::(48,G)::(47,F)::(46,E)::(45,D)::(44,C)::(43,B)::(42,A)::(41,z)::l) l = [(0,a),(1,b),(4,c),(5,d),(6,e),(7,f),(8,g),(9,h),(10,i),(11,j),(13,k),(15,m),(18,n),(26,o),(33,p),(34,q),(35,r),(36,s),(37,t),(85,s1),(135,v),(136,w),(137,x),(138,y)] := by intros; rfl
         refine R_nil (tr ..) ?_; clear tr
         refine then_n ?_
         refine cdf ?_
         refine at_skip rfl ?_
         refine then_n ?_
         refine at_seq rfl ?_
         refine rg rfl ?_
         refine Rq ?_
         refine R_q rfl (by simp (disch := first | omega | (simp only [List.length_map, List.length_append, List.length_set, List.length_cons, List.length_nil]; omega)) only [go_sem, ↓reduceIte, Nat.reduceEqDiff, reduceCtorEq, q7, q9] <;> rfl) ?_
         refine Rq ?_
         refine R_q rfl (by simp (disch := first | omega | (simp only [List.length_map, List.length_append, List.length_set, List.length_cons, List.length_nil]; omega)) only [go_sem, ↓reduceIte, Nat.reduceEqDiff, reduceCtorEq, q7, q9] <;> rfl) ?_
         refine Rq ?_
         refine Rq ?_
         refine A_store ty3 (by simp (disch := first | omega | (simp only [List.length_map, List.length_append, List.length_set, List.length_cons, List.length_nil]; omega)) only [go_sem, ↓reduceIte, Nat.reduceEqDiff, reduceCtorEq, q7, q9] <;> rfl) (by simp (disch := first | omega | (simp only [List.length_map, List.length_append, List.length_set, List.length_cons, List.length_nil]; omega)) only [go_sem, ↓reduceIte, Nat.reduceEqDiff, reduceCtorEq, q7, q9] <;> rfl) q7 ⟨by omega, rfl, by simp⟩ (k' := _) (by rw [setL_one] <;> rfl) ?_
         intro H2 w2
         have q9 := (w2.old _ (by omega)).trans q9
         have q7 := w2.new
         simp only [List.set_cons_succ, List.set_cons_zero] at q7
         have tr : ∀ a b c d e f g h i j k m n o p q r s t u v w x y z A B C D E : AV, let l := lc_psums_ok a b c d e f g h i j k m n o p q r s t u v w x y; trim ((91,E)::(90,D)::(89,C)::(88,B)::(87,A)::(86,z)::l) l = [(0,a),(1,b),(4,c),(5,d),(6,e),(7,f),(8,g),(9,h),(10,i),(11,j),(13,k),(15,m),(18,n),(26,o),(33,p),(34,q),(35,r),(36,s),(37,t),(85,u),(135,v),(136,w),(137,x),(138,y)] := by intros; rfl
         refine R_nil (tr ..) ?_; clear tr
         refine then_n ?_
         refine at_seq rfl ?_
         refine rg rfl ?_
         refine Rq ?_
         refine R_q rfl (by simp (disch := first | omega | (simp only [List.length_map, List.length_append, List.length_set, List.length_cons, List.length_nil]; omega)) only [go_sem, ↓reduceIte, Nat.reduceEqDiff, reduceCtorEq, q7, q9] <;> rfl) ?_
         refine Rq ?_
         refine R_q rfl (by simp (disch := first | omega | (simp only [List.length_map, List.length_append, List.length_set, List.length_cons, List.length_nil]; omega)) only [go_sem, ↓reduceIte, Nat.reduceEqDiff, reduceCtorEq, q7, q9] <;> rfl) ?_
         refine Rq ?_
         refine Rq ?_
         refine A_store ty3 (by simp (disch := first | omega | (simp only [List.length_map, List.length_append, List.length_set, List.length_cons, List.length_nil]; omega)) only [go_sem, ↓reduceIte, Nat.reduceEqDiff, reduceCtorEq, q7, q9] <;> rfl) (by simp (disch := first | omega | (simp only [List.length_map, List.length_append, List.length_set, List.length_cons, List.length_nil]; omega)) only [go_sem, ↓reduceIte, Nat.reduceEqDiff, reduceCtorEq, q7, q9] <;> rfl) q7 ⟨by omega, rfl, by simp⟩ (k' := _) (by rw [setL_one] <;> rfl) ?_
         intro H2 w2
         have q9 := (w2.old _ (by omega)).trans q9
         have q7 := w2.new
         simp only [List.set_cons_succ, List.set_cons_zero] at q7
         have tr : ∀ a b c d e f g h i j k m n o p q r s t u v w x y z A B C D E : AV, let l := lc_psums_ok a b c d e f g h i j k m n o p q r s t u v w x y; trim ((97,E)::(96,D)::(95,C)::(94,B)::(93,A)::(92,z)::l) l = [(0,a),(1,b),(4,c),(5,d),(6,e),(7,f),(8,g),(9,h),(10,i),(11,j),(13,k),(15,m),(18,n),(26,o),(33,p),(34,q),(35,r),(36,s),(37,t),(85,u),(135,v),(136,w),(137,x),(138,y)] := by intros; rfl
         refine R_nil (tr ..) ?_; clear tr
         refine then_n ?_
         refine at_seq rfl ?_
         refine rg rfl ?_
         refine Rq ?_
         refine R_q rfl (by simp (disch := first | omega | (simp only [List.length_map, List.length_append, List.length_set, List.length_cons, List.length_nil]; omega)) only [go_sem, ↓reduceIte, Nat.reduceEqDiff, reduceCtorEq, q7, q9] <;> rfl) ?_
         refine Rq ?_
         refine R_q rfl (by simp (disch := first | omega | (simp only [List.length_map, List.length_append, List.length_set, List.length_cons, List.length_nil]; omega)) only [go_sem, ↓reduceIte, Nat.reduceEqDiff, reduceCtorEq, q7, q9] <;> rfl) ?_
         refine Rq ?_
         refine Rq ?_
         refine A_store ty3 (by simp (disch := first | omega | (simp only [List.length_map, List.length_append, List.length_set, List.length_cons, List.length_nil]; omega)) only [go_sem, ↓reduceIte, Nat.reduceEqDiff, reduceCtorEq, q7, q9] <;> rfl) (by simp (disch := first | omega | (simp only [List.length_map, List.length_append, List.length_set, List.length_cons, List.length_nil]; omega)) only [go_sem, ↓reduceIte, Nat.reduceEqDiff, reduceCtorEq, q7, q9] <;> rfl) q7 ⟨by omega, rfl, by simp⟩ (k' := _) (by rw [setL_one] <;> rfl) ?_
         intro H2 w2
         have q9 := (w2.old _ (by omega)).trans q9
         have q7 := w2.new
         simp only [List.set_cons_succ, List.set_cons_zero] at q7
         have tr : ∀ a b c d e f g h i j k m n o p q r s t u v w x y z A B C D E : AV, let l := lc_psums_ok a b c d e f g h i j k m n o p q r s t u v w x y; trim ((103,E)::(102,D)::(101,C)::(100,B)::(99,A)::(98,z)::l) l = [(0,a),(1,b),(4,c),(5,d),(6,e),(7,f),(8,g),(9,h),(10,i),(11,j),(13,k),(15,m),(18,n),(26,o),(33,p),(34,q),(35,r),(36,s),(37,t),(85,u),(135,v),(136,w),(137,x),(138,y)] := by intros; rfl
         refine R_nil (tr ..) ?_; clear tr
         refine then_n ?_
         refine at_seq rfl ?_
         refine rg rfl ?_
         refine Rq ?_
         refine R_q rfl (by simp (disch := first | omega | (simp only [List.length_map, List.length_append, List.length_set, List.length_cons, List.length_nil]; omega)) only [go_sem, ↓reduceIte, Nat.reduceEqDiff, reduceCtorEq, q7, q9] <;> rfl) ?_
         refine Rq ?_
         refine R_q rfl (by simp (disch := first | omega | (simp only [List.length_map, List.length_append, List.length_set, List.length_cons, List.length_nil]; omega)) only [go_sem, ↓reduceIte, Nat.reduceEqDiff, reduceCtorEq, q7, q9] <;> rfl) ?_
         refine Rq ?_
         refine Rq ?_
         refine A_store ty3 (by simp (disch := first | omega | (simp only [List.length_map, List.length_append, List.length_set, List.length_cons, List.length_nil]; omega)) only [go_sem, ↓reduceIte, Nat.reduceEqDiff, reduceCtorEq, q7, q9] <;> rfl) (by simp (disch := first | omega | (simp only [List.length_map, List.length_append, List.length_set, List.length_cons, List.length_nil]; omega)) only [go_sem, ↓reduceIte, Nat.reduceEqDiff, reduceCtorEq, q7, q9] <;> rfl) q7 ⟨by omega, rfl, by simp⟩ (k' := _) (by rw [setL_one] <;> rfl) ?_
         intro H2 w2
         have q9 := (w2.old _ (by omega)).trans q9
         have q7 := w2.new
         simp only [List.set_cons_succ, List.set_cons_zero] at q7
         have tr : ∀ a b c d e f g h i j k m n o p q r s t u v w x y z A B C D E : AV, let l := lc_psums_ok a b c d e f g h i j k m n o p q r s t u v w x y; trim ((109,E)::(108,D)::(107,C)::(106,B)::(105,A)::(104,z)::l) l = [(0,a),(1,b),(4,c),(5,d),(6,e),(7,f),(8,g),(9,h),(10,i),(11,j),(13,k),(15,m),(18,n),(26,o),(33,p),(34,q),(35,r),(36,s),(37,t),(85,u),(135,v),(136,w),(137,x),(138,y)] := by intros; rfl
         refine R_nil (tr ..) ?_; clear tr
         refine then_n ?_
         refine at_seq rfl ?_
         refine rg rfl ?_
         refine Rq ?_
         refine R_q rfl (by simp (disch := first | omega | (simp only [List.length_map, List.length_append, List.length_set, List.length_cons, List.length_nil]; omega)) only [go_sem, ↓reduceIte, Nat.reduceEqDiff, reduceCtorEq, q7, q9] <;> rfl) ?_
         refine Rq ?_
         refine R_q rfl (by simp (disch := first | omega | (simp only [List.length_map, List.length_append, List.length_set, List.length_cons, List.length_nil]; omega)) only [go_sem, ↓reduceIte, Nat.reduceEqDiff, reduceCtorEq, q7, q9] <;> rfl) ?_
         refine Rq ?_
         refine Rq ?_
         refine A_store ty3 (by simp (disch := first | omega | (simp only [List.length_map, List.length_append, List.length_set, List.length_cons, List.length_nil]; omega)) only [go_sem, ↓reduceIte, Nat.reduceEqDiff, reduceCtorEq, q7, q9] <;> rfl) (by simp (disch := first | omega | (simp only [List.length_map, List.length_append, List.length_set, List.length_cons, List.length_nil]; omega)) only [go_sem, ↓reduceIte, Nat.reduceEqDiff, reduceCtorEq, q7, q9] <;> rfl) q7 ⟨by omega, rfl, by simp⟩ (k' := _) (by rw [setL_one] <;> rfl) ?_
         intro H2 w2
         have q9 := (w2.old _ (by omega)).trans q9
         have q7 := w2.new
         simp only [List.set_cons_succ, List.set_cons_zero] at q7
         have tr : ∀ a b c d e f g h i j k m n o p q r s t u v w x y z A B C D E : AV, let l := lc_psums_ok a b c d e f g h i j k m n o p q r s t u v w x y; trim ((115,E)::(114,D)::(113,C)::(112,B)::(111,A)::(110,z)::l) l = [(0,a),(1,b),(4,c),(5,d),(6,e),(7,f),(8,g),(9,h),(10,i),(11,j),(13,k),(15,m),(18,n),(26,o),(33,p),(34,q),(35,r),(36,s),(37,t),(85,u),(135,v),(136,w),(137,x),(138,y)] := by intros; rfl
         refine R_nil (tr ..) ?_; clear tr
         refine then_n ?_
         refine at_seq rfl ?_
         refine rg rfl ?_
         refine Rq ?_
         refine R_q rfl (by simp (disch := first | omega | (simp only [List.length_map, List.length_append, List.length_set, List.length_cons, List.length_nil]; omega)) only [go_sem, ↓reduceIte, Nat.reduceEqDiff, reduceCtorEq, q7, q9] <;> rfl) ?_
         refine Rq ?_
         refine R_q rfl (by simp (disch := first | omega | (simp only [List.length_map, List.length_append, List.length_set, List.length_cons, List.length_nil]; omega)) only [go_sem, ↓reduceIte, Nat.reduceEqDiff, reduceCtorEq, q7, q9] <;> rfl) ?_
         refine Rq ?_
         refine Rq ?_
         refine A_store ty3 (by simp (disch := first | omega | (simp only [List.length_map, List.length_append, List.length_set, List.length_cons, List.length_nil]; omega)) only [go_sem, ↓reduceIte, Nat.reduceEqDiff, reduceCtorEq, q7, q9] <;> rfl) (by simp (disch := first | omega | (simp only [List.length_map, List.length_append, List.length_set, List.length_cons, List.length_nil]; omega)) only [go_sem, ↓reduceIte, Nat.reduceEqDiff, reduceCtorEq, q7, q9] <;> rfl) q7 ⟨by omega, rfl, by simp⟩ (k' := _) (by rw [setL_one] <;> rfl) ?_
         intro H2 w2
         have q9 := (w2.old _ (by omega)).trans q9
         have q7 := w2.new
         simp only [List.set_cons_succ, List.set_cons_zero] at q7
         have tr : ∀ a b c d e f g h i j k m n o p q r s t u v w x y z A B C D E : AV, let l := lc_psums_ok a b c d e f g h i j k m n o p q r s t u v w x y; trim ((121,E)::(120,D)::(119,C)::(118,B)::(117,A)::(116,z)::l) l = [(0,a),(1,b),(4,c),(5,d),(6,e),(7,f),(8,g),(9,h),(10,i),(11,j),(13,k),(15,m),(18,n),(26,o),(33,p),(34,q),(35,r),(36,s),(37,t),(85,u),(135,v),(136,w),(137,x),(138,y)] := by intros; rfl
         refine R_nil (tr ..) ?_; clear tr
         refine then_n ?_
         refine at_seq rfl ?_
         refine rg rfl ?_
         refine Rq ?_
         refine R_q rfl (by simp (disch := first | omega | (simp only [List.length_map, List.length_append, List.length_set, List.length_cons, List.length_nil]; omega)) only [go_sem, ↓reduceIte, Nat.reduceEqDiff, reduceCtorEq, q7, q9] <;> rfl) ?_
         refine Rq ?_
         refine R_q rfl (by simp (disch := first | omega | (simp only [List.length_map, List.length_append, List.length_set, List.length_cons, List.length_nil]; omega)) only [go_sem, ↓reduceIte, Nat.reduceEqDiff, reduceCtorEq, q7, q9] <;> rfl) ?_
         refine Rq ?_
         refine Rq ?_
         refine A_store ty3 (by simp (disch := first | omega | (simp only [List.length_map, List.length_append, List.length_set, List.length_cons, List.length_nil]; omega)) only [go_sem, ↓reduceIte, Nat.reduceEqDiff, reduceCtorEq, q7, q9] <;> rfl) (by simp (disch := first | omega | (simp only [List.length_map, List.length_append, List.length_set, List.length_cons, List.length_nil]; omega)) only [go_sem, ↓reduceIte, Nat.reduceEqDiff, reduceCtorEq, q7, q9] <;> rfl) q7 ⟨by omega, rfl, by simp⟩ (k' := _) (by rw [setL_one] <;> rfl) ?_
         intro H2 w2
         have q9 := (w2.old _ (by omega)).trans q9
         have q7 := w2.new
         simp only [List.set_cons_succ, List.set_cons_zero] at q7
         have tr : ∀ a b c d e f g h i j k m n o p q r s t u v w x y z A B C D E : AV, let l := lc_psums_ok a b c d e f g h i j k m n o p q r s t u v w x y; trim ((127,E)::(126,D)::(125,C)::(124,B)::(123,A)::(122,z)::l) l = [(0,a),(1,b),(4,c),(5,d),(6,e),(7,f),(8,g),(9,h),(10,i),(11,j),(13,k),(15,m),(18,n),(26,o),(33,p),(34,q),(35,r),(36,s),(37,t),(85,u),(135,v),(136,w),(137,x),(138,y)] := by intros; rfl
         refine R_nil (tr ..) ?_; clear tr
         refine then_n ?_
         refine rg rfl ?_
         refine Rq ?_
         refine R_q rfl (by simp (disch := first | omega | (simp only [List.length_map, List.length_append, List.length_set, List.length_cons, List.length_nil]; omega)) only [go_sem, ↓reduceIte, Nat.reduceEqDiff, reduceCtorEq, q7, q9] <;> rfl) ?_
         refine Rq ?_
         refine R_q rfl (by simp (disch := first | omega | (simp only [List.length_map, List.length_append, List.length_set, List.length_cons, List.length_nil]; omega)) only [go_sem, ↓reduceIte, Nat.reduceEqDiff, reduceCtorEq, q7, q9] <;> rfl) ?_
         refine Rq ?_
         refine Rq ?_
         refine A_store ty3 (by simp (disch := first | omega | (simp only [List.length_map, List.length_append, List.length_set, List.length_cons, List.length_nil]; omega)) only [go_sem, ↓reduceIte, Nat.reduceEqDiff, reduceCtorEq, q7, q9] <;> rfl) (by simp (disch := first | omega | (simp only [List.length_map, List.length_append, List.length_set, List.length_cons, List.length_nil]; omega)) only [go_sem, ↓reduceIte, Nat.reduceEqDiff, reduceCtorEq, q7, q9] <;> rfl) q7 ⟨by omega, rfl, by simp⟩ (k' := _) (by rw [setL_one] <;> rfl) ?_
         intro H2 w2
         have q9 := (w2.old _ (by omega)).trans q9
         have q7 := w2.new
         simp only [List.set_cons_succ, List.set_cons_zero] at q7
         have tr : ∀ a b c d e f g h i j k m n o p q r s t u v w x y z A B C D E : AV, let l := lc_psums_ok a b c d e f g h i j k m n o p q r s t u v w x y; trim ((133,E)::(132,D)::(131,C)::(130,B)::(129,A)::(128,z)::l) l = [(0,a),(1,b),(4,c),(5,d),(6,e),(7,f),(8,g),(9,h),(10,i),(11,j),(13,k),(15,m),(18,n),(26,o),(33,p),(34,q),(35,r),(36,s),(37,t),(85,u),(135,v),(136,w),(137,x),(138,y)] := by intros; rfl
         refine R_nil (tr ..) ?_; clear tr
         refine blk_n ?_
         refine then_n ?_
         refine rg rfl ?_
         refine Rq ?_
         refine Rq ?_
         have tr : ∀ a b c d e f g h i j k m n o p q r s t u v w x y z A : AV, let l := lc_psums_ok a b c d e f g h i j k m n o p q r s t u v w x y; trim ((36,A)::(134,z)::l) l = [(0,a),(1,b),(4,c),(5,d),(6,e),(7,f),(8,g),(9,h),(10,i),(11,j),(13,k),(15,m),(18,n),(26,o),(33,p),(34,q),(35,r),(36,A),(37,t),(85,u),(135,v),(136,w),(137,x),(138,y)] := by intros; rfl
         refine R_nil (tr ..) ?_; clear tr
         refine then_n ?_
         exact ⟨_, _, ⟨i + 1, _, _, _, _, _, rfl, rfl, by (rw [smZ_step, ← hS]; exact q7), by omega⟩, by rfl, by omega⟩
    ·
     try simp only [decide_eq_true_eq, decide_eq_false_iff_not, decide_eq_decide, Bool.not_eq_true', Bool.not_eq_false', beq_iff_eq, beq_eq_false_iff_ne, ne_eq, Bool.and_eq_true, Bool.and_eq_false_iff, decide_not] at h4
     refine at_exit rfl ?_
     refine then_x ?_
     refine then_x ?_
     refine blk_x ?_
     refine then_n ?_
     refine at_seq rfl ?_
     refine rg rfl ?_
     obtain rfl : i = zs.length := by omega
     refine Rq ?_
     refine Rq ?_
     have tr : ∀ a b c d e f g h i j k m n o p q r s t u v w x y z A : AV, let l := lc_psums_ok a b c d e f g h i j k m n o p q r s t u v w x y; trim ((11,A)::(10,z)::l) l = [(0,a),(1,b),(4,c),(5,d),(6,e),(7,f),(8,g),(9,h),(10,z),(11,A),(13,k),(15,m),(18,n),(26,o),(33,p),(34,q),(35,r),(36,s),(37,t),(85,u),(135,v),(136,w),(137,x),(138,y)] := by intros; rfl
     refine R_nil (tr ..) ?_; clear tr
     refine then_n ?_
     refine at_seq rfl ?_
     refine at_seq rfl ?_
     refine rg rfl ?_
     refine Rq ?_
     refine Rq ?_
     refine Rq ?_
     have tr : ∀ a b c d e f g h i j k m n o p q r s t u v w x y z A B : AV, let l := lc_psums_ok a b c d e f g h i j k m n o p q r s t u v w x y; trim ((137,B)::(136,A)::(135,z)::l) l = [(0,a),(1,b),(4,c),(5,d),(6,e),(7,f),(8,g),(9,h),(10,i),(11,j),(13,k),(15,m),(18,n),(26,o),(33,p),(34,q),(35,r),(36,s),(37,t),(85,u),(135,z),(136,A),(137,B),(138,y)] := by intros; rfl
     refine R_nil (tr ..) ?_; clear tr
     refine then_n ?_
     refine at_block rfl ?_
     refine loop_n rfl (fun mm kv H' => ∃ u : Nat, ∃ x13 x138 : AV, (kv = [(10, AV.i (rS l u)), (11, AV.i (bS l u)), (13, x13), (137, AV.i (u : Int)), (138, x138)]) ∧ (mm = l.length - u) ∧ (hget H' H.length = some (stL (smZ zs zs.length))) ∧ (u ≤ l.length)) ⟨0, _, _, rfl, rfl, by exact q7, by omega⟩ (by rfl) ?_
     rintro mm kv HC ⟨u, x13, x138, rfl, rfl, q7, hu⟩
     have tr : ∀ a b c d e f g h i j k m n o p q r s t u v w x y z A B C D : AV, upd [(0,a),(1,b),(4,c),(5,d),(6,e),(7,f),(8,g),(9,h),(10,i),(11,j),(13,k),(15,m),(18,n),(26,o),(33,p),(34,q),(35,r),(36,s),(37,t),(85,u),(135,v),(136,w),(137,x),(138,y)] [(10,z),(11,A),(13,B),(137,C),(138,D)] = [(0,a),(1,b),(4,c),(5,d),(6,e),(7,f),(8,g),(9,h),(10,z),(11,A),(13,B),(15,m),(18,n),(26,o),(33,p),(34,q),(35,r),(36,s),(37,t),(85,u),(135,v),(136,w),(137,C),(138,D)] := by intros; rfl
     refine W_to (tr ..) ?_; clear tr
     refine at_seq rfl ?_
     refine rg rfl ?_
     refine Rq ?_
     have tr : ∀ a b c d e f g h i j k m n o p q r s t u v w x y z : AV, let l := lc_psums_ok a b c d e f g h i j k m n o p q r s t u v w x y; trim ((138,z)::l) l = [(0,a),(1,b),(4,c),(5,d),(6,e),(7,f),(8,g),(9,h),(10,i),(11,j),(13,k),(15,m),(18,n),(26,o),(33,p),(34,q),(35,r),(36,s),(37,t),(85,u),(135,v),(136,w),(137,x),(138,z)] := by intros; rfl
     refine R_nil (tr ..) ?_; clear tr
     refine then_n ?_
     refine at_seq rfl ?_
     refine cdd (fun h10 => ?_) (fun h10 => ?_)
     ·
      try simp only [decide_eq_true_eq, decide_eq_false_iff_not, decide_eq_decide, Bool.not_eq_true', Bool.not_eq_false', beq_iff_eq, beq_eq_false_iff_ne, ne_eq, Bool.and_eq_true, Bool.and_eq_false_iff, decide_not] at h10
      refine at_skip rfl ?_
      refine then_n ?_
      refine at_seq rfl ?_
      refine at_block rfl ?_
      refine at_seq rfl ?_
      refine rg rfl ?_
      have hpp := plE_z (hpl u (by omega))
      have hrs := rS_rng hpl u (by omega)
      refine Rq ?_
      refine R_q rfl (by simp (disch := first | omega | (simp only [List.length_map, List.length_append, List.length_set, List.length_cons, List.length_nil]; omega)) only [go_sem, ↓reduceIte, Nat.reduceEqDiff, reduceCtorEq, q7, q9] <;> rfl) ?_
      have lq7 := hget_lt q7
      refine A_alloc rfl ?_
      intro H5 n5
      have en5 := n5.len
      have q7 := (n5.old _ (hget_lt q7)).trans q7
      have q9 := n5.new
      refine A_store ty34 (by simp (disch := first | omega | (simp only [List.length_map, List.length_append, List.length_set, List.length_cons, List.length_nil]; omega)) only [go_sem, ↓reduceIte, Nat.reduceEqDiff, reduceCtorEq] <;> rfl) (by simp (disch := first | omega | (simp only [List.length_map, List.length_append, List.length_set, List.length_cons, List.length_nil]; omega)) only [go_sem, ↓reduceIte, Nat.reduceEqDiff, reduceCtorEq] <;> rfl) q9 ⟨by omega, rfl, Nat.le_refl 8⟩ (k' := plC (gp l u)) rfl ?_
      intro H6 w6
      have q7 := (w6.old _ (by omega)).trans q7
      have q9 := w6.new
      have tr : ∀ a b c d e f g h i j k m n o p q r s t u v w x y z A B : AV, let l := lc_psums_ok a b c d e f g h i j k m n o p q r s t u v w x y; trim ((13,B)::(140,A)::(139,z)::l) l = [(0,a),(1,b),(4,c),(5,d),(6,e),(7,f),(8,g),(9,h),(10,i),(11,j),(13,B),(15,m),(18,n),(26,o),(33,p),(34,q),(35,r),(36,s),(37,t),(85,u),(135,v),(136,w),(137,x),(138,y)] := by intros; rfl
      refine R_nil (tr ..) ?_; clear tr
      refine then_n ?_
      refine at_seq rfl ?_
      refine rg rfl ?_
      refine Rq ?_
      refine Rq ?_
      refine R_q rfl (by simp (disch := first | omega | (simp only [List.length_map, List.length_append, List.length_set, List.length_cons, List.length_nil]; omega)) only [go_sem, ↓reduceIte, Nat.reduceEqDiff, reduceCtorEq, q7, q9] <;> rfl) ?_
      refine Rq ?_
      refine R_q rfl (by simp (disch := first | omega | (simp only [List.length_map, List.length_append, List.length_set, List.length_cons, List.length_nil]; omega)) only [go_sem, ↓reduceIte, Nat.reduceEqDiff, reduceCtorEq, q7, q9] <;> rfl) ?_
      refine Rq ?_
      refine Rq ?_
      refine Rq ?_
      have tr : ∀ a b c d e f g h i j k m n o p q r s t u v w x y z A B C D E F G : AV, let l := lc_psums_ok a b c d e f g h i j k m n o p q r s t u v w x y; trim ((10,G)::(147,F)::(146,E)::(145,D)::(144,C)::(143,B)::(142,A)::(141,z)::l) l = [(0,a),(1,b),(4,c),(5,d),(6,e),(7,f),(8,g),(9,h),(10,G),(11,j),(13,k),(15,m),(18,n),(26,o),(33,p),(34,q),(35,r),(36,s),(37,t),(85,u),(135,v),(136,w),(137,x),(138,y)] := by intros; rfl
      refine R_nil (tr ..) ?_; clear tr
      refine then_n ?_
      refine rg rfl ?_
      refine Rq ?_
      refine Rq ?_
      refine R_q rfl (by simp (disch := first | omega | (simp only [List.length_map, List.length_append, List.length_set, List.length_cons, List.length_nil]; omega)) only [go_sem, ↓reduceIte, Nat.reduceEqDiff, reduceCtorEq, q7, q9] <;> rfl) ?_
      refine Rq ?_
      refine R_q rfl (by simp (disch := first | omega | (simp only [List.length_map, List.length_append, List.length_set, List.length_cons, List.length_nil]; omega)) only [go_sem, ↓reduceIte, Nat.reduceEqDiff, reduceCtorEq, q7, q9] <;> rfl) ?_
      refine Rq ?_
      refine Rq ?_
      refine Rq ?_
      have tr : ∀ a b c d e f g h i j k m n o p q r s t u v w x y z A B C D E F G : AV, let l := lc_psums_ok a b c d e f g h i j k m n o p q r s t u v w x y; trim ((11,G)::(154,F)::(153,E)::(152,D)::(151,C)::(150,B)::(149,A)::(148,z)::l) l = [(0,a),(1,b),(4,c),(5,d),(6,e),(7,f),(8,g),(9,h),(10,i),(11,G),(13,k),(15,m),(18,n),(26,o),(33,p),(34,q),(35,r),(36,s),(37,t),(85,u),(135,v),(136,w),(137,x),(138,y)] := by intros; rfl
      refine R_nil (tr ..) ?_; clear tr
      refine blk_n ?_
      refine then_n ?_
      refine rg rfl ?_
      refine Rq ?_
      refine Rq ?_
      have tr : ∀ a b c d e f g h i j k m n o p q r s t u v w x y z A : AV, let l := lc_psums_ok a b c d e f g h i j k m n o p q r s t u v w x y; trim ((137,A)::(155,z)::l) l = [(0,a),(1,b),(4,c),(5,d),(6,e),(7,f),(8,g),(9,h),(10,i),(11,j),(13,k),(15,m),(18,n),(26,o),(33,p),(34,q),(35,r),(36,s),(37,t),(85,u),(135,v),(136,w),(137,A),(138,y)] := by intros; rfl
      refine R_nil (tr ..) ?_; clear tr
      refine then_n ?_
      exact ⟨_, _, ⟨u + 1, _, _, rfl, rfl, by exact q7, by omega⟩, by rfl, by omega⟩
     ·
      try simp only [decide_eq_true_eq, decide_eq_false_iff_not, decide_eq_decide, Bool.not_eq_true', Bool.not_eq_false', beq_iff_eq, beq_eq_false_iff_ne, ne_eq, Bool.and_eq_true, Bool.and_eq_false_iff, decide_not] at h10
      refine at_exit rfl ?_
      refine then_x ?_
      refine then_x ?_
      refine blk_x ?_
      refine then_n ?_
      refine at_seq rfl ?_
      refine rg rfl ?_
      obtain rfl : u = l.length := by omega
      obtain ⟨S, hS⟩ : ∃ S, S = smZ zs zs.length := ⟨_, rfl⟩
      rw [← hS] at q7 hsum
      refine Rq ?_
      refine R_q rfl (by simp (disch := first | omega | (simp only [List.length_map, List.length_append, List.length_set, List.length_cons, List.length_nil]; omega)) only [go_sem, ↓reduceIte, Nat.reduceEqDiff, reduceCtorEq, q7, q9] <;> rfl) ?_
      refine Rq ?_
      refine Rq ?_
      refine Rq ?_
      refine Rq ?_
      refine Rq ?_
      refine Rp_split (fun h11 => ?_) (fun h11 => ?_)
      ·
       try simp only [decide_eq_true_eq, decide_eq_false_iff_not, decide_eq_decide, Bool.not_eq_true', Bool.not_eq_false', beq_iff_eq, beq_eq_false_iff_ne, ne_eq, Bool.and_eq_true, Bool.and_eq_false_iff, decide_not] at h11
       refine Ry ?_
       refine Rq ?_
       refine Ry ?_
       refine R_q rfl (by simp (disch := first | omega | (simp only [List.length_map, List.length_append, List.length_set, List.length_cons, List.length_nil]; omega)) only [go_sem, ↓reduceIte, Nat.reduceEqDiff, reduceCtorEq, q7, q9] <;> rfl) ?_
       refine Ry ?_
       refine Rq ?_
       refine Ry ?_
       refine Rq ?_
       refine Ry ?_
       refine Rq ?_
       refine Ry ?_
       refine Rq ?_
       refine Rq ?_
       refine Rq ?_
       refine Rp_split (fun h12 => ?_) (fun h12 => ?_)
       ·
        try simp only [decide_eq_true_eq, decide_eq_false_iff_not, decide_eq_decide, Bool.not_eq_true', Bool.not_eq_false', beq_iff_eq, beq_eq_false_iff_ne, ne_eq, Bool.and_eq_true, Bool.and_eq_false_iff, decide_not] at h12
        refine Ry ?_
        refine Rq ?_
        refine Ry ?_
        refine R_q rfl (by simp (disch := first | omega | (simp only [List.length_map, List.length_append, List.length_set, List.length_cons, List.length_nil]; omega)) only [go_sem, ↓reduceIte, Nat.reduceEqDiff, reduceCtorEq, q7, q9] <;> rfl) ?_
        refine Ry ?_
        refine Rq ?_
        refine Ry ?_
        refine R_q rfl (by simp (disch := first | omega | (simp only [List.length_map, List.length_append, List.length_set, List.length_cons, List.length_nil]; omega)) only [go_sem, ↓reduceIte, Nat.reduceEqDiff, reduceCtorEq, q7, q9] <;> rfl) ?_
        refine Ry ?_
        refine Rq ?_
        refine Rq ?_
        refine Rq ?_
        refine Rp_split (fun h13 => ?_) (fun h13 => ?_)
        ·
         try simp only [decide_eq_true_eq, decide_eq_false_iff_not, decide_eq_decide, Bool.not_eq_true', Bool.not_eq_false', beq_iff_eq, beq_eq_false_iff_ne, ne_eq, Bool.and_eq_true, Bool.and_eq_false_iff, decide_not] at h13
         refine Ry ?_
         refine Rq ?_
         refine Ry ?_
         refine R_q rfl (by simp (disch := first | omega | (simp only [List.length_map, List.length_append, List.length_set, List.length_cons, List.length_nil]; omega)) only [go_sem, ↓reduceIte, Nat.reduceEqDiff, reduceCtorEq, q7, q9] <;> rfl) ?_
         refine Ry ?_
         refine Rq ?_
         refine Ry ?_
         refine Rq ?_
         refine Rq ?_
         refine Rq ?_
         refine Rp_split (fun h14 => ?_) (fun h14 => ?_)
         ·
          try simp only [decide_eq_true_eq, decide_eq_false_iff_not, decide_eq_decide, Bool.not_eq_true', Bool.not_eq_false', beq_iff_eq, beq_eq_false_iff_ne, ne_eq, Bool.and_eq_true, Bool.and_eq_false_iff, decide_not] at h14
          refine Ry ?_
          refine Rq ?_
          refine Ry ?_
          refine R_q rfl (by simp (disch := first | omega | (simp only [List.length_map, List.length_append, List.length_set, List.length_cons, List.length_nil]; omega)) only [go_sem, ↓reduceIte, Nat.reduceEqDiff, reduceCtorEq, q7, q9] <;> rfl) ?_
          refine Ry ?_
          refine Rq ?_
          refine Ry ?_
          refine Rq ?_
          refine Rq ?_
          refine Rq ?_
          refine Rp_split (fun h15 => ?_) (fun h15 => ?_)
          ·
           try simp only [decide_eq_true_eq, decide_eq_false_iff_not, decide_eq_decide, Bool.not_eq_true', Bool.not_eq_false', beq_iff_eq, beq_eq_false_iff_ne, ne_eq, Bool.and_eq_true, Bool.and_eq_false_iff, decide_not] at h15
           refine Ry ?_
           refine Rq ?_
           refine Ry ?_
           refine R_q rfl (by simp (disch := first | omega | (simp only [List.length_map, List.length_append, List.length_set, List.length_cons, List.length_nil]; omega)) only [go_sem, ↓reduceIte, Nat.reduceEqDiff, reduceCtorEq, q7, q9] <;> rfl) ?_
           refine Ry ?_
           refine Rq ?_
           refine Ry ?_
           refine Rq ?_
           refine Rq ?_
           refine Rq ?_
           refine Rp_split (fun h16 => ?_) (fun h16 => ?_)
           ·
            try simp only [decide_eq_true_eq, decide_eq_false_iff_not, decide_eq_decide, Bool.not_eq_true', Bool.not_eq_false', beq_iff_eq, beq_eq_false_iff_ne, ne_eq, Bool.and_eq_true, Bool.and_eq_false_iff, decide_not] at h16
            refine Ry ?_
            refine Rq ?_
            refine Ry ?_
            refine R_q rfl (by simp (disch := first | omega | (simp only [List.length_map, List.length_append, List.length_set, List.length_cons, List.length_nil]; omega)) only [go_sem, ↓reduceIte, Nat.reduceEqDiff, reduceCtorEq, q7, q9] <;> rfl) ?_
            refine Ry ?_
            refine Rq ?_
            refine Ry ?_
            refine Rq ?_
            refine Rq ?_
            refine Rq ?_
            have tr : ∀ a b c d e f g h i j k m n o p q r s t u v w x y z A B C D E F G H I J K L M N O P Q R S T U V W X Y Z a1 b1 c1 d1 e1 f1 g1 h1 i1 j1 k1 m1 n1 o1 p1 q1 r1 s1 t1 : AV, let l := lc_psums_ok a b c d e f g h i j k m n o p q r s t u v w x y; trim ((4,t1)::(200,s1)::(199,r1)::(198,q1)::(197,p1)::(196,o1)::(195,n1)::(194,m1)::(193,k1)::(192,j1)::(191,i1)::(190,h1)::(189,g1)::(188,f1)::(187,e1)::(186,d1)::(185,c1)::(184,b1)::(183,a1)::(182,Z)::(181,Y)::(180,X)::(179,W)::(178,V)::(177,U)::(176,T)::(175,S)::(174,R)::(173,Q)::(172,P)::(171,O)::(170,N)::(169,M)::(168,L)::(167,K)::(166,J)::(165,I)::(164,H)::(163,G)::(162,F)::(161,E)::(160,D)::(159,C)::(158,B)::(157,A)::(156,z)::l) l = [(0,a),(1,b),(4,t1),(5,d),(6,e),(7,f),(8,g),(9,h),(10,i),(11,j),(13,k),(15,m),(18,n),(26,o),(33,p),(34,q),(35,r),(36,s),(37,t),(85,u),(135,v),(136,w),(137,x),(138,y)] := by intros; rfl
            refine R_nil (tr ..) ?_; clear tr
            refine then_n ?_
            refine at_ret rfl ?_
            refine fpure ?_
            first | rfl | exact congrArg (fun b => AV.v (.bool b)) (decide_eq_true (by omega)) | (simp; done) | (exfalso; omega)
           ·
            try simp only [decide_eq_true_eq, decide_eq_false_iff_not, decide_eq_decide, Bool.not_eq_true', Bool.not_eq_false', beq_iff_eq, beq_eq_false_iff_ne, ne_eq, Bool.and_eq_true, Bool.and_eq_false_iff, decide_not] at h16
            first | omega | contradiction | exact absurd rfl (by assumption) | exact absurd trivial (by assumption) | (simp at *; done) | (simp at *; omega)
          ·
           try simp only [decide_eq_true_eq, decide_eq_false_iff_not, decide_eq_decide, Bool.not_eq_true', Bool.not_eq_false', beq_iff_eq, beq_eq_false_iff_ne, ne_eq, Bool.and_eq_true, Bool.and_eq_false_iff, decide_not] at h15
           first | omega | contradiction | exact absurd rfl (by assumption) | exact absurd trivial (by assumption) | (simp at *; done) | (simp at *; omega)
         ·
          try simp only [decide_eq_true_eq, decide_eq_false_iff_not, decide_eq_decide, Bool.not_eq_true', Bool.not_eq_false', beq_iff_eq, beq_eq_false_iff_ne, ne_eq, Bool.and_eq_true, Bool.and_eq_false_iff, decide_not] at h14
          first | omega | contradiction | exact absurd rfl (by assumption) | exact absurd trivial (by assumption) | (simp at *; done) | (simp at *; omega)
        ·
         try simp only [decide_eq_true_eq, decide_eq_false_iff_not, decide_eq_decide, Bool.not_eq_true', Bool.not_eq_false', beq_iff_eq, beq_eq_false_iff_ne, ne_eq, Bool.and_eq_true, Bool.and_eq_false_iff, decide_not] at h13
         first | omega | contradiction | exact absurd rfl (by assumption) | exact absurd trivial (by assumption) | (simp at *; done) | (simp at *; omega)
       ·
        try simp only [decide_eq_true_eq, decide_eq_false_iff_not, decide_eq_decide, Bool.not_eq_true', Bool.not_eq_false', beq_iff_eq, beq_eq_false_iff_ne, ne_eq, Bool.and_eq_true, Bool.and_eq_false_iff, decide_not] at h12
        first | omega | contradiction | exact absurd rfl (by assumption) | exact absurd trivial (by assumption) | (simp at *; done) | (simp at *; omega)
      ·
       try simp only [decide_eq_true_eq, decide_eq_false_iff_not, decide_eq_decide, Bool.not_eq_true', Bool.not_eq_false', beq_iff_eq, beq_eq_false_iff_ne, ne_eq, Bool.and_eq_true, Bool.and_eq_false_iff, decide_not] at h11
       first | omega | contradiction | exact absurd rfl (by assumption) | exact absurd trivial (by assumption) | (simp at *; done) | (simp at *; omega)

end Go.Proofs.YtfnapmdedmbdbaaDoor
end
section
namespace Go.Am
open Go
section
variable {H : Type} {enc : TypeId × Value → H} {P : Program} {w : World} {held : Bool}

abbrev In (w : World) : Nat → Prop := fun k => k < w.heap.size

theorem cell_lt {w : World} {a : Addr} {v : Value} (h : w.cell? a = some v) : a.block < w.heap.size := by
  unfold World.cell? at h
  by_cases hb : a.block < w.heap.size
  · exact hb
  · rw [Array.getElem?_eq_none (by omega)] at h
    simp at h

theorem den_slice {α : Type} (f : α → AV) {t e : TypeId} {fuel : Nat} {cs : List Value} {x : DataW H × List MemPlace} (ht : P.underlying t = some (.slice e)) (hc : P.cellsOf e = 1)
    (each : ∀ n cs x, DataW.trod enc P w 0 (fun _ => true) held n e cs = some x → ∃ d v, cs = [v] ∧ Den [] (In w) w (f d) v)
    (h : DataW.trod enc P w 0 (fun _ => true) held fuel t cs = some x) : ∃ (l : List α) (v : Value), cs = [v] ∧ Den [] (In w) w (.sl l.length (l.map f)) v := by
  rcases DataW.trod_slice ht h with ⟨rfl, _⟩ | ⟨a, len, cap, elems, rest, n, _, rfl, _, _, hl, hm, hlen, hel, hsp, _⟩
  · exact ⟨[], _, rfl, .sl0 _ _⟩
  · have get : ∀ i, i < cap → ∃ c d, w.cell? (a.add i) = some c ∧ Den [] (In w) w (f d) c := by
      intro i hi
      have hb : ∃ y, (w.cells? 0 (a.add (i * P.cellsOf e)) (P.cellsOf e)).bind (DataW.trod enc P w 0 (fun _ => true) held n e) = some y := by
        by_cases h1 : i < len
        · exact ⟨elems[i]'(by omega), by rw [hel i h1, List.getElem?_eq_getElem (by omega)]⟩
        · obtain ⟨hr, hrr⟩ := hsp rfl
          have := hrr (i - len) (by omega)
          rw [show len + (i - len) = i by omega] at this
          exact ⟨rest[i - len]'(by omega), by rw [this, List.getElem?_eq_getElem (by omega)]⟩
      obtain ⟨y, hy⟩ := hb
      rw [hc, Nat.mul_one, Option.bind_eq_some_iff] at hy
      obtain ⟨cs', hcs, hy'⟩ := hy
      obtain ⟨d, v, rfl, hd⟩ := each _ _ _ hy'
      have e0 : (a.add i).add 0 = a.add i := by simp [Addr.add]
      unfold World.cells? at hcs
      rw [if_pos (Nat.zero_le _)] at hcs
      simp only [List.range_succ, List.range_zero, List.nil_append, List.mapM_cons, List.mapM_nil, e0] at hcs
      cases hcc : w.cell? (a.add i) with
      | none => simp [hcc] at hcs
      | some c =>
        simp [hcc] at hcs
        exact ⟨c, d, rfl, by rw [hcs]; exact hd⟩
    by_cases h0 : cap = 0
    · subst h0
      have : len = 0 := by omega
      subst this
      exact ⟨[], _, rfl, .sl0 _ _⟩
    · obtain ⟨c0, d0, hc0, _⟩ := get 0 (by omega)
      have hs : a.spot = none := by have := World.cell?_spot hc0; simpa [Addr.add] using this
      have hb : a.block < w.heap.size := by have := cell_lt hc0; simpa [Addr.add] using this
      have ad : ∀ i, a.add i = ⟨a.block, a.off + i, none⟩ := by
        intro i
        obtain ⟨ab, ao, asp⟩ := a
        simp only at hs
        subst hs
        simp only [Addr.add]
        split
        · rename_i hi; rw [hi]; rfl
        · rfl
      have pick : ∀ i, ∃ d : α, i < len → ∃ c, w.cell? (a.add i) = some c ∧ Den [] (In w) w (f d) c := by
        intro i
        by_cases hi : i < len
        · obtain ⟨c, d, h1, h2⟩ := get i (by omega)
          exact ⟨d, fun _ => ⟨c, h1, h2⟩⟩
        · exact ⟨d0, fun h => absurd h hi⟩
      let D : Nat → α := fun i => (pick i).choose
      have hD : ∀ i, i < len → ∃ c, w.cell? (a.add i) = some c ∧ Den [] (In w) w (f (D i)) c := fun i => (pick i).choose_spec
      refine ⟨(List.range len).map D, _, rfl, ?_⟩
      have hlen2 : ((List.range len).map D).length = len := by simp
      rw [hlen2]
      have gx : ∀ (j : Nat) (x : AV), (((List.range len).map D).map f)[j]? = some x → j < len ∧ x = f (D j) := by
        intro j x hx
        simp only [List.map_map, List.getElem?_map, Option.map_eq_some_iff, Function.comp] at hx
        obtain ⟨k, hk, rfl⟩ := hx
        obtain ⟨hj, hk⟩ := List.getElem?_eq_some_iff.1 hk
        simp at hj hk
        subst hk
        exact ⟨hj, rfl⟩
      refine .sl len _ cap a (fun j => (w.cell? (a.add j)).getD undef) hl hm hs hb ?_ ?_
      · intro j x hx
        obtain ⟨hj, _⟩ := gx j x hx
        obtain ⟨c, h1, _⟩ := hD j hj
        rw [← ad j, h1]; rfl
      · intro j x hx
        obtain ⟨hj, rfl⟩ := gx j x hx
        obtain ⟨c, h1, h2⟩ := hD j hj
        rw [h1]; exact h2

theorem den_int {e : TypeId} (he : P.underlying e = some (.int .i64)) : ∀ n cs (x : DataW H × List MemPlace), DataW.trod enc P w 0 (fun _ => true) held n e cs = some x → ∃ d v, cs = [v] ∧ Den [] (In w) w (AV.i d) v := by
  intro n cs x h
  obtain ⟨m, rfl, _, _⟩ := DataW.trod_int he h
  exact ⟨m, _, rfl, .v _⟩
end
end Go.Am
end
section
namespace Go.Am
open Go Go.WideShapes
section
variable {P : Program} {w : World}

def DLs (w : World) (l : List AV) (cs : List Value) : Prop := cs.length = l.length ∧ ∀ (j : Nat) (a : AV) (v : Value), l[j]? = some a → cs[j]? = some v → Den [] (In w) w a v

def Opens (P : Program) (t : TypeId) {α : Type} (f : α → List AV) : Prop :=
  ∀ (H : Type) (enc : TypeId × Value → H) (w : World) (held : Bool) (n : Nat) (cs : List Value) (x : DataW H × List MemPlace), DataW.trod enc P w 0 (fun _ => true) held n t cs = some x → ∃ d : α, DLs w (f d) cs

theorem dls_one {a : AV} {v : Value} (h : Den [] (In w) w a v) : DLs w [a] [v] := ⟨rfl, fun j x y hx hy => by
  match j, hx, hy with
  | 0, hx, hy => cases hx; cases hy; exact h⟩

abbrev I64 := {x : Int // -9223372036854775808 ≤ x ∧ x ≤ 9223372036854775807}
abbrev U16 := {x : Int // 0 ≤ x ∧ x ≤ 65535}
abbrev U64 := {x : Int // 0 ≤ x ∧ x ≤ 18446744073709551615}
theorem opens_i64 {t : TypeId} (ht : P.underlying t = some (.int .i64)) : Opens P t (fun d : I64 => [AV.i d.val]) := by
  intro H enc w held n cs x h
  obtain ⟨m, rfl, _, hw⟩ := DataW.trod_int ht h
  simp only [Lit.wf, decide_eq_true_eq, Bool.and_eq_true] at hw
  exact ⟨⟨m, hw⟩, dls_one (.v _)⟩
theorem opens_u16 {t : TypeId} (ht : P.underlying t = some (.int .u16)) : Opens P t (fun d : U16 => [.v (.int .u16 d.val)]) := by
  intro H enc w held n cs x h
  obtain ⟨m, rfl, _, hw⟩ := DataW.trod_int ht h
  simp only [Lit.wf, decide_eq_true_eq, Bool.and_eq_true] at hw
  exact ⟨⟨m, hw⟩, dls_one (.v _)⟩
theorem opens_u64 {t : TypeId} (ht : P.underlying t = some (.int .u64)) : Opens P t (fun d : U64 => [.v (.int .u64 d.val)]) := by
  intro H enc w held n cs x h
  obtain ⟨m, rfl, _, hw⟩ := DataW.trod_int ht h
  simp only [Lit.wf, decide_eq_true_eq, Bool.and_eq_true] at hw
  exact ⟨⟨m, hw⟩, dls_one (.v _)⟩
theorem opens_bool {t : TypeId} (ht : P.underlying t = some .bool) : Opens P t (fun d : Bool => [.v (.bool d)]) := by
  intro H enc w held n cs x h
  obtain ⟨m, rfl, _⟩ := DataW.trod_bool ht h
  exact ⟨m, dls_one (.v _)⟩

theorem flat_uni {α : Type} {f : α → List AV} {z : Nat} (hf : ∀ d, (f d).length = z) : ∀ (l : List α) (i k : Nat) (hi : i < l.length), k < z → (l.map f).flatten[i * z + k]? = (f l[i])[k]?
  | [], i, k, hi, _ => by simp at hi
  | d :: l, 0, k, _, hk => by
    rw [List.map_cons, List.flatten_cons, Nat.zero_mul, Nat.zero_add, List.getElem?_append_left (by rw [hf]; exact hk)]
    rfl
  | d :: l, i + 1, k, hi, hk => by
    rw [List.map_cons, List.flatten_cons, List.getElem?_append_right (by rw [hf, Nat.succ_mul]; omega), hf]
    rw [show (i + 1) * z + k - z = i * z + k by rw [Nat.succ_mul]; omega, flat_uni hf l i k (by simpa using hi) hk]
    rfl
theorem flat_unilen {α : Type} {f : α → List AV} {z : Nat} (hf : ∀ d, (f d).length = z) (l : List α) : (l.map f).flatten.length = l.length * z := by
  induction l with
  | nil => simp
  | cons d l ih => rw [List.map_cons, List.flatten_cons, List.length_append, ih, hf, List.length_cons, Nat.succ_mul]; omega

theorem opens_slice {α : Type} {f : α → List AV} {t e : TypeId} {z : Nat} (ht : P.underlying t = some (.slice e)) (hc : P.cellsOf e = z) (hz : 0 < z) (he : Opens P e f) (hf : ∀ d, (f d).length = z) :
    Opens P t (fun l : List α => [.sl l.length (l.map f).flatten]) := by
  intro H enc w held n cs x h
  rcases DataW.trod_slice ht h with ⟨rfl, _⟩ | ⟨a, len, cap, elems, rest, n, _, rfl, _, _, hl, hm, hlen, hel, hsp, _⟩
  · exact ⟨[], dls_one (.sl0 _ _)⟩
  · have get : ∀ i, i < cap → ∃ d cs', (∀ k, k < z → ∃ c, cs'[k]? = some c ∧ w.cell? ((a.add (i * z)).add k) = some c) ∧ DLs w (f d) cs' := by
      intro i hi
      have hb : ∃ y, (w.cells? 0 (a.add (i * P.cellsOf e)) (P.cellsOf e)).bind (DataW.trod enc P w 0 (fun _ => true) held n e) = some y := by
        by_cases h1 : i < len
        · exact ⟨elems[i]'(by omega), by rw [hel i h1, List.getElem?_eq_getElem (by omega)]⟩
        · obtain ⟨hr, hrr⟩ := hsp rfl
          have := hrr (i - len) (by omega)
          rw [show len + (i - len) = i by omega] at this
          exact ⟨rest[i - len]'(by omega), by rw [this, List.getElem?_eq_getElem (by omega)]⟩
      obtain ⟨y, hy⟩ := hb
      rw [hc, Option.bind_eq_some_iff] at hy
      obtain ⟨cs', hcs, hy'⟩ := hy
      obtain ⟨d, hd⟩ := he H enc w held _ _ _ hy'
      refine ⟨d, cs', fun k hk => ?_, hd⟩
      unfold World.cells? at hcs
      rw [if_pos (Nat.zero_le _)] at hcs
      have hk1 := mapM_some_length hcs
      rw [List.length_range] at hk1
      have := mapM_some_get hcs k k (by simp [hk])
      exact ⟨cs'[k]'(by omega), List.getElem?_eq_getElem (by omega), by rw [this, List.getElem?_eq_getElem (by omega)]⟩
    by_cases h0 : cap = 0
    · subst h0
      have : len = 0 := by omega
      subst this
      exact ⟨[], dls_one (.sl0 _ _)⟩
    · obtain ⟨d0, cs0, hc0, _⟩ := get 0 (by omega)
      obtain ⟨c0, _, hcc⟩ := hc0 0 hz
      have e00 : (a.add (0 * z)).add 0 = a := by simp [Addr.add]
      rw [e00] at hcc
      have hs : a.spot = none := World.cell?_spot hcc
      have hb : a.block < w.heap.size := cell_lt hcc
      have ad : ∀ i, a.add i = ⟨a.block, a.off + i, none⟩ := by
        intro i
        obtain ⟨ab, ao, asp⟩ := a
        simp only at hs
        subst hs
        simp only [Addr.add]
        split
        · rename_i hi; rw [hi]; rfl
        · rfl
      have ad2 : ∀ i k, (a.add i).add k = ⟨a.block, a.off + (i + k), none⟩ := by
        intro i k
        rw [ad i]
        simp only [Addr.add]
        split
        · rename_i hi; rw [hi]; simp
        · simp
      have pick : ∀ i, ∃ d : α, i < len → ∃ cs', (∀ k, k < z → ∃ c, cs'[k]? = some c ∧ w.cell? ⟨a.block, a.off + (i * z + k), none⟩ = some c) ∧ DLs w (f d) cs' := by
        intro i
        by_cases hi : i < len
        · obtain ⟨d, cs', h1, h2⟩ := get i (by omega)
          exact ⟨d, fun _ => ⟨cs', fun k hk => by obtain ⟨c, h3, h4⟩ := h1 k hk; exact ⟨c, h3, by rw [← ad2]; exact h4⟩, h2⟩⟩
        · exact ⟨d0, fun h => absurd h hi⟩
      let D : Nat → α := fun i => (pick i).choose
      have hD : ∀ i, i < len → ∃ cs', (∀ k, k < z → ∃ c, cs'[k]? = some c ∧ w.cell? ⟨a.block, a.off + (i * z + k), none⟩ = some c) ∧ DLs w (f (D i)) cs' := fun i => (pick i).choose_spec
      refine ⟨(List.range len).map D, dls_one ?_⟩
      have hlen2 : ((List.range len).map D).length = len := by simp
      have key : ∀ (j : Nat) (x : AV), (((List.range len).map D).map f).flatten[j]? = some x → ∃ c, w.cell? ⟨a.block, a.off + j, none⟩ = some c ∧ Den [] (In w) w x c := by
        intro j x hx
        have hj : j < len * z := by
          have h1 := (List.getElem?_eq_some_iff.1 hx).1
          rw [flat_unilen hf, hlen2] at h1
          exact h1
        have hdiv : j / z < len := Nat.div_lt_of_lt_mul (by rw [Nat.mul_comm]; exact hj)
        have hmod : j % z < z := Nat.mod_lt _ hz
        have hjj : j / z * z + j % z = j := by rw [Nat.mul_comm]; exact Nat.div_add_mod j z
        have h2 := flat_uni hf ((List.range len).map D) (j / z) (j % z) (by rw [hlen2]; exact hdiv) hmod
        rw [hjj] at h2
        rw [h2] at hx
        simp only [List.getElem_map, List.getElem_range] at hx
        obtain ⟨cs', h3, h4⟩ := hD (j / z) hdiv
        obtain ⟨c, h5, h6⟩ := h3 (j % z) hmod
        rw [hjj] at h6
        exact ⟨c, h6, h4.2 _ _ _ hx h5⟩
      have ha : a = ⟨a.block, a.off, none⟩ := by obtain ⟨ab, ao, asp⟩ := a; simp only at hs; subst hs; rfl
      rw [hlen2]
      refine Den.sl (I := In w) _ _ cap a (fun j => (w.cell? ⟨a.block, a.off + j, none⟩).getD undef) hl hm hs hb ?_ ?_
      · intro j x hx
        obtain ⟨c, h1, _⟩ := key j x hx
        rw [h1]; rfl
      · intro j x hx
        obtain ⟨c, h1, h2⟩ := key j x hx
        rw [h1]; exact h2

theorem dls_split {cs : List Value} {o z : Nat} {l l' : List AV} (h1 : DLs w l ((cs.drop o).take z)) (hz : l.length = z) (h2 : DLs w l' (cs.drop (o + z))) : DLs w (l ++ l') (cs.drop o) := by
  subst hz
  have e : cs.drop o = (cs.drop o).take l.length ++ cs.drop (o + l.length) := by rw [← List.drop_drop]; exact (List.take_append_drop _ _).symm
  have hl := h1.1
  refine ⟨by rw [e, List.length_append, List.length_append, h1.1, h2.1], fun j a v ha hv => ?_⟩
  rw [e] at hv
  rw [List.getElem?_append] at ha hv
  by_cases hj : j < l.length
  · rw [if_pos hj] at ha
    rw [if_pos (by rw [hl]; exact hj)] at hv
    exact h1.2 j a v ha hv
  · rw [if_neg hj] at ha
    rw [if_neg (by rw [hl]; exact hj), hl] at hv
    exact h2.2 _ a v ha hv
theorem dls_end {cs : List Value} {o : Nat} (h : cs.length = o) : DLs w [] (cs.drop o) := ⟨by rw [List.drop_of_length_le (by omega)]; rfl, fun j a v ha _ => by simp at ha⟩

theorem opens_array {α : Type} {f : α → List AV} {t e : TypeId} {z m : Nat} [Inhabited α] (ht : P.underlying t = some (.array m e)) (hc : P.cellsOf e = z) (hct : P.cellsOf t = m * z) (he : Opens P e f) (hf : ∀ d, (f d).length = z) :
    Opens P t (fun l : {l : List α // l.length = m} => (l.val.map f).flatten) := by
  intro H enc w held n cs x h
  obtain ⟨xs, k, _, rfl, hl, hlen, hg⟩ := DataW.trod_array ht h
  have pick : ∀ i, ∃ d : α, i < m → DLs w (f d) ((cs.drop (i * z)).take z) := by
    intro i
    by_cases hi : i < m
    · have h1 := hg i hi
      rw [hc, List.getElem?_eq_getElem (by omega)] at h1
      obtain ⟨d, hd⟩ := he H enc w held _ _ _ h1
      exact ⟨d, fun _ => hd⟩
    · exact ⟨default, fun h => absurd h hi⟩
  let D : Nat → α := fun i => (pick i).choose
  have hD : ∀ i, i < m → DLs w (f (D i)) ((cs.drop (i * z)).take z) := fun i => (pick i).choose_spec
  have key : ∀ k, k ≤ m → DLs w (((List.range m).drop (m - k)).map fun i => f (D i)).flatten (cs.drop ((m - k) * z)) := by
    intro k
    induction k with
    | zero =>
      intro _
      rw [Nat.sub_zero, List.drop_of_length_le (by simp)]
      exact dls_end (by rw [hl, hct])
    | succ k ih =>
      intro hk
      have e : (List.range m).drop (m - (k + 1)) = (m - (k + 1)) :: (List.range m).drop (m - k) := by
        rw [List.drop_eq_getElem_cons (by simp; omega)]
        simp only [List.getElem_range]
        congr 1
        congr 1
        omega
      rw [e, List.map_cons, List.flatten_cons]
      refine dls_split (z := z) (hD _ (by omega)) (hf _) ?_
      have := ih (by omega)
      rwa [show (m - (k + 1)) * z + z = (m - k) * z by rw [← Nat.succ_mul]; congr 1; omega]
  refine ⟨⟨(List.range m).map D, by simp⟩, ?_⟩
  have := key m (Nat.le_refl _)
  rw [Nat.sub_self, Nat.zero_mul, List.drop_zero, List.drop_zero] at this
  simpa [List.map_map, Function.comp_def] using this

/-- A struct or array that came in. -/
theorem open_agg {α : Type} {f : α → List AV} {t : TypeId} (h : Opens P t f) {H : Type} {enc : TypeId × Value → H} {cs : Array Value} {d : DataW H} {p : List MemPlace}
    (ht : DataW.Trod enc P w 0 (fun _ => true) true t (.agg cs) d p) : ∃ d : α, Den [] (In w) w (.agg (f d)) (.agg cs) := by
  obtain ⟨fuel, hf⟩ := ht
  obtain ⟨d, h1, h2⟩ := h _ _ _ _ _ _ _ hf
  have e : (Value.agg cs).cells.toList = cs.toList := rfl
  rw [e] at h1 h2
  exact ⟨d, .agg _ _ (by simpa using h1) fun j a v ha hv => h2 j a v ha (by simpa using hv)⟩
end
end Go.Am
end
section
set_option linter.unusedVariables false
namespace Go.Proofs.YtfnapmdedmbdbaaDoor
open Go Go.Am

instance : Inhabited I64 := ⟨⟨0, by decide⟩⟩
instance : Inhabited U16 := ⟨⟨0, by decide⟩⟩
theorem flat_one {α : Type} (g : α → AV) (l : List α) : (l.map fun d => [g d]).flatten = l.map g := by induction l with | nil => rfl | cons a l ih => rw [List.map_cons, List.flatten_cons, ih]; rfl
theorem co23 : Tryd.prog.cellsOf 23 = 10 := by kernel_rfl
theorem co3 : Tryd.prog.cellsOf 3 = 1 := by kernel_rfl
abbrev D3 := I64
abbrev c3 : D3 → List AV := fun d => [.v (.int .i64 d.val)]
theorem cl3 (d : D3) : (c3 d).length = 1 := rfl
theorem opens3 : Opens Tryd.prog 3 c3 := opens_i64 Tryd.underlying3
abbrev D23 := D3 × D3 × D3 × D3 × D3 × D3 × D3 × D3 × D3 × D3
abbrev c23 : D23 → List AV := fun d => c3 d.1 ++ (c3 d.2.1 ++ (c3 d.2.2.1 ++ (c3 d.2.2.2.1 ++ (c3 d.2.2.2.2.1 ++ (c3 d.2.2.2.2.2.1 ++ (c3 d.2.2.2.2.2.2.1 ++ (c3 d.2.2.2.2.2.2.2.1 ++ (c3 d.2.2.2.2.2.2.2.2.1 ++ (c3 d.2.2.2.2.2.2.2.2.2 ++ ([]))))))))))
theorem cl23 (d : D23) : (c23 d).length = 10 := rfl
theorem opens23 : Opens Tryd.prog 23 c23 := by
  intro H enc w held n cs x h
  obtain ⟨xs, m, _, rfl, hl, hlen, hf⟩ := DataW.trod_struct Tryd.underlying23 h
  rw [co23] at hl
  have g0 := hf 0 _ rfl
  rw [List.getElem?_eq_getElem (by rw [hlen]; decide)] at g0
  obtain ⟨d0, E0⟩ := opens3 _ _ _ _ _ _ _ g0
  have D0 : DLs w (c3 d0) ((cs.drop 0).take (Tryd.prog.cellsOf 3)) := E0
  rw [co3] at D0
  have g1 := hf 1 _ rfl
  rw [List.getElem?_eq_getElem (by rw [hlen]; decide)] at g1
  obtain ⟨d1, E1⟩ := opens3 _ _ _ _ _ _ _ g1
  have D1 : DLs w (c3 d1) ((cs.drop 1).take (Tryd.prog.cellsOf 3)) := E1
  rw [co3] at D1
  have g2 := hf 2 _ rfl
  rw [List.getElem?_eq_getElem (by rw [hlen]; decide)] at g2
  obtain ⟨d2, E2⟩ := opens3 _ _ _ _ _ _ _ g2
  have D2 : DLs w (c3 d2) ((cs.drop 2).take (Tryd.prog.cellsOf 3)) := E2
  rw [co3] at D2
  have g3 := hf 3 _ rfl
  rw [List.getElem?_eq_getElem (by rw [hlen]; decide)] at g3
  obtain ⟨d3, E3⟩ := opens3 _ _ _ _ _ _ _ g3
  have D3 : DLs w (c3 d3) ((cs.drop 3).take (Tryd.prog.cellsOf 3)) := E3
  rw [co3] at D3
  have g4 := hf 4 _ rfl
  rw [List.getElem?_eq_getElem (by rw [hlen]; decide)] at g4
  obtain ⟨d4, E4⟩ := opens3 _ _ _ _ _ _ _ g4
  have D4 : DLs w (c3 d4) ((cs.drop 4).take (Tryd.prog.cellsOf 3)) := E4
  rw [co3] at D4
  have g5 := hf 5 _ rfl
  rw [List.getElem?_eq_getElem (by rw [hlen]; decide)] at g5
  obtain ⟨d5, E5⟩ := opens3 _ _ _ _ _ _ _ g5
  have D5 : DLs w (c3 d5) ((cs.drop 5).take (Tryd.prog.cellsOf 3)) := E5
  rw [co3] at D5
  have g6 := hf 6 _ rfl
  rw [List.getElem?_eq_getElem (by rw [hlen]; decide)] at g6
  obtain ⟨d6, E6⟩ := opens3 _ _ _ _ _ _ _ g6
  have D6 : DLs w (c3 d6) ((cs.drop 6).take (Tryd.prog.cellsOf 3)) := E6
  rw [co3] at D6
  have g7 := hf 7 _ rfl
  rw [List.getElem?_eq_getElem (by rw [hlen]; decide)] at g7
  obtain ⟨d7, E7⟩ := opens3 _ _ _ _ _ _ _ g7
  have D7 : DLs w (c3 d7) ((cs.drop 7).take (Tryd.prog.cellsOf 3)) := E7
  rw [co3] at D7
  have g8 := hf 8 _ rfl
  rw [List.getElem?_eq_getElem (by rw [hlen]; decide)] at g8
  obtain ⟨d8, E8⟩ := opens3 _ _ _ _ _ _ _ g8
  have D8 : DLs w (c3 d8) ((cs.drop 8).take (Tryd.prog.cellsOf 3)) := E8
  rw [co3] at D8
  have g9 := hf 9 _ rfl
  rw [List.getElem?_eq_getElem (by rw [hlen]; decide)] at g9
  obtain ⟨d9, E9⟩ := opens3 _ _ _ _ _ _ _ g9
  have D9 : DLs w (c3 d9) ((cs.drop 9).take (Tryd.prog.cellsOf 3)) := E9
  rw [co3] at D9
  refine ⟨(d0, d1, d2, d3, d4, d5, d6, d7, d8, d9), ?_⟩
  have key : DLs w (c23 (d0, d1, d2, d3, d4, d5, d6, d7, d8, d9)) (cs.drop 0) := dls_split D0 (cl3 _) (dls_split D1 (cl3 _) (dls_split D2 (cl3 _) (dls_split D3 (cl3 _) (dls_split D4 (cl3 _) (dls_split D5 (cl3 _) (dls_split D6 (cl3 _) (dls_split D7 (cl3 _) (dls_split D8 (cl3 _) (dls_split D9 (cl3 _) (dls_end (by rw [hl])))))))))))
  rwa [List.drop_zero] at key
theorem co32 : Tryd.prog.cellsOf 32 = 1 := by kernel_rfl
theorem co34 : Tryd.prog.cellsOf 34 = 8 := by kernel_rfl
theorem co4 : Tryd.prog.cellsOf 4 = 1 := by kernel_rfl
abbrev D4 := Bool
abbrev c4 : D4 → List AV := fun d => [.v (.bool d)]
theorem cl4 (d : D4) : (c4 d).length = 1 := rfl
theorem opens4 : Opens Tryd.prog 4 c4 := opens_bool Tryd.underlying4
abbrev D34 := D3 × D3 × D3 × D3 × D3 × D3 × D3 × D4
abbrev c34 : D34 → List AV := fun d => c3 d.1 ++ (c3 d.2.1 ++ (c3 d.2.2.1 ++ (c3 d.2.2.2.1 ++ (c3 d.2.2.2.2.1 ++ (c3 d.2.2.2.2.2.1 ++ (c3 d.2.2.2.2.2.2.1 ++ (c4 d.2.2.2.2.2.2.2 ++ ([]))))))))
theorem cl34 (d : D34) : (c34 d).length = 8 := rfl
theorem opens34 : Opens Tryd.prog 34 c34 := by
  intro H enc w held n cs x h
  obtain ⟨xs, m, _, rfl, hl, hlen, hf⟩ := DataW.trod_struct Tryd.underlying34 h
  rw [co34] at hl
  have g0 := hf 0 _ rfl
  rw [List.getElem?_eq_getElem (by rw [hlen]; decide)] at g0
  obtain ⟨d0, E0⟩ := opens3 _ _ _ _ _ _ _ g0
  have D0 : DLs w (c3 d0) ((cs.drop 0).take (Tryd.prog.cellsOf 3)) := E0
  rw [co3] at D0
  have g1 := hf 1 _ rfl
  rw [List.getElem?_eq_getElem (by rw [hlen]; decide)] at g1
  obtain ⟨d1, E1⟩ := opens3 _ _ _ _ _ _ _ g1
  have D1 : DLs w (c3 d1) ((cs.drop 1).take (Tryd.prog.cellsOf 3)) := E1
  rw [co3] at D1
  have g2 := hf 2 _ rfl
  rw [List.getElem?_eq_getElem (by rw [hlen]; decide)] at g2
  obtain ⟨d2, E2⟩ := opens3 _ _ _ _ _ _ _ g2
  have D2 : DLs w (c3 d2) ((cs.drop 2).take (Tryd.prog.cellsOf 3)) := E2
  rw [co3] at D2
  have g3 := hf 3 _ rfl
  rw [List.getElem?_eq_getElem (by rw [hlen]; decide)] at g3
  obtain ⟨d3, E3⟩ := opens3 _ _ _ _ _ _ _ g3
  have D3 : DLs w (c3 d3) ((cs.drop 3).take (Tryd.prog.cellsOf 3)) := E3
  rw [co3] at D3
  have g4 := hf 4 _ rfl
  rw [List.getElem?_eq_getElem (by rw [hlen]; decide)] at g4
  obtain ⟨d4, E4⟩ := opens3 _ _ _ _ _ _ _ g4
  have D4 : DLs w (c3 d4) ((cs.drop 4).take (Tryd.prog.cellsOf 3)) := E4
  rw [co3] at D4
  have g5 := hf 5 _ rfl
  rw [List.getElem?_eq_getElem (by rw [hlen]; decide)] at g5
  obtain ⟨d5, E5⟩ := opens3 _ _ _ _ _ _ _ g5
  have D5 : DLs w (c3 d5) ((cs.drop 5).take (Tryd.prog.cellsOf 3)) := E5
  rw [co3] at D5
  have g6 := hf 6 _ rfl
  rw [List.getElem?_eq_getElem (by rw [hlen]; decide)] at g6
  obtain ⟨d6, E6⟩ := opens3 _ _ _ _ _ _ _ g6
  have D6 : DLs w (c3 d6) ((cs.drop 6).take (Tryd.prog.cellsOf 3)) := E6
  rw [co3] at D6
  have g7 := hf 7 _ rfl
  rw [List.getElem?_eq_getElem (by rw [hlen]; decide)] at g7
  obtain ⟨d7, E7⟩ := opens4 _ _ _ _ _ _ _ g7
  have D7 : DLs w (c4 d7) ((cs.drop 7).take (Tryd.prog.cellsOf 4)) := E7
  rw [co4] at D7
  refine ⟨(d0, d1, d2, d3, d4, d5, d6, d7), ?_⟩
  have key : DLs w (c34 (d0, d1, d2, d3, d4, d5, d6, d7)) (cs.drop 0) := dls_split D0 (cl3 _) (dls_split D1 (cl3 _) (dls_split D2 (cl3 _) (dls_split D3 (cl3 _) (dls_split D4 (cl3 _) (dls_split D5 (cl3 _) (dls_split D6 (cl3 _) (dls_split D7 (cl4 _) (dls_end (by rw [hl])))))))))
  rwa [List.drop_zero] at key
abbrev D32 := List D34
abbrev c32 : D32 → List AV := fun l => [.sl l.length (l.map c34).flatten]
theorem cl32 (d : D32) : (c32 d).length = 1 := rfl
theorem opens32 : Opens Tryd.prog 32 c32 := opens_slice Tryd.underlying32 co34 (by decide) opens34 cl34
end Go.Proofs.YtfnapmdedmbdbaaDoor
end
section
set_option linter.unusedVariables false
set_option linter.unusedSimpArgs false
set_option maxRecDepth 10000
namespace Go.Proofs.YtfnapmdedmbdbaaDoor
open Go Go.Am Go.ChangeShapes Go.WideShapes Go.ChangeAt Go.RowKit
def st23 (x : D23) : St := ⟨x.1.val, x.2.1.val, x.2.2.1.val, x.2.2.2.1.val, x.2.2.2.2.1.val, x.2.2.2.2.2.1.val, x.2.2.2.2.2.2.1.val, x.2.2.2.2.2.2.2.1.val, x.2.2.2.2.2.2.2.2.1.val, x.2.2.2.2.2.2.2.2.2.val⟩
theorem c23_st (x : D23) : c23 x = stL (st23 x) := rfl
section
variable {H : Type} {enc : TypeId × Value → H} {W : World} {base : Nat} {r : Reach} {v : Value} {d : DataW H} {p : List MemPlace}
theorem open_23 (hval : Value.okWide Tryd.prog W r base 23 v) (h : DataW.Trod enc Tryd.prog W 0 (fun _ => true) true 23 v d p) : ∃ z : St, Den [] (In W) W (stA z) v := by
  obtain ⟨cs, rfl, hs⟩ := okWide_struct Tryd.underlying23 hval
  obtain ⟨x, hx⟩ := open_agg opens23 h
  rw [c23_st] at hx
  exact ⟨_, hx⟩
theorem open_3 (hval : Value.okWide Tryd.prog W r base 3 v) (h : DataW.Trod enc Tryd.prog W 0 (fun _ => true) true 3 v d p) : ∃ (n : Int) (hn : -9223372036854775808 ≤ n ∧ n ≤ 9223372036854775807), Den [] (In W) W (AV.i n) v := by
  obtain ⟨n, rfl⟩ := okWide_int Tryd.underlying3 hval
  obtain ⟨fuel, hf⟩ := h
  obtain ⟨x, hx⟩ := opens3 _ _ _ _ _ _ _ hf
  exact ⟨x.val, x.property, hx.2 0 _ _ rfl rfl⟩
end
end Go.Proofs.YtfnapmdedmbdbaaDoor
end
section
set_option linter.unusedVariables false
set_option linter.unusedSimpArgs false
set_option maxRecDepth 10000
namespace Go.Proofs.YtfnapmdedmbdbaaDoor
open Go Go.Am Go.ChangeShapes Go.WideShapes Go.ChangeAt Go.RowKit
def plOf (d : D34) : Pl := ⟨d.1.val, d.2.1.val, d.2.2.1.val, d.2.2.2.1.val, d.2.2.2.2.1.val, d.2.2.2.2.2.1.val, d.2.2.2.2.2.2.1.val, d.2.2.2.2.2.2.2⟩
theorem c34_eq (d : D34) : c34 d = plC (plOf d) := rfl
theorem c32_eq (d : D32) : c32 d = [plsAV (d.map plOf)] := by
  have e : (d.map c34) = (d.map plOf).map plC := by
    rw [List.map_map]
    exact List.map_congr_left fun x _ => c34_eq x
  show [AV.sl d.length (d.map c34).flatten] = _
  rw [e, plsAV, List.length_map]
  rfl
section
variable {H : Type} {enc : TypeId × Value → H} {W : World} {base : Nat} {r : Reach} {v : Value} {d : DataW H} {p : List MemPlace}
theorem open_32 (hval : Value.okWide Tryd.prog W r base 32 v) (h : DataW.Trod enc Tryd.prog W 0 (fun _ => true) true 32 v d p) :
    ∃ l : List Pl, Den [] (In W) W (plsAV l) v := by
  obtain ⟨a, len, cap, rfl⟩ := okWide_slice Tryd.underlying32 hval
  obtain ⟨fuel, hf⟩ := h
  obtain ⟨x, hx⟩ := opens32 _ _ _ _ _ _ _ hf
  rw [c32_eq] at hx
  exact ⟨x.map plOf, hx.2 0 _ _ rfl rfl⟩
end
end Go.Proofs.YtfnapmdedmbdbaaDoor
end
