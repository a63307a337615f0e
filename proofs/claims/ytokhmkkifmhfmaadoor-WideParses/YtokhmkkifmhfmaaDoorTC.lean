/-
  Walks of chapter 2. The steps are written by program (walk.py).
-/
import Derived.Test.YtokhmkkifmhfmaaDoorTA
import Derived.Test.YtokhmkkifmhfmaaDoorT2
set_option linter.unusedSimpArgs false
set_option linter.unusedVariables false
set_option maxHeartbeats 1000000
set_option maxRecDepth 20000
namespace Go.Proofs.YtokhmkkifmhfmaaDoor
open Go Go.Am
abbrev lc_parse_ok (a b c d e f g h i j k m n o p q r s t u v w x y z : AV) : Env := [(0,a),(2,b),(3,c),(4,d),(5,e),(6,f),(7,g),(8,h),(9,i),(10,j),(11,k),(12,m),(13,n),(14,o),(15,p),(16,q),(17,r),(18,s),(30,t),(33,u),(34,v),(35,w),(45,x),(86,y),(105,z)]
theorem parse_ok (lim : Nat) (H : Heap) (l : List UInt8) (hl200 : l.length ≤ 200) : ACall sig lim 33 [sv l] H fun r H' => r = .tup [wv (pr l).1, AV.i (pr l).2] ∧ H' = H := by
 obtain ⟨D, eD⟩ : ∃ D, D = dg9 l := ⟨_, rfl⟩
 have hdl : D.length ≤ l.length := by rw [eD]; exact dg_len l
 have hbig : ∀ {P : Prop}, P → (okP l → ¬ P) → ¬ okP l := fun h1 h2 h3 => h2 h3 h1
 refine ACall_pure (fa := fa33) rfl rfl rfl rfl ?_
 have tr : ∀ a0 : AV, env0 fa33.keep [a0] = [(0,a0),(2,.any),(3,.any),(4,.any),(5,.any),(6,.any),(7,.any),(8,.any),(9,.any),(10,.any),(11,.any),(12,.any),(13,.any),(14,.any),(15,.any),(16,.any),(17,.any),(18,.any),(30,.any),(33,.any),(34,.any),(35,.any),(45,.any),(86,.any),(105,.any)] := fun a0 => rfl
 refine W_to (tr _) ?_; clear tr
 refine at_seq rfl ?_
 refine rg rfl ?_
 refine A_alloc rfl ?_
 intro H1 n1
 have en1 := n1.len
 have q1 := n1.new
 have q1 : hget H1 H.length = some [AV.i 0, u6 0] := q1
 have lq1 := hget_lt q1
 refine Rq ?_
 have tr : ∀ a b c d e f g h i j k m n o p q r s t u v w x y z A B : AV, let l := lc_parse_ok a b c d e f g h i j k m n o p q r s t u v w x y z; trim ((3,B)::(2,A)::l) l = [(0,a),(2,A),(3,B),(4,d),(5,e),(6,f),(7,g),(8,h),(9,i),(10,j),(11,k),(12,m),(13,n),(14,o),(15,p),(16,q),(17,r),(18,s),(30,t),(33,u),(34,v),(35,w),(45,x),(86,y),(105,z)] := by intros; rfl
 refine R_nil (tr ..) ?_; clear tr
 refine then_n ?_
 refine at_seq rfl ?_
 refine rg rfl ?_
 refine Rq ?_
 refine Rcall ?_
 refine ACall_eq (cut_ok _ _ l) ?_
 rewrite [show Lib.trimPrefix l [45] = D from eD.symm]
 refine Rq ?_
 refine Rq ?_
 refine Rq ?_
 refine Rq ?_
 refine Rq ?_
 have tr : ∀ a b c d e f g h i j k m n o p q r s t u v w x y z A B C D E F G : AV, let l := lc_parse_ok a b c d e f g h i j k m n o p q r s t u v w x y z; trim ((5,G)::(4,F)::(23,E)::(22,D)::(19,C)::(21,B)::(20,A)::l) l = [(0,a),(2,b),(3,c),(4,F),(5,G),(6,f),(7,g),(8,h),(9,i),(10,j),(11,k),(12,m),(13,n),(14,o),(15,p),(16,q),(17,r),(18,s),(30,t),(33,u),(34,v),(35,w),(45,x),(86,y),(105,z)] := by intros; rfl
 refine R_nil (tr ..) ?_; clear tr
 refine then_n ?_
 refine at_seq rfl ?_
 refine at_seq rfl ?_
 refine rg rfl ?_
 refine Rq ?_
 refine Rq ?_
 refine Rq ?_
 refine Rp_split (fun h1 => ?_) (fun h1 => ?_)
 ·
  try simp only [decide_eq_true_eq, decide_eq_false_iff_not, decide_eq_decide, Bool.not_eq_true', Bool.not_eq_false', beq_iff_eq, beq_eq_false_iff_ne, ne_eq, Bool.and_eq_true, Bool.and_eq_false_iff, decide_not] at h1
  refine Rn ?_
  refine Rn ?_
  refine Rn ?_
  refine Rq ?_
  have tr : ∀ a b c d e f g h i j k m n o p q r s t u v w x y z A B C D E F G : AV, let l := lc_parse_ok a b c d e f g h i j k m n o p q r s t u v w x y z; trim ((30,G)::(29,F)::(28,E)::(27,D)::(26,C)::(25,B)::(24,A)::l) l = [(0,a),(2,b),(3,c),(4,d),(5,e),(6,f),(7,g),(8,h),(9,i),(10,j),(11,k),(12,m),(13,n),(14,o),(15,p),(16,q),(17,r),(18,s),(30,G),(33,u),(34,v),(35,w),(45,x),(86,y),(105,z)] := by intros; rfl
  refine R_nil (tr ..) ?_; clear tr
  refine then_n ?_
  refine cdt ?_
  refine at_seq rfl ?_
  refine rg rfl ?_
  have hno : ¬ okP l := fun h => by
    have := (okP_parts h).1
    rw [← eD, (by assumption : D = [])] at this
    simp at this
  refine Rq ?_
  refine A_store ty24 (by simp (disch := first | omega | (simp only [List.length_map, List.length_append, List.length_set, List.length_cons, List.length_nil]; omega)) only [go_sem, ↓reduceIte, Nat.reduceEqDiff, reduceCtorEq] <;> rfl) (by simp (disch := first | omega | (simp only [List.length_map, List.length_append, List.length_set, List.length_cons, List.length_nil]; omega)) only [go_sem, ↓reduceIte, Nat.reduceEqDiff, reduceCtorEq] <;> rfl) q1 ⟨by omega, rfl, Nat.le_refl 2⟩ (k' := [AV.i 0, u6 0]) rfl ?_
  intro H5 w5
  have q5 := w5.new
  refine Rq ?_
  have tr : ∀ a b c d e f g h i j k m n o p q r s t u v w x y z A B : AV, let l := lc_parse_ok a b c d e f g h i j k m n o p q r s t u v w x y z; trim ((3,B)::(31,A)::l) l = [(0,a),(2,b),(3,B),(4,d),(5,e),(6,f),(7,g),(8,h),(9,i),(10,j),(11,k),(12,m),(13,n),(14,o),(15,p),(16,q),(17,r),(18,s),(30,t),(33,u),(34,v),(35,w),(45,x),(86,y),(105,z)] := by intros; rfl
  refine R_nil (tr ..) ?_; clear tr
  refine then_n ?_
  refine at_ret rfl ?_
  refine then_r ?_
  first | (refine fin_pure (rs := [.cell 2 24, .tmp 3]) rfl (by first | (simp (disch := first | omega | (simp only [List.length_map, List.length_append, List.length_set, List.length_cons, List.length_nil]; omega)) only [go_sem, ↓reduceIte, Nat.reduceEqDiff, reduceCtorEq, q5] <;> rfl) | rfl) (by first | rfl | (simp (disch := first | omega | (simp only [List.length_map, List.length_append, List.length_set, List.length_cons, List.length_nil]; omega)) only [go_sem, ↓reduceIte, Nat.reduceEqDiff, reduceCtorEq, q5] <;> rfl)) ?_; refine ⟨?_, rfl⟩; rw [pr_n hno] <;> rfl; done) | (refine fin_pure (rs := [.cell 2 24, .tmp 3]) rfl (by first | (simp (disch := first | omega | (simp only [List.length_map, List.length_append, List.length_set, List.length_cons, List.length_nil]; omega)) only [go_sem, ↓reduceIte, Nat.reduceEqDiff, reduceCtorEq, q5] <;> rfl) | rfl) (by first | rfl | (simp (disch := first | omega | (simp only [List.length_map, List.length_append, List.length_set, List.length_cons, List.length_nil]; omega)) only [go_sem, ↓reduceIte, Nat.reduceEqDiff, reduceCtorEq, q5] <;> rfl)) ?_; refine ⟨?_, rfl⟩; rw [pr_y hok, fS_y hF] <;> rfl)
 ·
  try simp only [decide_eq_true_eq, decide_eq_false_iff_not, decide_eq_decide, Bool.not_eq_true', Bool.not_eq_false', beq_iff_eq, beq_eq_false_iff_ne, ne_eq, Bool.and_eq_true, Bool.and_eq_false_iff, decide_not] at h1
  refine Ry ?_
  refine Rq ?_
  refine Ry ?_
  refine Rq ?_
  refine Ry ?_
  refine Rq ?_
  refine Rq ?_
  have tr : ∀ a b c d e f g h i j k m n o p q r s t u v w x y z A B C D E F G : AV, let l := lc_parse_ok a b c d e f g h i j k m n o p q r s t u v w x y z; trim ((30,G)::(29,F)::(28,E)::(27,D)::(26,C)::(25,B)::(24,A)::l) l = [(0,a),(2,b),(3,c),(4,d),(5,e),(6,f),(7,g),(8,h),(9,i),(10,j),(11,k),(12,m),(13,n),(14,o),(15,p),(16,q),(17,r),(18,s),(30,G),(33,u),(34,v),(35,w),(45,x),(86,y),(105,z)] := by intros; rfl
  refine R_nil (tr ..) ?_; clear tr
  refine then_n ?_
  refine cdd (fun h2 => ?_) (fun h2 => ?_)
  ·
   try simp only [decide_eq_true_eq, decide_eq_false_iff_not, decide_eq_decide, Bool.not_eq_true', Bool.not_eq_false', beq_iff_eq, beq_eq_false_iff_ne, ne_eq, Bool.and_eq_true, Bool.and_eq_false_iff, decide_not] at h2
   refine at_seq rfl ?_
   refine rg rfl ?_
   have hno : ¬ okP l := fun h => by
     have := (okP_parts h).2.1
     rw [← eD] at this
     omega
   refine Rq ?_
   refine A_store ty24 (by simp (disch := first | omega | (simp only [List.length_map, List.length_append, List.length_set, List.length_cons, List.length_nil]; omega)) only [go_sem, ↓reduceIte, Nat.reduceEqDiff, reduceCtorEq] <;> rfl) (by simp (disch := first | omega | (simp only [List.length_map, List.length_append, List.length_set, List.length_cons, List.length_nil]; omega)) only [go_sem, ↓reduceIte, Nat.reduceEqDiff, reduceCtorEq] <;> rfl) q1 ⟨by omega, rfl, Nat.le_refl 2⟩ (k' := [AV.i 0, u6 0]) rfl ?_
   intro H5 w5
   have q5 := w5.new
   refine Rq ?_
   have tr : ∀ a b c d e f g h i j k m n o p q r s t u v w x y z A B : AV, let l := lc_parse_ok a b c d e f g h i j k m n o p q r s t u v w x y z; trim ((3,B)::(31,A)::l) l = [(0,a),(2,b),(3,B),(4,d),(5,e),(6,f),(7,g),(8,h),(9,i),(10,j),(11,k),(12,m),(13,n),(14,o),(15,p),(16,q),(17,r),(18,s),(30,t),(33,u),(34,v),(35,w),(45,x),(86,y),(105,z)] := by intros; rfl
   refine R_nil (tr ..) ?_; clear tr
   refine then_n ?_
   refine at_ret rfl ?_
   refine then_r ?_
   first | (refine fin_pure (rs := [.cell 2 24, .tmp 3]) rfl (by first | (simp (disch := first | omega | (simp only [List.length_map, List.length_append, List.length_set, List.length_cons, List.length_nil]; omega)) only [go_sem, ↓reduceIte, Nat.reduceEqDiff, reduceCtorEq, q5] <;> rfl) | rfl) (by first | rfl | (simp (disch := first | omega | (simp only [List.length_map, List.length_append, List.length_set, List.length_cons, List.length_nil]; omega)) only [go_sem, ↓reduceIte, Nat.reduceEqDiff, reduceCtorEq, q5] <;> rfl)) ?_; refine ⟨?_, rfl⟩; rw [pr_n hno] <;> rfl; done) | (refine fin_pure (rs := [.cell 2 24, .tmp 3]) rfl (by first | (simp (disch := first | omega | (simp only [List.length_map, List.length_append, List.length_set, List.length_cons, List.length_nil]; omega)) only [go_sem, ↓reduceIte, Nat.reduceEqDiff, reduceCtorEq, q5] <;> rfl) | rfl) (by first | rfl | (simp (disch := first | omega | (simp only [List.length_map, List.length_append, List.length_set, List.length_cons, List.length_nil]; omega)) only [go_sem, ↓reduceIte, Nat.reduceEqDiff, reduceCtorEq, q5] <;> rfl)) ?_; refine ⟨?_, rfl⟩; rw [pr_y hok, fS_y hF] <;> rfl)
  ·
   try simp only [decide_eq_true_eq, decide_eq_false_iff_not, decide_eq_decide, Bool.not_eq_true', Bool.not_eq_false', beq_iff_eq, beq_eq_false_iff_ne, ne_eq, Bool.and_eq_true, Bool.and_eq_false_iff, decide_not] at h2
   refine at_skip rfl ?_
   refine then_n ?_
   refine at_seq rfl ?_
   refine rg rfl ?_
   refine Rq ?_
   refine Rq ?_
   have tr : ∀ a b c d e f g h i j k m n o p q r s t u v w x y z A B : AV, let l := lc_parse_ok a b c d e f g h i j k m n o p q r s t u v w x y z; trim ((7,B)::(6,A)::l) l = [(0,a),(2,b),(3,c),(4,d),(5,e),(6,A),(7,B),(8,h),(9,i),(10,j),(11,k),(12,m),(13,n),(14,o),(15,p),(16,q),(17,r),(18,s),(30,t),(33,u),(34,v),(35,w),(45,x),(86,y),(105,z)] := by intros; rfl
   refine R_nil (tr ..) ?_; clear tr
   refine then_n ?_
   refine at_seq rfl ?_
   refine at_seq rfl ?_
   refine rg rfl ?_
   refine Rq ?_
   refine Rq ?_
   refine Rq ?_
   have tr : ∀ a b c d e f g h i j k m n o p q r s t u v w x y z A B C : AV, let l := lc_parse_ok a b c d e f g h i j k m n o p q r s t u v w x y z; trim ((34,C)::(33,B)::(32,A)::l) l = [(0,a),(2,b),(3,c),(4,d),(5,e),(6,f),(7,g),(8,h),(9,i),(10,j),(11,k),(12,m),(13,n),(14,o),(15,p),(16,q),(17,r),(18,s),(30,t),(33,B),(34,C),(35,w),(45,x),(86,y),(105,z)] := by intros; rfl
   refine R_nil (tr ..) ?_; clear tr
   refine then_n ?_
   refine at_block rfl ?_
   refine loop_n rfl (fun mm kv H' => ∃ i : Nat, ∃ hi : Int, ∃ lo : Int, ∃ x3 x8 x9 x10 x11 x12 x13 x14 x15 x16 x35 x45 x86 : AV, (kv = [(3, x3), (6, u6 hi), (7, u6 lo), (8, x8), (9, x9), (10, x10), (11, x11), (12, x12), (13, x13), (14, x14), (15, x15), (16, x16), (34, AV.i (i : Int)), (35, x35), (45, x45), (86, x86)]) ∧ (mm = D.length - i) ∧ (H' = H1) ∧ (i ≤ D.length) ∧ (0 ≤ hi ∧ hi ≤ 18446744073709551615) ∧ (0 ≤ lo ∧ lo ≤ 18446744073709551615) ∧ (((vd (D.take i) : Nat) : Int) = hi * 18446744073709551616 + lo)) ⟨0, 0, 0, _, _, _, _, _, _, _, _, _, _, _, _, _, rfl, rfl, rfl, by omega, by omega, by omega, by rfl⟩ (by rfl) ?_
   rintro mm kv H' ⟨i, hi, lo, x3, x8, x9, x10, x11, x12, x13, x14, x15, x16, x35, x45, x86, rfl, rfl, rfl, hi9, hh, hl, hv⟩
   have tr : ∀ a b c d e f g h i j k m n o p q r s t u v w x y z A B C D E F G H I J K L M N O P : AV, upd [(0,a),(2,b),(3,c),(4,d),(5,e),(6,f),(7,g),(8,h),(9,i),(10,j),(11,k),(12,m),(13,n),(14,o),(15,p),(16,q),(17,r),(18,s),(30,t),(33,u),(34,v),(35,w),(45,x),(86,y),(105,z)] [(3,A),(6,B),(7,C),(8,D),(9,E),(10,F),(11,G),(12,H),(13,I),(14,J),(15,K),(16,L),(34,M),(35,N),(45,O),(86,P)] = [(0,a),(2,b),(3,A),(4,d),(5,e),(6,B),(7,C),(8,D),(9,E),(10,F),(11,G),(12,H),(13,I),(14,J),(15,K),(16,L),(17,r),(18,s),(30,t),(33,u),(34,M),(35,N),(45,O),(86,P),(105,z)] := by intros; rfl
   refine W_to (tr ..) ?_; clear tr
   refine at_seq rfl ?_
   refine rg rfl ?_
   refine Rq ?_
   have tr : ∀ a b c d e f g h i j k m n o p q r s t u v w x y z A : AV, let l := lc_parse_ok a b c d e f g h i j k m n o p q r s t u v w x y z; trim ((35,A)::l) l = [(0,a),(2,b),(3,c),(4,d),(5,e),(6,f),(7,g),(8,h),(9,i),(10,j),(11,k),(12,m),(13,n),(14,o),(15,p),(16,q),(17,r),(18,s),(30,t),(33,u),(34,v),(35,A),(45,x),(86,y),(105,z)] := by intros; rfl
   refine R_nil (tr ..) ?_; clear tr
   refine then_n ?_
   refine at_seq rfl ?_
   refine cdd (fun h3 => ?_) (fun h3 => ?_)
   ·
    try simp only [decide_eq_true_eq, decide_eq_false_iff_not, decide_eq_decide, Bool.not_eq_true', Bool.not_eq_false', beq_iff_eq, beq_eq_false_iff_ne, ne_eq, Bool.and_eq_true, Bool.and_eq_false_iff, decide_not] at h3
    refine at_skip rfl ?_
    refine then_n ?_
    refine at_seq rfl ?_
    refine at_block rfl ?_
    refine at_seq rfl ?_
    refine rg rfl ?_
    refine Rq ?_
    refine Rq ?_
    have tr : ∀ a b c d e f g h i j k m n o p q r s t u v w x y z A B : AV, let l := lc_parse_ok a b c d e f g h i j k m n o p q r s t u v w x y z; trim ((8,B)::(36,A)::l) l = [(0,a),(2,b),(3,c),(4,d),(5,e),(6,f),(7,g),(8,B),(9,i),(10,j),(11,k),(12,m),(13,n),(14,o),(15,p),(16,q),(17,r),(18,s),(30,t),(33,u),(34,v),(35,w),(45,x),(86,y),(105,z)] := by intros; rfl
    refine R_nil (tr ..) ?_; clear tr
    refine then_n ?_
    refine at_seq rfl ?_
    refine rg rfl ?_
    have hiD : i < D.length := by omega
    obtain ⟨c, ec⟩ : ∃ c, c = D[i].toNat := ⟨_, rfl⟩
    have hc256 : c < 256 := by rw [ec]; exact UInt8.toNat_lt _
    have hvt := vd_take D i hiD
    rw [← ec] at hvt
    have hle := vd_le D (i + 1)
    refine Rq ?_
    refine Rq ?_
    refine R_q (r := .v (.int .u8 (c : Int))) rfl (by simp only [go_sem, ↓reduceIte, Nat.reduceEqDiff]; rw [ec]; exact ix_bs D i hiD) ?_
    refine Rq ?_
    have tr : ∀ a b c d e f g h i j k m n o p q r s t u v w x y z A B C D : AV, let l := lc_parse_ok a b c d e f g h i j k m n o p q r s t u v w x y z; trim ((9,D)::(39,C)::(38,B)::(37,A)::l) l = [(0,a),(2,b),(3,c),(4,d),(5,e),(6,f),(7,g),(8,h),(9,D),(10,j),(11,k),(12,m),(13,n),(14,o),(15,p),(16,q),(17,r),(18,s),(30,t),(33,u),(34,v),(35,w),(45,x),(86,y),(105,z)] := by intros; rfl
    refine R_nil (tr ..) ?_; clear tr
    refine then_n ?_
    refine at_seq rfl ?_
    refine at_seq rfl ?_
    refine rg rfl ?_
    refine Rq ?_
    refine Rq ?_
    refine Rq ?_
    refine Rp_split (fun h4 => ?_) (fun h4 => ?_)
    ·
     try simp only [decide_eq_true_eq, decide_eq_false_iff_not, decide_eq_decide, Bool.not_eq_true', Bool.not_eq_false', beq_iff_eq, beq_eq_false_iff_ne, ne_eq, Bool.and_eq_true, Bool.and_eq_false_iff, decide_not] at h4
     refine Rn ?_
     refine Rn ?_
     refine Rq ?_
     have tr : ∀ a b c d e f g h i j k m n o p q r s t u v w x y z A B C D E F : AV, let l := lc_parse_ok a b c d e f g h i j k m n o p q r s t u v w x y z; trim ((45,F)::(44,E)::(43,D)::(42,C)::(41,B)::(40,A)::l) l = [(0,a),(2,b),(3,c),(4,d),(5,e),(6,f),(7,g),(8,h),(9,i),(10,j),(11,k),(12,m),(13,n),(14,o),(15,p),(16,q),(17,r),(18,s),(30,t),(33,u),(34,v),(35,w),(45,F),(86,y),(105,z)] := by intros; rfl
     refine R_nil (tr ..) ?_; clear tr
     refine then_n ?_
     refine cdt ?_
     refine at_seq rfl ?_
     refine rg rfl ?_
     have hno : ¬ okP l := fun h => by
       have := (okP_parts h).2.2.1 D[i] (by rw [← eD]; exact List.getElem_mem _)
       unfold isD at this
       omega
     refine Rq ?_
     refine A_store ty24 (by simp (disch := first | omega | (simp only [List.length_map, List.length_append, List.length_set, List.length_cons, List.length_nil]; omega)) only [go_sem, ↓reduceIte, Nat.reduceEqDiff, reduceCtorEq] <;> rfl) (by simp (disch := first | omega | (simp only [List.length_map, List.length_append, List.length_set, List.length_cons, List.length_nil]; omega)) only [go_sem, ↓reduceIte, Nat.reduceEqDiff, reduceCtorEq] <;> rfl) q1 ⟨by omega, rfl, Nat.le_refl 2⟩ (k' := [AV.i 0, u6 0]) rfl ?_
     intro H5 w5
     have q5 := w5.new
     refine Rq ?_
     have tr : ∀ a b c d e f g h i j k m n o p q r s t u v w x y z A B : AV, let l := lc_parse_ok a b c d e f g h i j k m n o p q r s t u v w x y z; trim ((3,B)::(46,A)::l) l = [(0,a),(2,b),(3,B),(4,d),(5,e),(6,f),(7,g),(8,h),(9,i),(10,j),(11,k),(12,m),(13,n),(14,o),(15,p),(16,q),(17,r),(18,s),(30,t),(33,u),(34,v),(35,w),(45,x),(86,y),(105,z)] := by intros; rfl
     refine R_nil (tr ..) ?_; clear tr
     refine then_n ?_
     refine at_ret rfl ?_
     refine then_r ?_
     refine blk_r ?_
     refine then_r ?_
     refine then_r ?_
     refine blk_r ?_
     refine then_r ?_
     first | (refine fin_pure (rs := [.cell 2 24, .tmp 3]) rfl (by first | (simp (disch := first | omega | (simp only [List.length_map, List.length_append, List.length_set, List.length_cons, List.length_nil]; omega)) only [go_sem, ↓reduceIte, Nat.reduceEqDiff, reduceCtorEq, q5] <;> rfl) | rfl) (by first | rfl | (simp (disch := first | omega | (simp only [List.length_map, List.length_append, List.length_set, List.length_cons, List.length_nil]; omega)) only [go_sem, ↓reduceIte, Nat.reduceEqDiff, reduceCtorEq, q5] <;> rfl)) ?_; refine ⟨?_, rfl⟩; rw [pr_n hno] <;> rfl; done) | (refine fin_pure (rs := [.cell 2 24, .tmp 3]) rfl (by first | (simp (disch := first | omega | (simp only [List.length_map, List.length_append, List.length_set, List.length_cons, List.length_nil]; omega)) only [go_sem, ↓reduceIte, Nat.reduceEqDiff, reduceCtorEq, q5] <;> rfl) | rfl) (by first | rfl | (simp (disch := first | omega | (simp only [List.length_map, List.length_append, List.length_set, List.length_cons, List.length_nil]; omega)) only [go_sem, ↓reduceIte, Nat.reduceEqDiff, reduceCtorEq, q5] <;> rfl)) ?_; refine ⟨?_, rfl⟩; rw [pr_y hok, fS_y hF] <;> rfl)
    ·
     try simp only [decide_eq_true_eq, decide_eq_false_iff_not, decide_eq_decide, Bool.not_eq_true', Bool.not_eq_false', beq_iff_eq, beq_eq_false_iff_ne, ne_eq, Bool.and_eq_true, Bool.and_eq_false_iff, decide_not] at h4
     refine Ry ?_
     refine Rq ?_
     refine Ry ?_
     refine Rq ?_
     refine Rq ?_
     have tr : ∀ a b c d e f g h i j k m n o p q r s t u v w x y z A B C D E F : AV, let l := lc_parse_ok a b c d e f g h i j k m n o p q r s t u v w x y z; trim ((45,F)::(44,E)::(43,D)::(42,C)::(41,B)::(40,A)::l) l = [(0,a),(2,b),(3,c),(4,d),(5,e),(6,f),(7,g),(8,h),(9,i),(10,j),(11,k),(12,m),(13,n),(14,o),(15,p),(16,q),(17,r),(18,s),(30,t),(33,u),(34,v),(35,w),(45,F),(86,y),(105,z)] := by intros; rfl
     refine R_nil (tr ..) ?_; clear tr
     refine then_n ?_
     refine cdd (fun h5 => ?_) (fun h5 => ?_)
     ·
      try simp only [decide_eq_true_eq, decide_eq_false_iff_not, decide_eq_decide, Bool.not_eq_true', Bool.not_eq_false', beq_iff_eq, beq_eq_false_iff_ne, ne_eq, Bool.and_eq_true, Bool.and_eq_false_iff, decide_not] at h5
      refine at_seq rfl ?_
      refine rg rfl ?_
      have hno : ¬ okP l := fun h => by
        have := (okP_parts h).2.2.1 D[i] (by rw [← eD]; exact List.getElem_mem _)
        unfold isD at this
        omega
      refine Rq ?_
      refine A_store ty24 (by simp (disch := first | omega | (simp only [List.length_map, List.length_append, List.length_set, List.length_cons, List.length_nil]; omega)) only [go_sem, ↓reduceIte, Nat.reduceEqDiff, reduceCtorEq] <;> rfl) (by simp (disch := first | omega | (simp only [List.length_map, List.length_append, List.length_set, List.length_cons, List.length_nil]; omega)) only [go_sem, ↓reduceIte, Nat.reduceEqDiff, reduceCtorEq] <;> rfl) q1 ⟨by omega, rfl, Nat.le_refl 2⟩ (k' := [AV.i 0, u6 0]) rfl ?_
      intro H5 w5
      have q5 := w5.new
      refine Rq ?_
      have tr : ∀ a b c d e f g h i j k m n o p q r s t u v w x y z A B : AV, let l := lc_parse_ok a b c d e f g h i j k m n o p q r s t u v w x y z; trim ((3,B)::(46,A)::l) l = [(0,a),(2,b),(3,B),(4,d),(5,e),(6,f),(7,g),(8,h),(9,i),(10,j),(11,k),(12,m),(13,n),(14,o),(15,p),(16,q),(17,r),(18,s),(30,t),(33,u),(34,v),(35,w),(45,x),(86,y),(105,z)] := by intros; rfl
      refine R_nil (tr ..) ?_; clear tr
      refine then_n ?_
      refine at_ret rfl ?_
      refine then_r ?_
      refine blk_r ?_
      refine then_r ?_
      refine then_r ?_
      refine blk_r ?_
      refine then_r ?_
      first | (refine fin_pure (rs := [.cell 2 24, .tmp 3]) rfl (by first | (simp (disch := first | omega | (simp only [List.length_map, List.length_append, List.length_set, List.length_cons, List.length_nil]; omega)) only [go_sem, ↓reduceIte, Nat.reduceEqDiff, reduceCtorEq, q5] <;> rfl) | rfl) (by first | rfl | (simp (disch := first | omega | (simp only [List.length_map, List.length_append, List.length_set, List.length_cons, List.length_nil]; omega)) only [go_sem, ↓reduceIte, Nat.reduceEqDiff, reduceCtorEq, q5] <;> rfl)) ?_; refine ⟨?_, rfl⟩; rw [pr_n hno] <;> rfl; done) | (refine fin_pure (rs := [.cell 2 24, .tmp 3]) rfl (by first | (simp (disch := first | omega | (simp only [List.length_map, List.length_append, List.length_set, List.length_cons, List.length_nil]; omega)) only [go_sem, ↓reduceIte, Nat.reduceEqDiff, reduceCtorEq, q5] <;> rfl) | rfl) (by first | rfl | (simp (disch := first | omega | (simp only [List.length_map, List.length_append, List.length_set, List.length_cons, List.length_nil]; omega)) only [go_sem, ↓reduceIte, Nat.reduceEqDiff, reduceCtorEq, q5] <;> rfl)) ?_; refine ⟨?_, rfl⟩; rw [pr_y hok, fS_y hF] <;> rfl)
     ·
      try simp only [decide_eq_true_eq, decide_eq_false_iff_not, decide_eq_decide, Bool.not_eq_true', Bool.not_eq_false', beq_iff_eq, beq_eq_false_iff_ne, ne_eq, Bool.and_eq_true, Bool.and_eq_false_iff, decide_not] at h5
      refine at_skip rfl ?_
      refine then_n ?_
      refine at_seq rfl ?_
      refine rg rfl ?_
      refine Rq ?_
      refine Rcall ?_
      refine ACall_eq (mul64_ok _ _ _ _ (by omega)) ?_
      refine Rq ?_
      refine Rq ?_
      refine Rq ?_
      refine Rq ?_
      refine Rq ?_
      have tr : ∀ a b c d e f g h i j k m n o p q r s t u v w x y z A B C D E F G : AV, let l := lc_parse_ok a b c d e f g h i j k m n o p q r s t u v w x y z; trim ((11,G)::(10,F)::(51,E)::(50,D)::(47,C)::(49,B)::(48,A)::l) l = [(0,a),(2,b),(3,c),(4,d),(5,e),(6,f),(7,g),(8,h),(9,i),(10,F),(11,G),(12,m),(13,n),(14,o),(15,p),(16,q),(17,r),(18,s),(30,t),(33,u),(34,v),(35,w),(45,x),(86,y),(105,z)] := by intros; rfl
      refine R_nil (tr ..) ?_; clear tr
      refine then_n ?_
      refine at_seq rfl ?_
      refine rg rfl ?_
      refine Rq ?_
      refine Rcall ?_
      refine ACall_eq (mul64_ok _ _ _ _ (by omega)) ?_
      refine Rq ?_
      refine Rq ?_
      refine Rq ?_
      refine Rq ?_
      refine Rq ?_
      have tr : ∀ a b c d e f g h i j k m n o p q r s t u v w x y z A B C D E F G : AV, let l := lc_parse_ok a b c d e f g h i j k m n o p q r s t u v w x y z; trim ((13,G)::(12,F)::(56,E)::(55,D)::(52,C)::(54,B)::(53,A)::l) l = [(0,a),(2,b),(3,c),(4,d),(5,e),(6,f),(7,g),(8,h),(9,i),(10,j),(11,k),(12,F),(13,G),(14,o),(15,p),(16,q),(17,r),(18,s),(30,t),(33,u),(34,v),(35,w),(45,x),(86,y),(105,z)] := by intros; rfl
      refine R_nil (tr ..) ?_; clear tr
      refine then_n ?_
      refine at_seq rfl ?_
      refine rg rfl ?_
      refine Rq ?_
      refine Rq ?_
      refine Rcall ?_
      refine ACall_eq (add64_ok _ _ _ _ _ (by omega)) ?_
      refine Rq ?_
      refine Rq ?_
      refine Rq ?_
      refine Rq ?_
      refine Rq ?_
      have tr : ∀ a b c d e f g h i j k m n o p q r s t u v w x y z A B C D E F G H : AV, let l := lc_parse_ok a b c d e f g h i j k m n o p q r s t u v w x y z; trim ((14,H)::(13,G)::(62,F)::(61,E)::(57,D)::(60,C)::(59,B)::(58,A)::l) l = [(0,a),(2,b),(3,c),(4,d),(5,e),(6,f),(7,g),(8,h),(9,i),(10,j),(11,k),(12,m),(13,G),(14,H),(15,p),(16,q),(17,r),(18,s),(30,t),(33,u),(34,v),(35,w),(45,x),(86,y),(105,z)] := by intros; rfl
      refine R_nil (tr ..) ?_; clear tr
      refine then_n ?_
      refine at_seq rfl ?_
      refine rg rfl ?_
      refine Rq ?_
      refine Rq ?_
      refine Rq ?_
      refine Rq ?_
      refine Rcall ?_
      refine ACall_eq (add64_ok _ _ _ _ _ (by omega)) ?_
      refine Rq ?_
      refine Rq ?_
      refine Rq ?_
      refine Rq ?_
      refine Rq ?_
      have tr : ∀ a b c d e f g h i j k m n o p q r s t u v w x y z A B C D E F G H I J : AV, let l := lc_parse_ok a b c d e f g h i j k m n o p q r s t u v w x y z; trim ((15,J)::(11,I)::(70,H)::(69,G)::(63,F)::(68,E)::(67,D)::(66,C)::(65,B)::(64,A)::l) l = [(0,a),(2,b),(3,c),(4,d),(5,e),(6,f),(7,g),(8,h),(9,i),(10,j),(11,I),(12,m),(13,n),(14,o),(15,J),(16,q),(17,r),(18,s),(30,t),(33,u),(34,v),(35,w),(45,x),(86,y),(105,z)] := by intros; rfl
      refine R_nil (tr ..) ?_; clear tr
      refine then_n ?_
      refine at_seq rfl ?_
      refine rg rfl ?_
      refine Rq ?_
      refine Rq ?_
      refine Rcall ?_
      refine ACall_eq (add64_ok _ _ _ _ _ (by omega)) ?_
      refine Rq ?_
      refine Rq ?_
      refine Rq ?_
      refine Rq ?_
      refine Rq ?_
      have tr : ∀ a b c d e f g h i j k m n o p q r s t u v w x y z A B C D E F G H : AV, let l := lc_parse_ok a b c d e f g h i j k m n o p q r s t u v w x y z; trim ((16,H)::(13,G)::(76,F)::(75,E)::(71,D)::(74,C)::(73,B)::(72,A)::l) l = [(0,a),(2,b),(3,c),(4,d),(5,e),(6,f),(7,g),(8,h),(9,i),(10,j),(11,k),(12,m),(13,G),(14,o),(15,p),(16,H),(17,r),(18,s),(30,t),(33,u),(34,v),(35,w),(45,x),(86,y),(105,z)] := by intros; rfl
      refine R_nil (tr ..) ?_; clear tr
      refine then_n ?_
      refine at_seq rfl ?_
      refine at_seq rfl ?_
      refine rg rfl ?_
      have hps := ps_step (hi := hi) (lo := lo) (d := (c : Int) - 48) (by omega) (by omega) (by omega)
      obtain ⟨p9, e_p9⟩ : ∃ z, z = ((hi * 10 % 18446744073709551616 + lo * 10 / 18446744073709551616 + 0) % 18446744073709551616 + 0 + (lo * 10 % 18446744073709551616 + ((c : Int) - 48) + 0) / 18446744073709551616) / 18446744073709551616 := ⟨_, rfl⟩
      rw [← e_p9] at hps ⊢
      clear e_p9
      obtain ⟨h2, e_h2⟩ : ∃ z, z = ((hi * 10 % 18446744073709551616 + lo * 10 / 18446744073709551616 + 0) % 18446744073709551616 + 0 + (lo * 10 % 18446744073709551616 + ((c : Int) - 48) + 0) / 18446744073709551616) % 18446744073709551616 := ⟨_, rfl⟩
      rw [← e_h2] at hps ⊢
      clear e_h2
      obtain ⟨l2, e_l2⟩ : ∃ z, z = (lo * 10 % 18446744073709551616 + ((c : Int) - 48) + 0) % 18446744073709551616 := ⟨_, rfl⟩
      rw [← e_l2] at hps ⊢
      clear e_l2
      obtain ⟨n9, e_n9⟩ : ∃ z, z = (hi * 10 % 18446744073709551616 + lo * 10 / 18446744073709551616 + 0) / 18446744073709551616 := ⟨_, rfl⟩
      rw [← e_n9] at hps ⊢
      clear e_n9
      obtain ⟨m9, e_m9⟩ : ∃ z, z = hi * 10 / 18446744073709551616 := ⟨_, rfl⟩
      rw [← e_m9] at hps ⊢
      clear e_m9
      refine Rq ?_
      refine Rq ?_
      refine Rq ?_
      refine Rp_split (fun h6 => ?_) (fun h6 => ?_)
      ·
       try simp only [decide_eq_true_eq, decide_eq_false_iff_not, decide_eq_decide, Bool.not_eq_true', Bool.not_eq_false', beq_iff_eq, beq_eq_false_iff_ne, ne_eq, Bool.and_eq_true, Bool.and_eq_false_iff, decide_not] at h6
       refine Rn ?_
       refine Rn ?_
       refine Rq ?_
       refine Rq ?_
       refine Rn ?_
       refine Rn ?_
       refine Rq ?_
       have tr : ∀ a b c d e f g h i j k m n o p q r s t u v w x y z A B C D E F G H I J : AV, let l := lc_parse_ok a b c d e f g h i j k m n o p q r s t u v w x y z; trim ((86,J)::(85,I)::(84,H)::(83,G)::(82,F)::(81,E)::(80,D)::(79,C)::(78,B)::(77,A)::l) l = [(0,a),(2,b),(3,c),(4,d),(5,e),(6,f),(7,g),(8,h),(9,i),(10,j),(11,k),(12,m),(13,n),(14,o),(15,p),(16,q),(17,r),(18,s),(30,t),(33,u),(34,v),(35,w),(45,x),(86,J),(105,z)] := by intros; rfl
       refine R_nil (tr ..) ?_; clear tr
       refine then_n ?_
       refine cdt ?_
       refine at_seq rfl ?_
       refine rg rfl ?_
       have hno : ¬ okP l := fun h => by
         have := okP_val h
         rw [← eD] at this
         omega
       refine Rq ?_
       refine A_store ty24 (by simp (disch := first | omega | (simp only [List.length_map, List.length_append, List.length_set, List.length_cons, List.length_nil]; omega)) only [go_sem, ↓reduceIte, Nat.reduceEqDiff, reduceCtorEq] <;> rfl) (by simp (disch := first | omega | (simp only [List.length_map, List.length_append, List.length_set, List.length_cons, List.length_nil]; omega)) only [go_sem, ↓reduceIte, Nat.reduceEqDiff, reduceCtorEq] <;> rfl) q1 ⟨by omega, rfl, Nat.le_refl 2⟩ (k' := [AV.i 0, u6 0]) rfl ?_
       intro H5 w5
       have q5 := w5.new
       refine Rq ?_
       have tr : ∀ a b c d e f g h i j k m n o p q r s t u v w x y z A B : AV, let l := lc_parse_ok a b c d e f g h i j k m n o p q r s t u v w x y z; trim ((3,B)::(87,A)::l) l = [(0,a),(2,b),(3,B),(4,d),(5,e),(6,f),(7,g),(8,h),(9,i),(10,j),(11,k),(12,m),(13,n),(14,o),(15,p),(16,q),(17,r),(18,s),(30,t),(33,u),(34,v),(35,w),(45,x),(86,y),(105,z)] := by intros; rfl
       refine R_nil (tr ..) ?_; clear tr
       refine then_n ?_
       refine at_ret rfl ?_
       refine then_r ?_
       refine blk_r ?_
       refine then_r ?_
       refine then_r ?_
       refine blk_r ?_
       refine then_r ?_
       first | (refine fin_pure (rs := [.cell 2 24, .tmp 3]) rfl (by first | (simp (disch := first | omega | (simp only [List.length_map, List.length_append, List.length_set, List.length_cons, List.length_nil]; omega)) only [go_sem, ↓reduceIte, Nat.reduceEqDiff, reduceCtorEq, q5] <;> rfl) | rfl) (by first | rfl | (simp (disch := first | omega | (simp only [List.length_map, List.length_append, List.length_set, List.length_cons, List.length_nil]; omega)) only [go_sem, ↓reduceIte, Nat.reduceEqDiff, reduceCtorEq, q5] <;> rfl)) ?_; refine ⟨?_, rfl⟩; rw [pr_n hno] <;> rfl; done) | (refine fin_pure (rs := [.cell 2 24, .tmp 3]) rfl (by first | (simp (disch := first | omega | (simp only [List.length_map, List.length_append, List.length_set, List.length_cons, List.length_nil]; omega)) only [go_sem, ↓reduceIte, Nat.reduceEqDiff, reduceCtorEq, q5] <;> rfl) | rfl) (by first | rfl | (simp (disch := first | omega | (simp only [List.length_map, List.length_append, List.length_set, List.length_cons, List.length_nil]; omega)) only [go_sem, ↓reduceIte, Nat.reduceEqDiff, reduceCtorEq, q5] <;> rfl)) ?_; refine ⟨?_, rfl⟩; rw [pr_y hok, fS_y hF] <;> rfl)
      ·
       try simp only [decide_eq_true_eq, decide_eq_false_iff_not, decide_eq_decide, Bool.not_eq_true', Bool.not_eq_false', beq_iff_eq, beq_eq_false_iff_ne, ne_eq, Bool.and_eq_true, Bool.and_eq_false_iff, decide_not] at h6
       refine Ry ?_
       refine Rq ?_
       refine Ry ?_
       refine Rq ?_
       refine Rq ?_
       refine Rq ?_
       refine Rp_split (fun h7 => ?_) (fun h7 => ?_)
       ·
        try simp only [decide_eq_true_eq, decide_eq_false_iff_not, decide_eq_decide, Bool.not_eq_true', Bool.not_eq_false', beq_iff_eq, beq_eq_false_iff_ne, ne_eq, Bool.and_eq_true, Bool.and_eq_false_iff, decide_not] at h7
        refine Rn ?_
        refine Rn ?_
        refine Rq ?_
        have tr : ∀ a b c d e f g h i j k m n o p q r s t u v w x y z A B C D E F G H I J : AV, let l := lc_parse_ok a b c d e f g h i j k m n o p q r s t u v w x y z; trim ((86,J)::(85,I)::(84,H)::(83,G)::(82,F)::(81,E)::(80,D)::(79,C)::(78,B)::(77,A)::l) l = [(0,a),(2,b),(3,c),(4,d),(5,e),(6,f),(7,g),(8,h),(9,i),(10,j),(11,k),(12,m),(13,n),(14,o),(15,p),(16,q),(17,r),(18,s),(30,t),(33,u),(34,v),(35,w),(45,x),(86,J),(105,z)] := by intros; rfl
        refine R_nil (tr ..) ?_; clear tr
        refine then_n ?_
        refine cdt ?_
        refine at_seq rfl ?_
        refine rg rfl ?_
        have hno : ¬ okP l := fun h => by
          have := okP_val h
          rw [← eD] at this
          omega
        refine Rq ?_
        refine A_store ty24 (by simp (disch := first | omega | (simp only [List.length_map, List.length_append, List.length_set, List.length_cons, List.length_nil]; omega)) only [go_sem, ↓reduceIte, Nat.reduceEqDiff, reduceCtorEq] <;> rfl) (by simp (disch := first | omega | (simp only [List.length_map, List.length_append, List.length_set, List.length_cons, List.length_nil]; omega)) only [go_sem, ↓reduceIte, Nat.reduceEqDiff, reduceCtorEq] <;> rfl) q1 ⟨by omega, rfl, Nat.le_refl 2⟩ (k' := [AV.i 0, u6 0]) rfl ?_
        intro H5 w5
        have q5 := w5.new
        refine Rq ?_
        have tr : ∀ a b c d e f g h i j k m n o p q r s t u v w x y z A B : AV, let l := lc_parse_ok a b c d e f g h i j k m n o p q r s t u v w x y z; trim ((3,B)::(87,A)::l) l = [(0,a),(2,b),(3,B),(4,d),(5,e),(6,f),(7,g),(8,h),(9,i),(10,j),(11,k),(12,m),(13,n),(14,o),(15,p),(16,q),(17,r),(18,s),(30,t),(33,u),(34,v),(35,w),(45,x),(86,y),(105,z)] := by intros; rfl
        refine R_nil (tr ..) ?_; clear tr
        refine then_n ?_
        refine at_ret rfl ?_
        refine then_r ?_
        refine blk_r ?_
        refine then_r ?_
        refine then_r ?_
        refine blk_r ?_
        refine then_r ?_
        first | (refine fin_pure (rs := [.cell 2 24, .tmp 3]) rfl (by first | (simp (disch := first | omega | (simp only [List.length_map, List.length_append, List.length_set, List.length_cons, List.length_nil]; omega)) only [go_sem, ↓reduceIte, Nat.reduceEqDiff, reduceCtorEq, q5] <;> rfl) | rfl) (by first | rfl | (simp (disch := first | omega | (simp only [List.length_map, List.length_append, List.length_set, List.length_cons, List.length_nil]; omega)) only [go_sem, ↓reduceIte, Nat.reduceEqDiff, reduceCtorEq, q5] <;> rfl)) ?_; refine ⟨?_, rfl⟩; rw [pr_n hno] <;> rfl; done) | (refine fin_pure (rs := [.cell 2 24, .tmp 3]) rfl (by first | (simp (disch := first | omega | (simp only [List.length_map, List.length_append, List.length_set, List.length_cons, List.length_nil]; omega)) only [go_sem, ↓reduceIte, Nat.reduceEqDiff, reduceCtorEq, q5] <;> rfl) | rfl) (by first | rfl | (simp (disch := first | omega | (simp only [List.length_map, List.length_append, List.length_set, List.length_cons, List.length_nil]; omega)) only [go_sem, ↓reduceIte, Nat.reduceEqDiff, reduceCtorEq, q5] <;> rfl)) ?_; refine ⟨?_, rfl⟩; rw [pr_y hok, fS_y hF] <;> rfl)
       ·
        try simp only [decide_eq_true_eq, decide_eq_false_iff_not, decide_eq_decide, Bool.not_eq_true', Bool.not_eq_false', beq_iff_eq, beq_eq_false_iff_ne, ne_eq, Bool.and_eq_true, Bool.and_eq_false_iff, decide_not] at h7
        refine Ry ?_
        refine Rq ?_
        refine Ry ?_
        refine Rq ?_
        refine Rq ?_
        have tr : ∀ a b c d e f g h i j k m n o p q r s t u v w x y z A B C D E F G H I J : AV, let l := lc_parse_ok a b c d e f g h i j k m n o p q r s t u v w x y z; trim ((86,J)::(85,I)::(84,H)::(83,G)::(82,F)::(81,E)::(80,D)::(79,C)::(78,B)::(77,A)::l) l = [(0,a),(2,b),(3,c),(4,d),(5,e),(6,f),(7,g),(8,h),(9,i),(10,j),(11,k),(12,m),(13,n),(14,o),(15,p),(16,q),(17,r),(18,s),(30,t),(33,u),(34,v),(35,w),(45,x),(86,J),(105,z)] := by intros; rfl
        refine R_nil (tr ..) ?_; clear tr
        refine then_n ?_
        refine cdd (fun h8 => ?_) (fun h8 => ?_)
        ·
         try simp only [decide_eq_true_eq, decide_eq_false_iff_not, decide_eq_decide, Bool.not_eq_true', Bool.not_eq_false', beq_iff_eq, beq_eq_false_iff_ne, ne_eq, Bool.and_eq_true, Bool.and_eq_false_iff, decide_not] at h8
         refine at_seq rfl ?_
         refine rg rfl ?_
         have hno : ¬ okP l := fun h => by
           have := okP_val h
           rw [← eD] at this
           omega
         refine Rq ?_
         refine A_store ty24 (by simp (disch := first | omega | (simp only [List.length_map, List.length_append, List.length_set, List.length_cons, List.length_nil]; omega)) only [go_sem, ↓reduceIte, Nat.reduceEqDiff, reduceCtorEq] <;> rfl) (by simp (disch := first | omega | (simp only [List.length_map, List.length_append, List.length_set, List.length_cons, List.length_nil]; omega)) only [go_sem, ↓reduceIte, Nat.reduceEqDiff, reduceCtorEq] <;> rfl) q1 ⟨by omega, rfl, Nat.le_refl 2⟩ (k' := [AV.i 0, u6 0]) rfl ?_
         intro H5 w5
         have q5 := w5.new
         refine Rq ?_
         have tr : ∀ a b c d e f g h i j k m n o p q r s t u v w x y z A B : AV, let l := lc_parse_ok a b c d e f g h i j k m n o p q r s t u v w x y z; trim ((3,B)::(87,A)::l) l = [(0,a),(2,b),(3,B),(4,d),(5,e),(6,f),(7,g),(8,h),(9,i),(10,j),(11,k),(12,m),(13,n),(14,o),(15,p),(16,q),(17,r),(18,s),(30,t),(33,u),(34,v),(35,w),(45,x),(86,y),(105,z)] := by intros; rfl
         refine R_nil (tr ..) ?_; clear tr
         refine then_n ?_
         refine at_ret rfl ?_
         refine then_r ?_
         refine blk_r ?_
         refine then_r ?_
         refine then_r ?_
         refine blk_r ?_
         refine then_r ?_
         first | (refine fin_pure (rs := [.cell 2 24, .tmp 3]) rfl (by first | (simp (disch := first | omega | (simp only [List.length_map, List.length_append, List.length_set, List.length_cons, List.length_nil]; omega)) only [go_sem, ↓reduceIte, Nat.reduceEqDiff, reduceCtorEq, q5] <;> rfl) | rfl) (by first | rfl | (simp (disch := first | omega | (simp only [List.length_map, List.length_append, List.length_set, List.length_cons, List.length_nil]; omega)) only [go_sem, ↓reduceIte, Nat.reduceEqDiff, reduceCtorEq, q5] <;> rfl)) ?_; refine ⟨?_, rfl⟩; rw [pr_n hno] <;> rfl; done) | (refine fin_pure (rs := [.cell 2 24, .tmp 3]) rfl (by first | (simp (disch := first | omega | (simp only [List.length_map, List.length_append, List.length_set, List.length_cons, List.length_nil]; omega)) only [go_sem, ↓reduceIte, Nat.reduceEqDiff, reduceCtorEq, q5] <;> rfl) | rfl) (by first | rfl | (simp (disch := first | omega | (simp only [List.length_map, List.length_append, List.length_set, List.length_cons, List.length_nil]; omega)) only [go_sem, ↓reduceIte, Nat.reduceEqDiff, reduceCtorEq, q5] <;> rfl)) ?_; refine ⟨?_, rfl⟩; rw [pr_y hok, fS_y hF] <;> rfl)
        ·
         try simp only [decide_eq_true_eq, decide_eq_false_iff_not, decide_eq_decide, Bool.not_eq_true', Bool.not_eq_false', beq_iff_eq, beq_eq_false_iff_ne, ne_eq, Bool.and_eq_true, Bool.and_eq_false_iff, decide_not] at h8
         refine at_skip rfl ?_
         refine then_n ?_
         refine rg rfl ?_
         refine Rq ?_
         refine Rq ?_
         refine Rq ?_
         refine Rq ?_
         have tr : ∀ a b c d e f g h i j k m n o p q r s t u v w x y z A B C D : AV, let l := lc_parse_ok a b c d e f g h i j k m n o p q r s t u v w x y z; trim ((7,D)::(6,C)::(89,B)::(88,A)::l) l = [(0,a),(2,b),(3,c),(4,d),(5,e),(6,C),(7,D),(8,h),(9,i),(10,j),(11,k),(12,m),(13,n),(14,o),(15,p),(16,q),(17,r),(18,s),(30,t),(33,u),(34,v),(35,w),(45,x),(86,y),(105,z)] := by intros; rfl
         refine R_nil (tr ..) ?_; clear tr
         refine blk_n ?_
         refine then_n ?_
         refine rg rfl ?_
         refine Rq ?_
         refine Rq ?_
         have tr : ∀ a b c d e f g h i j k m n o p q r s t u v w x y z A B : AV, let l := lc_parse_ok a b c d e f g h i j k m n o p q r s t u v w x y z; trim ((34,B)::(90,A)::l) l = [(0,a),(2,b),(3,c),(4,d),(5,e),(6,f),(7,g),(8,h),(9,i),(10,j),(11,k),(12,m),(13,n),(14,o),(15,p),(16,q),(17,r),(18,s),(30,t),(33,u),(34,B),(35,w),(45,x),(86,y),(105,z)] := by intros; rfl
         refine R_nil (tr ..) ?_; clear tr
         refine then_n ?_
         exact ⟨_, _, ⟨i + 1, h2, l2, _, _, _, _, _, _, _, _, _, _, _, _, _, rfl, rfl, rfl, by omega, by omega, by omega, by omega⟩, by rfl, by omega⟩
   ·
    try simp only [decide_eq_true_eq, decide_eq_false_iff_not, decide_eq_decide, Bool.not_eq_true', Bool.not_eq_false', beq_iff_eq, beq_eq_false_iff_ne, ne_eq, Bool.and_eq_true, Bool.and_eq_false_iff, decide_not] at h3
    refine at_exit rfl ?_
    refine then_x ?_
    refine then_x ?_
    refine blk_x ?_
    refine then_n ?_
    refine at_seq rfl ?_
    refine rg rfl ?_
    have hDe : D.take i = D := List.take_of_length_le (by omega)
    rw [hDe] at hv
    have hpv : sg (Lib.hasPrefix l [45]) (hi * 18446744073709551616 + lo) = pv l := by rw [pv, ← eD, hv]; rfl
    refine Rq ?_
    refine Rq ?_
    refine Rq ?_
    refine Rcall ?_
    refine ACall_eq (made_ok _ _ hi lo (by omega) (by omega) _) ?_
    rewrite [hpv]
    refine Rq ?_
    refine Rq ?_
    refine Rq ?_
    refine A_alloc rfl ?_
    intro H2 n2
    have en2 := n2.len
    have q1 := (n2.old _ (hget_lt q1)).trans q1
    have q2 := n2.new
    have q2 : hget H2 (List.length H') = some [AV.i 0, u6 0] := q2
    have lq2 := hget_lt q2
    refine A_store ty24 (by simp (disch := first | omega | (simp only [List.length_map, List.length_append, List.length_set, List.length_cons, List.length_nil]; omega)) only [go_sem, ↓reduceIte, Nat.reduceEqDiff, reduceCtorEq] <;> rfl) (by simp (disch := first | omega | (simp only [List.length_map, List.length_append, List.length_set, List.length_cons, List.length_nil]; omega)) only [go_sem, ↓reduceIte, Nat.reduceEqDiff, reduceCtorEq] <;> rfl) q2 ⟨by omega, rfl, Nat.le_refl 2⟩ (k' := [AV.i ((fS (pv l)).1 / 18446744073709551616), u6 ((fS (pv l)).1 % 18446744073709551616)]) rfl ?_
    intro H3 w3
    have q2 := w3.new
    have q1 := (w3.old _ (by omega)).trans q1
    have lq1 := hget_lt q1
    refine Rq ?_
    have tr : ∀ a b c d e f g h i j k m n o p q r s t u v w x y z A B C D E F G H I : AV, let l := lc_parse_ok a b c d e f g h i j k m n o p q r s t u v w x y z; trim ((18,I)::(17,H)::(97,G)::(96,F)::(91,E)::(95,D)::(94,C)::(93,B)::(92,A)::l) l = [(0,a),(2,b),(3,c),(4,d),(5,e),(6,f),(7,g),(8,h),(9,i),(10,j),(11,k),(12,m),(13,n),(14,o),(15,p),(16,q),(17,H),(18,I),(30,t),(33,u),(34,v),(35,w),(45,x),(86,y),(105,z)] := by intros; rfl
    refine R_nil (tr ..) ?_; clear tr
    refine then_n ?_
    refine at_seq rfl ?_
    refine at_seq rfl ?_
    refine rg rfl ?_
    refine Rq ?_
    refine Rq ?_
    refine Rq ?_
    refine Rp_split (fun h9 => ?_) (fun h9 => ?_)
    ·
     try simp only [decide_eq_true_eq, decide_eq_false_iff_not, decide_eq_decide, Bool.not_eq_true', Bool.not_eq_false', beq_iff_eq, beq_eq_false_iff_ne, ne_eq, Bool.and_eq_true, Bool.and_eq_false_iff, decide_not] at h9
     refine Rn ?_
     refine Rn ?_
     refine Rn ?_
     refine Rn ?_
     refine Rq ?_
     have tr : ∀ a b c d e f g h i j k m n o p q r s t u v w x y z A B C D E F G H : AV, let l := lc_parse_ok a b c d e f g h i j k m n o p q r s t u v w x y z; trim ((105,H)::(104,G)::(103,F)::(102,E)::(101,D)::(100,C)::(99,B)::(98,A)::l) l = [(0,a),(2,b),(3,c),(4,d),(5,e),(6,f),(7,g),(8,h),(9,i),(10,j),(11,k),(12,m),(13,n),(14,o),(15,p),(16,q),(17,r),(18,s),(30,t),(33,u),(34,v),(35,w),(45,x),(86,y),(105,H)] := by intros; rfl
     refine R_nil (tr ..) ?_; clear tr
     refine then_n ?_
     refine cdt ?_
     refine at_seq rfl ?_
     refine rg rfl ?_
     have hno : ¬ okP l := fun h => fS_2f (n := pv l) (by assumption) h.1
     refine Rq ?_
     refine A_store ty24 (by simp (disch := first | omega | (simp only [List.length_map, List.length_append, List.length_set, List.length_cons, List.length_nil]; omega)) only [go_sem, ↓reduceIte, Nat.reduceEqDiff, reduceCtorEq] <;> rfl) (by simp (disch := first | omega | (simp only [List.length_map, List.length_append, List.length_set, List.length_cons, List.length_nil]; omega)) only [go_sem, ↓reduceIte, Nat.reduceEqDiff, reduceCtorEq] <;> rfl) q1 ⟨by omega, rfl, Nat.le_refl 2⟩ (k' := [AV.i 0, u6 0]) rfl ?_
     intro H5 w5
     have q5 := w5.new
     refine Rq ?_
     have tr : ∀ a b c d e f g h i j k m n o p q r s t u v w x y z A B : AV, let l := lc_parse_ok a b c d e f g h i j k m n o p q r s t u v w x y z; trim ((3,B)::(106,A)::l) l = [(0,a),(2,b),(3,B),(4,d),(5,e),(6,f),(7,g),(8,h),(9,i),(10,j),(11,k),(12,m),(13,n),(14,o),(15,p),(16,q),(17,r),(18,s),(30,t),(33,u),(34,v),(35,w),(45,x),(86,y),(105,z)] := by intros; rfl
     refine R_nil (tr ..) ?_; clear tr
     refine then_n ?_
     refine at_ret rfl ?_
     refine then_r ?_
     first | (refine fin_pure (rs := [.cell 2 24, .tmp 3]) rfl (by first | (simp (disch := first | omega | (simp only [List.length_map, List.length_append, List.length_set, List.length_cons, List.length_nil]; omega)) only [go_sem, ↓reduceIte, Nat.reduceEqDiff, reduceCtorEq, q5] <;> rfl) | rfl) (by first | rfl | (simp (disch := first | omega | (simp only [List.length_map, List.length_append, List.length_set, List.length_cons, List.length_nil]; omega)) only [go_sem, ↓reduceIte, Nat.reduceEqDiff, reduceCtorEq, q5] <;> rfl)) ?_; refine ⟨?_, rfl⟩; rw [pr_n hno] <;> rfl; done) | (refine fin_pure (rs := [.cell 2 24, .tmp 3]) rfl (by first | (simp (disch := first | omega | (simp only [List.length_map, List.length_append, List.length_set, List.length_cons, List.length_nil]; omega)) only [go_sem, ↓reduceIte, Nat.reduceEqDiff, reduceCtorEq, q5] <;> rfl) | rfl) (by first | rfl | (simp (disch := first | omega | (simp only [List.length_map, List.length_append, List.length_set, List.length_cons, List.length_nil]; omega)) only [go_sem, ↓reduceIte, Nat.reduceEqDiff, reduceCtorEq, q5] <;> rfl)) ?_; refine ⟨?_, rfl⟩; rw [pr_y hok, fS_y hF] <;> rfl)
    ·
     try simp only [decide_eq_true_eq, decide_eq_false_iff_not, decide_eq_decide, Bool.not_eq_true', Bool.not_eq_false', beq_iff_eq, beq_eq_false_iff_ne, ne_eq, Bool.and_eq_true, Bool.and_eq_false_iff, decide_not] at h9
     refine Ry ?_
     refine R_q rfl (by simp (disch := first | omega | (simp only [List.length_map, List.length_append, List.length_set, List.length_cons, List.length_nil]; omega)) only [go_sem, ↓reduceIte, Nat.reduceEqDiff, reduceCtorEq, q2]; rfl) ?_
     refine Ry ?_
     refine Rcall ?_
     refine ACall_eq (text_ok _ _ _ (fS_F _)) ?_
     refine Ry ?_
     refine Rq ?_
     refine Ry ?_
     refine Rq ?_
     refine Rq ?_
     have tr : ∀ a b c d e f g h i j k m n o p q r s t u v w x y z A B C D E F G H : AV, let l := lc_parse_ok a b c d e f g h i j k m n o p q r s t u v w x y z; trim ((105,H)::(104,G)::(103,F)::(102,E)::(101,D)::(100,C)::(99,B)::(98,A)::l) l = [(0,a),(2,b),(3,c),(4,d),(5,e),(6,f),(7,g),(8,h),(9,i),(10,j),(11,k),(12,m),(13,n),(14,o),(15,p),(16,q),(17,r),(18,s),(30,t),(33,u),(34,v),(35,w),(45,x),(86,y),(105,H)] := by intros; rfl
     refine R_nil (tr ..) ?_; clear tr
     refine then_n ?_
     refine cdd (fun h10 => ?_) (fun h10 => ?_)
     ·
      try simp only [decide_eq_true_eq, decide_eq_false_iff_not, decide_eq_decide, Bool.not_eq_true', Bool.not_eq_false', beq_iff_eq, beq_eq_false_iff_ne, ne_eq, Bool.and_eq_true, Bool.and_eq_false_iff, decide_not] at h10
      refine at_seq rfl ?_
      refine rg rfl ?_
      have hno : ¬ okP l := fun h => by
        have h1 : ¬ txW (fS (pv l)).1 = l := by assumption
        rw [fS_y h.1] at h1
        exact h1 h.2
      refine Rq ?_
      refine A_store ty24 (by simp (disch := first | omega | (simp only [List.length_map, List.length_append, List.length_set, List.length_cons, List.length_nil]; omega)) only [go_sem, ↓reduceIte, Nat.reduceEqDiff, reduceCtorEq] <;> rfl) (by simp (disch := first | omega | (simp only [List.length_map, List.length_append, List.length_set, List.length_cons, List.length_nil]; omega)) only [go_sem, ↓reduceIte, Nat.reduceEqDiff, reduceCtorEq] <;> rfl) q1 ⟨by omega, rfl, Nat.le_refl 2⟩ (k' := [AV.i 0, u6 0]) rfl ?_
      intro H5 w5
      have q5 := w5.new
      refine Rq ?_
      have tr : ∀ a b c d e f g h i j k m n o p q r s t u v w x y z A B : AV, let l := lc_parse_ok a b c d e f g h i j k m n o p q r s t u v w x y z; trim ((3,B)::(106,A)::l) l = [(0,a),(2,b),(3,B),(4,d),(5,e),(6,f),(7,g),(8,h),(9,i),(10,j),(11,k),(12,m),(13,n),(14,o),(15,p),(16,q),(17,r),(18,s),(30,t),(33,u),(34,v),(35,w),(45,x),(86,y),(105,z)] := by intros; rfl
      refine R_nil (tr ..) ?_; clear tr
      refine then_n ?_
      refine at_ret rfl ?_
      refine then_r ?_
      first | (refine fin_pure (rs := [.cell 2 24, .tmp 3]) rfl (by first | (simp (disch := first | omega | (simp only [List.length_map, List.length_append, List.length_set, List.length_cons, List.length_nil]; omega)) only [go_sem, ↓reduceIte, Nat.reduceEqDiff, reduceCtorEq, q5] <;> rfl) | rfl) (by first | rfl | (simp (disch := first | omega | (simp only [List.length_map, List.length_append, List.length_set, List.length_cons, List.length_nil]; omega)) only [go_sem, ↓reduceIte, Nat.reduceEqDiff, reduceCtorEq, q5] <;> rfl)) ?_; refine ⟨?_, rfl⟩; rw [pr_n hno] <;> rfl; done) | (refine fin_pure (rs := [.cell 2 24, .tmp 3]) rfl (by first | (simp (disch := first | omega | (simp only [List.length_map, List.length_append, List.length_set, List.length_cons, List.length_nil]; omega)) only [go_sem, ↓reduceIte, Nat.reduceEqDiff, reduceCtorEq, q5] <;> rfl) | rfl) (by first | rfl | (simp (disch := first | omega | (simp only [List.length_map, List.length_append, List.length_set, List.length_cons, List.length_nil]; omega)) only [go_sem, ↓reduceIte, Nat.reduceEqDiff, reduceCtorEq, q5] <;> rfl)) ?_; refine ⟨?_, rfl⟩; rw [pr_y hok, fS_y hF] <;> rfl)
     ·
      try simp only [decide_eq_true_eq, decide_eq_false_iff_not, decide_eq_decide, Bool.not_eq_true', Bool.not_eq_false', beq_iff_eq, beq_eq_false_iff_ne, ne_eq, Bool.and_eq_true, Bool.and_eq_false_iff, decide_not] at h10
      refine at_skip rfl ?_
      refine then_n ?_
      refine at_seq rfl ?_
      refine rg rfl ?_
      have hF : Fw (pv l) := fS_2t (n := pv l) (by assumption)
      have hok : okP l := by
        have h1 : txW (fS (pv l)).1 = l := by assumption
        rw [fS_y hF] at h1
        exact ⟨hF, h1⟩
      refine R_q rfl (by simp (disch := first | omega | (simp only [List.length_map, List.length_append, List.length_set, List.length_cons, List.length_nil]; omega)) only [go_sem, ↓reduceIte, Nat.reduceEqDiff, reduceCtorEq, q2]; rfl) ?_
      refine A_store ty24 (by simp (disch := first | omega | (simp only [List.length_map, List.length_append, List.length_set, List.length_cons, List.length_nil]; omega)) only [go_sem, ↓reduceIte, Nat.reduceEqDiff, reduceCtorEq] <;> rfl) (by simp (disch := first | omega | (simp only [List.length_map, List.length_append, List.length_set, List.length_cons, List.length_nil]; omega)) only [go_sem, ↓reduceIte, Nat.reduceEqDiff, reduceCtorEq] <;> rfl) q1 ⟨by omega, rfl, Nat.le_refl 2⟩ (k' := [AV.i ((fS (pv l)).1 / 18446744073709551616), u6 ((fS (pv l)).1 % 18446744073709551616)]) rfl ?_
      intro H5 w5
      have q5 := w5.new
      refine Rq ?_
      have tr : ∀ a b c d e f g h i j k m n o p q r s t u v w x y z A B : AV, let l := lc_parse_ok a b c d e f g h i j k m n o p q r s t u v w x y z; trim ((3,B)::(107,A)::l) l = [(0,a),(2,b),(3,B),(4,d),(5,e),(6,f),(7,g),(8,h),(9,i),(10,j),(11,k),(12,m),(13,n),(14,o),(15,p),(16,q),(17,r),(18,s),(30,t),(33,u),(34,v),(35,w),(45,x),(86,y),(105,z)] := by intros; rfl
      refine R_nil (tr ..) ?_; clear tr
      refine then_n ?_
      refine at_ret rfl ?_
      first | (refine fin_pure (rs := [.cell 2 24, .tmp 3]) rfl (by first | (simp (disch := first | omega | (simp only [List.length_map, List.length_append, List.length_set, List.length_cons, List.length_nil]; omega)) only [go_sem, ↓reduceIte, Nat.reduceEqDiff, reduceCtorEq, q5] <;> rfl) | rfl) (by first | rfl | (simp (disch := first | omega | (simp only [List.length_map, List.length_append, List.length_set, List.length_cons, List.length_nil]; omega)) only [go_sem, ↓reduceIte, Nat.reduceEqDiff, reduceCtorEq, q5] <;> rfl)) ?_; refine ⟨?_, rfl⟩; rw [pr_n hno] <;> rfl; done) | (refine fin_pure (rs := [.cell 2 24, .tmp 3]) rfl (by first | (simp (disch := first | omega | (simp only [List.length_map, List.length_append, List.length_set, List.length_cons, List.length_nil]; omega)) only [go_sem, ↓reduceIte, Nat.reduceEqDiff, reduceCtorEq, q5] <;> rfl) | rfl) (by first | rfl | (simp (disch := first | omega | (simp only [List.length_map, List.length_append, List.length_set, List.length_cons, List.length_nil]; omega)) only [go_sem, ↓reduceIte, Nat.reduceEqDiff, reduceCtorEq, q5] <;> rfl)) ?_; refine ⟨?_, rfl⟩; rw [pr_y hok, fS_y hF] <;> rfl)

end Go.Proofs.YtokhmkkifmhfmaaDoor
