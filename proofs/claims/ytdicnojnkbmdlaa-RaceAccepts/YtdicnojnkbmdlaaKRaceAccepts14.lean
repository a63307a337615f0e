/-
  Texts of RaceAccepts, part 15 of 16. Walks of chapters 52 and 53. The steps are written by program (walk.py).
-/
import Derived.Test.YtdicnojnkbmdlaaKRaceAccepts13
import Derived.Test.YtdicnojnkbmdlaaKRaceAccepts12
import Derived.Test.YtdicnojnkbmdlaaKRaceAccepts8
import Derived.Test.YtdicnojnkbmdlaaKRaceAccepts4
import Derived.Test.YtdicnojnkbmdlaaKRaceAccepts3
section
set_option linter.unusedSimpArgs false
set_option linter.unusedVariables false
set_option maxHeartbeats 40000000
set_option maxRecDepth 4000
namespace Go.Proofs.Ytdicnojnkbmdlaa
open Go Go.Am

abbrev lc_acceptT_ok (a b c d e f g h i j : AV) : Env := [(0,a),(1,b),(2,c),(3,d),(5,e),(6,f),(7,g),(8,h),(15,i),(19,j)]
theorem acceptT_ok (lim : Nat) (H : Heap) (P : List Int) (L : List Pr) (t : Int) (S R : List Int) (sa : AV) (hsa : IsA sa S) (hR : R.length ≤ 1000) (hS : S.length ≤ 1000) :
    ACall sig lim 32 [.agg (raceC P L), AV.i t, .agg [.v (.bool true), sa, intsAV R]] H fun r H' => r = AV.i (accS P L t true S R) ∧ H' = H := by
 have q0 : True := trivial
 have q5 : True := trivial
 refine ACall_pure (fa := fa32) rfl rfl rfl rfl ?_
 have tr : ∀ a0 a1 a2 : AV, env0 fa32.keep [a0, a1, a2] = [(0,a0),(1,a1),(2,a2),(3,.any),(5,.any),(6,.any),(7,.any),(8,.any),(15,.any),(19,.any)] := fun a0 a1 a2 => rfl
 refine W_to (tr _ _ _) ?_; clear tr
 refine at_seq rfl ?_
 refine rg rfl ?_
 refine A_box rfl (by simp (disch := first | omega | (simp only [List.length_map, List.length_append, List.length_set, List.length_cons, List.length_nil]; omega)) only [go_sem, ↓reduceIte, Nat.reduceEqDiff, reduceCtorEq] <;> rfl) ?_
 intro H1 n0
 have en0 := n0.len
 have q0 := n0.new
 refine A_box rfl (by simp (disch := first | omega | (simp only [List.length_map, List.length_append, List.length_set, List.length_cons, List.length_nil]; omega)) only [go_sem, ↓reduceIte, Nat.reduceEqDiff, reduceCtorEq, hsa.stor, Bool.and_self] <;> rfl) ?_
 intro H2 n1
 have en1 := n1.len
 have q0 := (n1.old _ (hget_lt q0)).trans q0
 have q5 := n1.new
 refine Rq ?_
 have tr : ∀ a b c d e f g h i j k m n : AV, let l := lc_acceptT_ok a b c d e f g h i j; trim ((6,n)::(5,m)::(3,k)::l) l = [(0,a),(1,b),(2,c),(3,k),(5,m),(6,n),(7,g),(8,h),(15,i),(19,j)] := by intros; rfl
 refine R_nil (tr ..) ?_; clear tr
 refine then_n ?_
 refine at_seq rfl ?_
 refine rg rfl ?_
 refine R_q rfl (by simp (disch := first | omega | (simp only [List.length_map, List.length_append, List.length_set, List.length_cons, List.length_nil]; omega)) only [go_sem, ↓reduceIte, Nat.reduceEqDiff, reduceCtorEq, q0, q5] <;> rfl) ?_
 refine Rq ?_
 refine Rcall ?_
 refine ACall_eq (mst_ok _ _ P L t) ?_
 refine Rq ?_
 refine Rq ?_
 refine Rq ?_
 refine Rq ?_
 refine Rq ?_
 have tr : ∀ a b c d e f g h i j k m n o p q r s : AV, let l := lc_acceptT_ok a b c d e f g h i j; trim ((8,s)::(7,r)::(14,q)::(13,p)::(9,o)::(12,n)::(11,m)::(10,k)::l) l = [(0,a),(1,b),(2,c),(3,d),(5,e),(6,f),(7,r),(8,s),(15,i),(19,j)] := by intros; rfl
 refine R_nil (tr ..) ?_; clear tr
 refine then_n ?_
 refine at_seq rfl ?_
 refine at_block rfl ?_
 refine at_seq rfl ?_
 refine rg rfl ?_
 refine Rq ?_
 refine Rq ?_
 refine Rq ?_
 have tr : ∀ a b c d e f g h i j k m n : AV, let l := lc_acceptT_ok a b c d e f g h i j; trim ((15,n)::(17,m)::(16,k)::l) l = [(0,a),(1,b),(2,c),(3,d),(5,e),(6,f),(7,g),(8,h),(15,n),(19,j)] := by intros; rfl
 refine R_nil (tr ..) ?_; clear tr
 refine then_n ?_
 refine cdd (fun h1 => ?_) (fun h1 => ?_)
 ·
  try simp only [decide_eq_true_eq, decide_eq_false_iff_not, Bool.not_eq_true', Bool.not_eq_false', beq_iff_eq, beq_eq_false_iff_ne, ne_eq] at h1
  refine at_seq rfl ?_
  refine rg rfl ?_
  refine Rq ?_
  refine Rq ?_
  have tr : ∀ a b c d e f g h i j k m : AV, let l := lc_acceptT_ok a b c d e f g h i j; trim ((6,m)::(18,k)::l) l = [(0,a),(1,b),(2,c),(3,d),(5,e),(6,m),(7,g),(8,h),(15,i),(19,j)] := by intros; rfl
  refine R_nil (tr ..) ?_; clear tr
  refine then_n ?_
  refine at_ret rfl ?_
  refine blk_r ?_
  refine then_r ?_
  refine fpure ?_
  refine ⟨?_, rfl⟩
  rw [accS_e (by assumption)]
 ·
  try simp only [decide_eq_true_eq, decide_eq_false_iff_not, Bool.not_eq_true', Bool.not_eq_false', beq_iff_eq, beq_eq_false_iff_ne, ne_eq] at h1
  refine at_seq rfl ?_
  refine rg rfl ?_
  have hm0 : (mostS P L t).2 = 0 := by assumption
  obtain ⟨g, t0, t1⟩ := most_of hm0
  have hme := most_eq hm0
  have gel := g.el
  have hmr := most_rng (L := L) (g.pt t.toNat (by omega)).1 (g.pt t.toNat (by omega)).2 L.length
  rw [← hme] at hmr
  refine Rq ?_
  refine R_q rfl (by simp (disch := first | omega | (simp only [List.length_map, List.length_append, List.length_set, List.length_cons, List.length_nil]; omega)) only [go_sem, ↓reduceIte, Nat.reduceEqDiff, reduceCtorEq, q0, q5] <;> rfl) ?_
  refine Rq ?_
  have tr : ∀ a b c d e f g h i j k m n : AV, let l := lc_acceptT_ok a b c d e f g h i j; trim ((19,n)::(21,m)::(20,k)::l) l = [(0,a),(1,b),(2,c),(3,d),(5,e),(6,f),(7,g),(8,h),(15,i),(19,n)] := by intros; rfl
  refine R_nil (tr ..) ?_; clear tr
  refine then_n ?_
  refine cdd (fun h2 => ?_) (fun h2 => ?_)
  ·
   try simp only [decide_eq_true_eq, decide_eq_false_iff_not, Bool.not_eq_true', Bool.not_eq_false', beq_iff_eq, beq_eq_false_iff_ne, ne_eq] at h2
   refine at_seq rfl ?_
   refine rg rfl ?_
   refine R_q rfl (by simp (disch := first | omega | (simp only [List.length_map, List.length_append, List.length_set, List.length_cons, List.length_nil]; omega)) only [go_sem, ↓reduceIte, Nat.reduceEqDiff, reduceCtorEq, q0, q5] <;> rfl) ?_
   refine Rq ?_
   refine R_q rfl (by simp (disch := first | omega | (simp only [List.length_map, List.length_append, List.length_set, List.length_cons, List.length_nil]; omega)) only [go_sem, ↓reduceIte, Nat.reduceEqDiff, reduceCtorEq, q0, q5, hsa.stor, Bool.and_self] <;> rfl) ?_
   refine Rcall ?_
   refine ACall_eq (possible_ok _ _ P L t S R sa hsa g t0 t1 (by omega) (by omega)) ?_
   refine Rq ?_
   have tr : ∀ a b c d e f g h i j k m n o p : AV, let l := lc_acceptT_ok a b c d e f g h i j; trim ((6,p)::(25,o)::(24,n)::(23,m)::(22,k)::l) l = [(0,a),(1,b),(2,c),(3,d),(5,e),(6,p),(7,g),(8,h),(15,i),(19,j)] := by intros; rfl
   refine R_nil (tr ..) ?_; clear tr
   refine then_n ?_
   refine at_ret rfl ?_
   refine blk_r ?_
   refine then_r ?_
   refine fpure ?_
   refine ⟨?_, rfl⟩
   rw [accS_t hm0]
  ·
   try simp only [decide_eq_true_eq, decide_eq_false_iff_not, Bool.not_eq_true', Bool.not_eq_false', beq_iff_eq, beq_eq_false_iff_ne, ne_eq] at h2
   first | exact absurd rfl (by assumption) | simp_all

abbrev lc_acceptF_ok (a b c d e f g h i j : AV) : Env := [(0,a),(1,b),(2,c),(3,d),(5,e),(6,f),(7,g),(8,h),(15,i),(19,j)]
theorem acceptF_ok (lim : Nat) (H : Heap) (P : List Int) (L : List Pr) (t : Int) (S R : List Int) (ra : AV) (hra : IsA ra R) (hR : R.length ≤ 1000) (hS : S.length ≤ 1000) :
    ACall sig lim 32 [.agg (raceC P L), AV.i t, .agg [.v (.bool false), intsAV S, ra]] H fun r H' => r = AV.i (accS P L t false S R) ∧ H' = H := by
 have q0 : True := trivial
 have q5 : True := trivial
 refine ACall_pure (fa := fa32) rfl rfl rfl rfl ?_
 have tr : ∀ a0 a1 a2 : AV, env0 fa32.keep [a0, a1, a2] = [(0,a0),(1,a1),(2,a2),(3,.any),(5,.any),(6,.any),(7,.any),(8,.any),(15,.any),(19,.any)] := fun a0 a1 a2 => rfl
 refine W_to (tr _ _ _) ?_; clear tr
 refine at_seq rfl ?_
 refine rg rfl ?_
 refine A_box rfl (by simp (disch := first | omega | (simp only [List.length_map, List.length_append, List.length_set, List.length_cons, List.length_nil]; omega)) only [go_sem, ↓reduceIte, Nat.reduceEqDiff, reduceCtorEq] <;> rfl) ?_
 intro H1 n0
 have en0 := n0.len
 have q0 := n0.new
 refine A_box rfl (by simp (disch := first | omega | (simp only [List.length_map, List.length_append, List.length_set, List.length_cons, List.length_nil]; omega)) only [go_sem, ↓reduceIte, Nat.reduceEqDiff, reduceCtorEq, hra.stor, Bool.and_self] <;> rfl) ?_
 intro H2 n1
 have en1 := n1.len
 have q0 := (n1.old _ (hget_lt q0)).trans q0
 have q5 := n1.new
 refine Rq ?_
 have tr : ∀ a b c d e f g h i j k m n : AV, let l := lc_acceptF_ok a b c d e f g h i j; trim ((6,n)::(5,m)::(3,k)::l) l = [(0,a),(1,b),(2,c),(3,k),(5,m),(6,n),(7,g),(8,h),(15,i),(19,j)] := by intros; rfl
 refine R_nil (tr ..) ?_; clear tr
 refine then_n ?_
 refine at_seq rfl ?_
 refine rg rfl ?_
 refine R_q rfl (by simp (disch := first | omega | (simp only [List.length_map, List.length_append, List.length_set, List.length_cons, List.length_nil]; omega)) only [go_sem, ↓reduceIte, Nat.reduceEqDiff, reduceCtorEq, q0, q5] <;> rfl) ?_
 refine Rq ?_
 refine Rcall ?_
 refine ACall_eq (mst_ok _ _ P L t) ?_
 refine Rq ?_
 refine Rq ?_
 refine Rq ?_
 refine Rq ?_
 refine Rq ?_
 have tr : ∀ a b c d e f g h i j k m n o p q r s : AV, let l := lc_acceptF_ok a b c d e f g h i j; trim ((8,s)::(7,r)::(14,q)::(13,p)::(9,o)::(12,n)::(11,m)::(10,k)::l) l = [(0,a),(1,b),(2,c),(3,d),(5,e),(6,f),(7,r),(8,s),(15,i),(19,j)] := by intros; rfl
 refine R_nil (tr ..) ?_; clear tr
 refine then_n ?_
 refine at_seq rfl ?_
 refine at_block rfl ?_
 refine at_seq rfl ?_
 refine rg rfl ?_
 refine Rq ?_
 refine Rq ?_
 refine Rq ?_
 have tr : ∀ a b c d e f g h i j k m n : AV, let l := lc_acceptF_ok a b c d e f g h i j; trim ((15,n)::(17,m)::(16,k)::l) l = [(0,a),(1,b),(2,c),(3,d),(5,e),(6,f),(7,g),(8,h),(15,n),(19,j)] := by intros; rfl
 refine R_nil (tr ..) ?_; clear tr
 refine then_n ?_
 refine cdd (fun h1 => ?_) (fun h1 => ?_)
 ·
  try simp only [decide_eq_true_eq, decide_eq_false_iff_not, Bool.not_eq_true', Bool.not_eq_false', beq_iff_eq, beq_eq_false_iff_ne, ne_eq] at h1
  refine at_seq rfl ?_
  refine rg rfl ?_
  refine Rq ?_
  refine Rq ?_
  have tr : ∀ a b c d e f g h i j k m : AV, let l := lc_acceptF_ok a b c d e f g h i j; trim ((6,m)::(18,k)::l) l = [(0,a),(1,b),(2,c),(3,d),(5,e),(6,m),(7,g),(8,h),(15,i),(19,j)] := by intros; rfl
  refine R_nil (tr ..) ?_; clear tr
  refine then_n ?_
  refine at_ret rfl ?_
  refine blk_r ?_
  refine then_r ?_
  refine fpure ?_
  refine ⟨?_, rfl⟩
  rw [accS_e (by assumption)]
 ·
  try simp only [decide_eq_true_eq, decide_eq_false_iff_not, Bool.not_eq_true', Bool.not_eq_false', beq_iff_eq, beq_eq_false_iff_ne, ne_eq] at h1
  refine at_seq rfl ?_
  refine rg rfl ?_
  have hm0 : (mostS P L t).2 = 0 := by assumption
  obtain ⟨g, t0, t1⟩ := most_of hm0
  have hme := most_eq hm0
  have gel := g.el
  have hmr := most_rng (L := L) (g.pt t.toNat (by omega)).1 (g.pt t.toNat (by omega)).2 L.length
  rw [← hme] at hmr
  refine Rq ?_
  refine R_q rfl (by simp (disch := first | omega | (simp only [List.length_map, List.length_append, List.length_set, List.length_cons, List.length_nil]; omega)) only [go_sem, ↓reduceIte, Nat.reduceEqDiff, reduceCtorEq, q0, q5] <;> rfl) ?_
  refine Rq ?_
  have tr : ∀ a b c d e f g h i j k m n : AV, let l := lc_acceptF_ok a b c d e f g h i j; trim ((19,n)::(21,m)::(20,k)::l) l = [(0,a),(1,b),(2,c),(3,d),(5,e),(6,f),(7,g),(8,h),(15,i),(19,n)] := by intros; rfl
  refine R_nil (tr ..) ?_; clear tr
  refine then_n ?_
  refine cdd (fun h2 => ?_) (fun h2 => ?_)
  ·
   try simp only [decide_eq_true_eq, decide_eq_false_iff_not, Bool.not_eq_true', Bool.not_eq_false', beq_iff_eq, beq_eq_false_iff_ne, ne_eq] at h2
   first | exact absurd rfl (by assumption) | simp_all
  ·
   try simp only [decide_eq_true_eq, decide_eq_false_iff_not, Bool.not_eq_true', Bool.not_eq_false', beq_iff_eq, beq_eq_false_iff_ne, ne_eq] at h2
   refine at_skip rfl ?_
   refine blk_n ?_
   refine then_n ?_
   refine at_seq rfl ?_
   refine rg rfl ?_
   refine R_q rfl (by simp (disch := first | omega | (simp only [List.length_map, List.length_append, List.length_set, List.length_cons, List.length_nil]; omega)) only [go_sem, ↓reduceIte, Nat.reduceEqDiff, reduceCtorEq, q0, q5] <;> rfl) ?_
   refine Rq ?_
   refine Rq ?_
   refine R_q rfl (by simp (disch := first | omega | (simp only [List.length_map, List.length_append, List.length_set, List.length_cons, List.length_nil]; omega)) only [go_sem, ↓reduceIte, Nat.reduceEqDiff, reduceCtorEq, q0, q5, hra.stor, Bool.and_self] <;> rfl) ?_
   refine Rcall ?_
   refine ACall_eq (elim_ok _ _ P L t _ S R ra hra g t0 t1 (by omega) (by omega) (by omega) (by omega)) ?_
   refine Rq ?_
   have tr : ∀ a b c d e f g h i j k m n o p q : AV, let l := lc_acceptF_ok a b c d e f g h i j; trim ((6,q)::(30,p)::(29,o)::(28,n)::(27,m)::(26,k)::l) l = [(0,a),(1,b),(2,c),(3,d),(5,e),(6,q),(7,g),(8,h),(15,i),(19,j)] := by intros; rfl
   refine R_nil (tr ..) ?_; clear tr
   refine then_n ?_
   refine at_ret rfl ?_
   refine fpure ?_
   refine ⟨?_, rfl⟩
   rw [accS_f hm0]

end Go.Proofs.Ytdicnojnkbmdlaa
end
section
set_option linter.unusedSimpArgs false
set_option linter.unusedVariables false
set_option maxHeartbeats 40000000
set_option maxRecDepth 4000
namespace Go.Proofs.Ytdicnojnkbmdlaa
open Go Go.Am

abbrev lc_raccept_53 (a b c d e f g h i j k m n o p q r s t u v w x y z A B C D E F G H I J K L M N O P : AV) : Env := [(0,a),(1,b),(2,c),(3,d),(5,e),(6,f),(7,g),(8,h),(10,i),(11,j),(13,k),(14,m),(15,n),(16,o),(17,p),(19,q),(27,r),(30,s),(43,t),(45,u),(46,v),(47,w),(48,x),(56,y),(62,z),(63,A),(64,B),(65,C),(73,D),(84,E),(90,F),(91,G),(92,H),(93,I),(124,J),(137,K),(138,L),(139,M),(140,N),(154,O),(164,P)]
theorem raccept_53 (lim : Nat) (H : Heap) (P : List Int) (L : List Pr) (t : Int) (b : Bool) (S R : List Int) (hR : R.length ≤ 1000) (hS : S.length ≤ 1000) :
    ACall sig lim 37 [.agg (raceC P L), AV.i t, .agg [.v (.bool b), intsAV S, intsAV R]] H fun r H' => r = AV.i (accS P L t b S R) ∧ H' = H := by
 have q0 : True := trivial
 have q5 : True := trivial
 have qi : True := trivial
 have qx : True := trivial
 have hfi : True := trivial
 have hrp : True := trivial
 have ha : True := trivial
 have hb : True := trivial
 refine ACall_pure (fa := fa37) rfl rfl rfl rfl ?_
 have tr : ∀ a0 a1 a2 : AV, env0 fa37.keep [a0, a1, a2] = [(0,a0),(1,a1),(2,a2),(3,.any),(5,.any),(6,.any),(7,.any),(8,.any),(10,.any),(11,.any),(13,.any),(14,.any),(15,.any),(16,.any),(17,.any),(19,.any),(27,.any),(30,.any),(43,.any),(45,.any),(46,.any),(47,.any),(48,.any),(56,.any),(62,.any),(63,.any),(64,.any),(65,.any),(73,.any),(84,.any),(90,.any),(91,.any),(92,.any),(93,.any),(124,.any),(137,.any),(138,.any),(139,.any),(140,.any),(154,.any),(164,.any)] := fun a0 a1 a2 => rfl
 refine W_to (tr _ _ _) ?_; clear tr
 refine at_seq rfl ?_
 refine rg rfl ?_
 refine A_box rfl (by simp (disch := first | omega | (simp only [List.length_map, List.length_append, List.length_set, List.length_cons, List.length_nil]; omega)) only [go_sem, ↓reduceIte, Nat.reduceEqDiff, reduceCtorEq] <;> rfl) ?_
 intro H1 n0
 have en0 := n0.len
 have q0 := n0.new
 refine A_box rfl (by simp (disch := first | omega | (simp only [List.length_map, List.length_append, List.length_set, List.length_cons, List.length_nil]; omega)) only [go_sem, ↓reduceIte, Nat.reduceEqDiff, reduceCtorEq] <;> rfl) ?_
 intro H2 n1
 have en1 := n1.len
 have q0 := (n1.old _ (hget_lt q0)).trans q0
 have q5 := n1.new
 refine Rq ?_
 have tr : ∀ a b c d e f g h i j k m n o p q r s t u v w x y z A B C D E F G H I J K L M N O P Q R S : AV, let l := lc_raccept_53 a b c d e f g h i j k m n o p q r s t u v w x y z A B C D E F G H I J K L M N O P; trim ((6,S)::(5,R)::(3,Q)::l) l = [(0,a),(1,b),(2,c),(3,Q),(5,R),(6,S),(7,g),(8,h),(10,i),(11,j),(13,k),(14,m),(15,n),(16,o),(17,p),(19,q),(27,r),(30,s),(43,t),(45,u),(46,v),(47,w),(48,x),(56,y),(62,z),(63,A),(64,B),(65,C),(73,D),(84,E),(90,F),(91,G),(92,H),(93,I),(124,J),(137,K),(138,L),(139,M),(140,N),(154,O),(164,P)] := by intros; rfl
 refine R_nil (tr ..) ?_; clear tr
 refine then_n ?_
 refine at_seq rfl ?_
 refine rg rfl ?_
 refine R_q rfl (by simp (disch := first | omega | (simp only [List.length_map, List.length_append, List.length_set, List.length_cons, List.length_nil]; omega)) only [go_sem, ↓reduceIte, Nat.reduceEqDiff, reduceCtorEq, q0, q5, qi, qx, hfi, hrp, ha, hb] <;> rfl) ?_
 refine Rq ?_
 refine Rcall ?_
 refine ACall_eq (rmst_ok _ _ P L t) ?_
 refine Rq ?_
 refine Rq ?_
 refine Rq ?_
 refine Rq ?_
 refine Rq ?_
 have tr : ∀ a b c d e f g h i j k m n o p q r s t u v w x y z A B C D E F G H I J K L M N O P Q R S T U V W X : AV, let l := lc_raccept_53 a b c d e f g h i j k m n o p q r s t u v w x y z A B C D E F G H I J K L M N O P; trim ((8,X)::(7,W)::(25,V)::(24,U)::(20,T)::(23,S)::(22,R)::(21,Q)::l) l = [(0,a),(1,b),(2,c),(3,d),(5,e),(6,f),(7,W),(8,X),(10,i),(11,j),(13,k),(14,m),(15,n),(16,o),(17,p),(19,q),(27,r),(30,s),(43,t),(45,u),(46,v),(47,w),(48,x),(56,y),(62,z),(63,A),(64,B),(65,C),(73,D),(84,E),(90,F),(91,G),(92,H),(93,I),(124,J),(137,K),(138,L),(139,M),(140,N),(154,O),(164,P)] := by intros; rfl
 refine R_nil (tr ..) ?_; clear tr
 refine then_n ?_
 refine at_seq rfl ?_
 refine at_seq rfl ?_
 refine rg rfl ?_
 refine Rq ?_
 refine Rq ?_
 have tr : ∀ a b c d e f g h i j k m n o p q r s t u v w x y z A B C D E F G H I J K L M N O P Q R : AV, let l := lc_raccept_53 a b c d e f g h i j k m n o p q r s t u v w x y z A B C D E F G H I J K L M N O P; trim ((27,R)::(26,Q)::l) l = [(0,a),(1,b),(2,c),(3,d),(5,e),(6,f),(7,g),(8,h),(10,i),(11,j),(13,k),(14,m),(15,n),(16,o),(17,p),(19,q),(27,R),(30,s),(43,t),(45,u),(46,v),(47,w),(48,x),(56,y),(62,z),(63,A),(64,B),(65,C),(73,D),(84,E),(90,F),(91,G),(92,H),(93,I),(124,J),(137,K),(138,L),(139,M),(140,N),(154,O),(164,P)] := by intros; rfl
 refine R_nil (tr ..) ?_; clear tr
 refine then_n ?_
 refine cdd (fun h1 => ?_) (fun h1 => ?_)
 ·
  try simp only [decide_eq_true_eq, decide_eq_false_iff_not, Bool.not_eq_true', Bool.not_eq_false', beq_iff_eq, beq_eq_false_iff_ne, ne_eq] at h1
  refine at_seq rfl ?_
  refine rg rfl ?_
  refine Rq ?_
  refine Rq ?_
  have tr : ∀ a b c d e f g h i j k m n o p q r s t u v w x y z A B C D E F G H I J K L M N O P Q R : AV, let l := lc_raccept_53 a b c d e f g h i j k m n o p q r s t u v w x y z A B C D E F G H I J K L M N O P; trim ((6,R)::(28,Q)::l) l = [(0,a),(1,b),(2,c),(3,d),(5,e),(6,R),(7,g),(8,h),(10,i),(11,j),(13,k),(14,m),(15,n),(16,o),(17,p),(19,q),(27,r),(30,s),(43,t),(45,u),(46,v),(47,w),(48,x),(56,y),(62,z),(63,A),(64,B),(65,C),(73,D),(84,E),(90,F),(91,G),(92,H),(93,I),(124,J),(137,K),(138,L),(139,M),(140,N),(154,O),(164,P)] := by intros; rfl
  refine R_nil (tr ..) ?_; clear tr
  refine then_n ?_
  refine at_ret rfl ?_
  refine then_r ?_
  refine fpure ?_
  refine ⟨?_, rfl⟩
  rw [accS_e (by assumption)]
 ·
  try simp only [decide_eq_true_eq, decide_eq_false_iff_not, Bool.not_eq_true', Bool.not_eq_false', beq_iff_eq, beq_eq_false_iff_ne, ne_eq] at h1
  refine at_skip rfl ?_
  refine then_n ?_
  refine at_seq rfl ?_
  refine at_seq rfl ?_
  refine rg rfl ?_
  have hm0 : (mostS P L t).2 = 0 := by assumption
  obtain ⟨g, t0, t1⟩ := most_of hm0
  have hme := most_eq hm0
  have g20 := g.n20
  have g2 := g.n2
  have gel := g.el
  have hmr := most_rng (L := L) (g.pt t.toNat (by omega)).1 (g.pt t.toNat (by omega)).2 L.length
  rw [← hme] at hmr
  refine Rq ?_
  refine R_q rfl (by simp (disch := first | omega | (simp only [List.length_map, List.length_append, List.length_set, List.length_cons, List.length_nil]; omega)) only [go_sem, ↓reduceIte, Nat.reduceEqDiff, reduceCtorEq, q0, q5, qi, qx, hfi, hrp, ha, hb] <;> rfl) ?_
  have tr : ∀ a b c d e f g h i j k m n o p q r s t u v w x y z A B C D E F G H I J K L M N O P Q R : AV, let l := lc_raccept_53 a b c d e f g h i j k m n o p q r s t u v w x y z A B C D E F G H I J K L M N O P; trim ((30,R)::(29,Q)::l) l = [(0,a),(1,b),(2,c),(3,d),(5,e),(6,f),(7,g),(8,h),(10,i),(11,j),(13,k),(14,m),(15,n),(16,o),(17,p),(19,q),(27,r),(30,R),(43,t),(45,u),(46,v),(47,w),(48,x),(56,y),(62,z),(63,A),(64,B),(65,C),(73,D),(84,E),(90,F),(91,G),(92,H),(93,I),(124,J),(137,K),(138,L),(139,M),(140,N),(154,O),(164,P)] := by intros; rfl
  refine R_nil (tr ..) ?_; clear tr
  refine then_n ?_
  refine cdd (fun h2 => ?_) (fun h2 => ?_)
  ·
   try simp only [decide_eq_true_eq, decide_eq_false_iff_not, Bool.not_eq_true', Bool.not_eq_false', beq_iff_eq, beq_eq_false_iff_ne, ne_eq] at h2
   refine at_seq rfl ?_
   refine at_seq rfl ?_
   refine rg rfl ?_
   have hbt : b = true := by assumption
   subst hbt
   refine Rq ?_
   refine R_q rfl (by simp (disch := first | omega | (simp only [List.length_map, List.length_append, List.length_set, List.length_cons, List.length_nil]; omega)) only [go_sem, ↓reduceIte, Nat.reduceEqDiff, reduceCtorEq, q0, q5, qi, qx, hfi, hrp, ha, hb] <;> rfl) ?_
   refine Rq ?_
   refine Rq ?_
   refine Rq ?_
   refine Rp_split (fun h3 => ?_) (fun h3 => ?_)
   ·
    try simp only [decide_eq_true_eq, decide_eq_false_iff_not, Bool.not_eq_true', Bool.not_eq_false', beq_iff_eq, beq_eq_false_iff_ne, ne_eq] at h3
    refine Rn ?_
    refine Rn ?_
    refine Rn ?_
    refine Rn ?_
    refine Rn ?_
    refine Rn ?_
    refine Rn ?_
    refine Rq ?_
    have tr : ∀ a b c d e f g h i j k m n o p q r s t u v w x y z A B C D E F G H I J K L M N O P Q R S T U V W X Y Z a1 b1 c1 : AV, let l := lc_raccept_53 a b c d e f g h i j k m n o p q r s t u v w x y z A B C D E F G H I J K L M N O P; trim ((43,c1)::(42,b1)::(41,a1)::(40,Z)::(39,Y)::(38,X)::(37,W)::(36,V)::(35,U)::(34,T)::(33,S)::(32,R)::(31,Q)::l) l = [(0,a),(1,b),(2,c),(3,d),(5,e),(6,f),(7,g),(8,h),(10,i),(11,j),(13,k),(14,m),(15,n),(16,o),(17,p),(19,q),(27,r),(30,s),(43,c1),(45,u),(46,v),(47,w),(48,x),(56,y),(62,z),(63,A),(64,B),(65,C),(73,D),(84,E),(90,F),(91,G),(92,H),(93,I),(124,J),(137,K),(138,L),(139,M),(140,N),(154,O),(164,P)] := by intros; rfl
    refine R_nil (tr ..) ?_; clear tr
    refine then_n ?_
    refine cdt ?_
    refine at_seq rfl ?_
    refine rg rfl ?_
    refine Rq ?_
    have tr : ∀ a b c d e f g h i j k m n o p q r s t u v w x y z A B C D E F G H I J K L M N O P Q : AV, let l := lc_raccept_53 a b c d e f g h i j k m n o p q r s t u v w x y z A B C D E F G H I J K L M N O P; trim ((6,Q)::l) l = [(0,a),(1,b),(2,c),(3,d),(5,e),(6,Q),(7,g),(8,h),(10,i),(11,j),(13,k),(14,m),(15,n),(16,o),(17,p),(19,q),(27,r),(30,s),(43,t),(45,u),(46,v),(47,w),(48,x),(56,y),(62,z),(63,A),(64,B),(65,C),(73,D),(84,E),(90,F),(91,G),(92,H),(93,I),(124,J),(137,K),(138,L),(139,M),(140,N),(154,O),(164,P)] := by intros; rfl
    refine R_nil (tr ..) ?_; clear tr
    refine then_n ?_
    refine at_ret rfl ?_
    refine then_r ?_
    refine then_r ?_
    refine fpure ?_
    refine ⟨?_, rfl⟩
    rw [accS_t hm0, posS_a (.inl (by omega))]
   ·
    try simp only [decide_eq_true_eq, decide_eq_false_iff_not, Bool.not_eq_true', Bool.not_eq_false', beq_iff_eq, beq_eq_false_iff_ne, ne_eq] at h3
    refine Ry ?_
    refine Rq ?_
    refine Ry ?_
    refine R_q rfl (by simp (disch := first | omega | (simp only [List.length_map, List.length_append, List.length_set, List.length_cons, List.length_nil]; omega)) only [go_sem, ↓reduceIte, Nat.reduceEqDiff, reduceCtorEq, q0, q5, qi, qx, hfi, hrp, ha, hb] <;> rfl) ?_
    refine Ry ?_
    refine Rq ?_
    refine Ry ?_
    refine Rq ?_
    refine Ry ?_
    refine R_q rfl (by simp (disch := first | omega | (simp only [List.length_map, List.length_append, List.length_set, List.length_cons, List.length_nil]; omega)) only [go_sem, ↓reduceIte, Nat.reduceEqDiff, reduceCtorEq, q0, q5, qi, qx, hfi, hrp, ha, hb] <;> rfl) ?_
    refine Ry ?_
    refine Rq ?_
    refine Ry ?_
    refine Rq ?_
    refine Rq ?_
    have tr : ∀ a b c d e f g h i j k m n o p q r s t u v w x y z A B C D E F G H I J K L M N O P Q R S T U V W X Y Z a1 b1 c1 : AV, let l := lc_raccept_53 a b c d e f g h i j k m n o p q r s t u v w x y z A B C D E F G H I J K L M N O P; trim ((43,c1)::(42,b1)::(41,a1)::(40,Z)::(39,Y)::(38,X)::(37,W)::(36,V)::(35,U)::(34,T)::(33,S)::(32,R)::(31,Q)::l) l = [(0,a),(1,b),(2,c),(3,d),(5,e),(6,f),(7,g),(8,h),(10,i),(11,j),(13,k),(14,m),(15,n),(16,o),(17,p),(19,q),(27,r),(30,s),(43,c1),(45,u),(46,v),(47,w),(48,x),(56,y),(62,z),(63,A),(64,B),(65,C),(73,D),(84,E),(90,F),(91,G),(92,H),(93,I),(124,J),(137,K),(138,L),(139,M),(140,N),(154,O),(164,P)] := by intros; rfl
    refine R_nil (tr ..) ?_; clear tr
    refine then_n ?_
    refine cdd (fun h4 => ?_) (fun h4 => ?_)
    ·
     try simp only [decide_eq_true_eq, decide_eq_false_iff_not, Bool.not_eq_true', Bool.not_eq_false', beq_iff_eq, beq_eq_false_iff_ne, ne_eq] at h4
     refine at_seq rfl ?_
     refine rg rfl ?_
     refine Rq ?_
     have tr : ∀ a b c d e f g h i j k m n o p q r s t u v w x y z A B C D E F G H I J K L M N O P Q : AV, let l := lc_raccept_53 a b c d e f g h i j k m n o p q r s t u v w x y z A B C D E F G H I J K L M N O P; trim ((6,Q)::l) l = [(0,a),(1,b),(2,c),(3,d),(5,e),(6,Q),(7,g),(8,h),(10,i),(11,j),(13,k),(14,m),(15,n),(16,o),(17,p),(19,q),(27,r),(30,s),(43,t),(45,u),(46,v),(47,w),(48,x),(56,y),(62,z),(63,A),(64,B),(65,C),(73,D),(84,E),(90,F),(91,G),(92,H),(93,I),(124,J),(137,K),(138,L),(139,M),(140,N),(154,O),(164,P)] := by intros; rfl
     refine R_nil (tr ..) ?_; clear tr
     refine then_n ?_
     refine at_ret rfl ?_
     refine then_r ?_
     refine then_r ?_
     refine fpure ?_
     refine ⟨?_, rfl⟩
     rw [accS_t hm0, posS_a (.inr (.inl (by omega)))]
    ·
     try simp only [decide_eq_true_eq, decide_eq_false_iff_not, Bool.not_eq_true', Bool.not_eq_false', beq_iff_eq, beq_eq_false_iff_ne, ne_eq] at h4
     refine at_skip rfl ?_
     refine then_n ?_
     refine at_seq rfl ?_
     refine at_seq rfl ?_
     refine rg rfl ?_
     refine Rq ?_
     refine R_q rfl (by simp (disch := first | omega | (simp only [List.length_map, List.length_append, List.length_set, List.length_cons, List.length_nil]; omega)) only [go_sem, ↓reduceIte, Nat.reduceEqDiff, reduceCtorEq, q0, q5, qi, qx, hfi, hrp, ha, hb] <;> rfl) ?_
     refine Rq ?_
     refine Rq ?_
     have tr : ∀ a b c d e f g h i j k m n o p q r s t u v w x y z A B C D E F G H I J K L M N O P Q R S T : AV, let l := lc_raccept_53 a b c d e f g h i j k m n o p q r s t u v w x y z A B C D E F G H I J K L M N O P; trim ((47,T)::(46,S)::(45,R)::(44,Q)::l) l = [(0,a),(1,b),(2,c),(3,d),(5,e),(6,f),(7,g),(8,h),(10,i),(11,j),(13,k),(14,m),(15,n),(16,o),(17,p),(19,q),(27,r),(30,s),(43,t),(45,R),(46,S),(47,T),(48,x),(56,y),(62,z),(63,A),(64,B),(65,C),(73,D),(84,E),(90,F),(91,G),(92,H),(93,I),(124,J),(137,K),(138,L),(139,M),(140,N),(154,O),(164,P)] := by intros; rfl
     refine R_nil (tr ..) ?_; clear tr
     refine then_n ?_
     refine at_block rfl ?_
     refine loop_n rfl (fun mm kv H' => ∃ v : Nat, ∃ x6 x10 x48 x56 : AV, (kv = [(6, x6), (10, x10), (47, AV.i v), (48, x48), (56, x56)]) ∧ (mm = R.length - v) ∧ (H2 = H') ∧ (v ≤ R.length) ∧ (∀ i, i < v → 0 ≤ gt R i ∧ gt R i ≤ 2)) ⟨0, _, _, _, _, rfl, rfl, by rfl, by omega, by intro i hi; omega⟩ (by rfl) ?_
     rintro mm kv HX ⟨v, x6, x10, x48, x56, rfl, rfl, hX, hv, hr⟩
     have tr : ∀ a b c d e f g h i j k m n o p q r s t u v w x y z A B C D E F G H I J K L M N O P Q R S T U : AV, upd [(0,a),(1,b),(2,c),(3,d),(5,e),(6,f),(7,g),(8,h),(10,i),(11,j),(13,k),(14,m),(15,n),(16,o),(17,p),(19,q),(27,r),(30,s),(43,t),(45,u),(46,v),(47,w),(48,x),(56,y),(62,z),(63,A),(64,B),(65,C),(73,D),(84,E),(90,F),(91,G),(92,H),(93,I),(124,J),(137,K),(138,L),(139,M),(140,N),(154,O),(164,P)] [(6,Q),(10,R),(47,S),(48,T),(56,U)] = [(0,a),(1,b),(2,c),(3,d),(5,e),(6,Q),(7,g),(8,h),(10,R),(11,j),(13,k),(14,m),(15,n),(16,o),(17,p),(19,q),(27,r),(30,s),(43,t),(45,u),(46,v),(47,S),(48,T),(56,U),(62,z),(63,A),(64,B),(65,C),(73,D),(84,E),(90,F),(91,G),(92,H),(93,I),(124,J),(137,K),(138,L),(139,M),(140,N),(154,O),(164,P)] := by intros; rfl
     refine W_to (tr ..) ?_; clear tr
     subst hX
     refine at_seq rfl ?_
     refine rg rfl ?_
     refine Rq ?_
     have tr : ∀ a b c d e f g h i j k m n o p q r s t u v w x y z A B C D E F G H I J K L M N O P Q : AV, let l := lc_raccept_53 a b c d e f g h i j k m n o p q r s t u v w x y z A B C D E F G H I J K L M N O P; trim ((48,Q)::l) l = [(0,a),(1,b),(2,c),(3,d),(5,e),(6,f),(7,g),(8,h),(10,i),(11,j),(13,k),(14,m),(15,n),(16,o),(17,p),(19,q),(27,r),(30,s),(43,t),(45,u),(46,v),(47,w),(48,Q),(56,y),(62,z),(63,A),(64,B),(65,C),(73,D),(84,E),(90,F),(91,G),(92,H),(93,I),(124,J),(137,K),(138,L),(139,M),(140,N),(154,O),(164,P)] := by intros; rfl
     refine R_nil (tr ..) ?_; clear tr
     refine then_n ?_
     refine at_seq rfl ?_
     refine cdd (fun h5 => ?_) (fun h5 => ?_)
     ·
      try simp only [decide_eq_true_eq, decide_eq_false_iff_not, Bool.not_eq_true', Bool.not_eq_false', beq_iff_eq, beq_eq_false_iff_ne, ne_eq] at h5
      refine at_skip rfl ?_
      refine then_n ?_
      refine at_seq rfl ?_
      refine at_block rfl ?_
      refine at_seq rfl ?_
      refine rg rfl ?_
      refine Rq ?_
      refine R_q rfl (by simp (disch := first | omega | (simp only [List.length_map, List.length_append, List.length_set, List.length_cons, List.length_nil]; omega)) only [go_sem, ↓reduceIte, Nat.reduceEqDiff, reduceCtorEq, q0, q5, qi, qx, hfi, hrp, ha, hb] <;> rfl) ?_
      refine Rq ?_
      have tr : ∀ a b c d e f g h i j k m n o p q r s t u v w x y z A B C D E F G H I J K L M N O P Q R S : AV, let l := lc_raccept_53 a b c d e f g h i j k m n o p q r s t u v w x y z A B C D E F G H I J K L M N O P; trim ((10,S)::(50,R)::(49,Q)::l) l = [(0,a),(1,b),(2,c),(3,d),(5,e),(6,f),(7,g),(8,h),(10,S),(11,j),(13,k),(14,m),(15,n),(16,o),(17,p),(19,q),(27,r),(30,s),(43,t),(45,u),(46,v),(47,w),(48,x),(56,y),(62,z),(63,A),(64,B),(65,C),(73,D),(84,E),(90,F),(91,G),(92,H),(93,I),(124,J),(137,K),(138,L),(139,M),(140,N),(154,O),(164,P)] := by intros; rfl
      refine R_nil (tr ..) ?_; clear tr
      refine then_n ?_
      refine at_seq rfl ?_
      refine rg rfl ?_
      refine Rq ?_
      refine Rq ?_
      refine Rq ?_
      refine Rp_split (fun h6 => ?_) (fun h6 => ?_)
      ·
       try simp only [decide_eq_true_eq, decide_eq_false_iff_not, Bool.not_eq_true', Bool.not_eq_false', beq_iff_eq, beq_eq_false_iff_ne, ne_eq] at h6
       refine Rn ?_
       refine Rn ?_
       refine Rq ?_
       have tr : ∀ a b c d e f g h i j k m n o p q r s t u v w x y z A B C D E F G H I J K L M N O P Q R S T U V : AV, let l := lc_raccept_53 a b c d e f g h i j k m n o p q r s t u v w x y z A B C D E F G H I J K L M N O P; trim ((56,V)::(55,U)::(54,T)::(53,S)::(52,R)::(51,Q)::l) l = [(0,a),(1,b),(2,c),(3,d),(5,e),(6,f),(7,g),(8,h),(10,i),(11,j),(13,k),(14,m),(15,n),(16,o),(17,p),(19,q),(27,r),(30,s),(43,t),(45,u),(46,v),(47,w),(48,x),(56,V),(62,z),(63,A),(64,B),(65,C),(73,D),(84,E),(90,F),(91,G),(92,H),(93,I),(124,J),(137,K),(138,L),(139,M),(140,N),(154,O),(164,P)] := by intros; rfl
       refine R_nil (tr ..) ?_; clear tr
       refine then_n ?_
       refine cdt ?_
       refine at_seq rfl ?_
       refine rg rfl ?_
       refine Rq ?_
       have tr : ∀ a b c d e f g h i j k m n o p q r s t u v w x y z A B C D E F G H I J K L M N O P Q : AV, let l := lc_raccept_53 a b c d e f g h i j k m n o p q r s t u v w x y z A B C D E F G H I J K L M N O P; trim ((6,Q)::l) l = [(0,a),(1,b),(2,c),(3,d),(5,e),(6,Q),(7,g),(8,h),(10,i),(11,j),(13,k),(14,m),(15,n),(16,o),(17,p),(19,q),(27,r),(30,s),(43,t),(45,u),(46,v),(47,w),(48,x),(56,y),(62,z),(63,A),(64,B),(65,C),(73,D),(84,E),(90,F),(91,G),(92,H),(93,I),(124,J),(137,K),(138,L),(139,M),(140,N),(154,O),(164,P)] := by intros; rfl
       refine R_nil (tr ..) ?_; clear tr
       refine then_n ?_
       refine at_ret rfl ?_
       refine blk_r ?_
       refine then_r ?_
       refine then_r ?_
       refine blk_r ?_
       refine then_r ?_
       refine then_r ?_
       refine fpure ?_
       refine ⟨?_, rfl⟩
       rw [accS_t hm0, posS_a (.inr (.inr (fun hh => by have := hh v (by omega); omega)))]
      ·
       try simp only [decide_eq_true_eq, decide_eq_false_iff_not, Bool.not_eq_true', Bool.not_eq_false', beq_iff_eq, beq_eq_false_iff_ne, ne_eq] at h6
       refine Ry ?_
       refine Rq ?_
       refine Ry ?_
       refine Rq ?_
       refine Rq ?_
       have tr : ∀ a b c d e f g h i j k m n o p q r s t u v w x y z A B C D E F G H I J K L M N O P Q R S T U V : AV, let l := lc_raccept_53 a b c d e f g h i j k m n o p q r s t u v w x y z A B C D E F G H I J K L M N O P; trim ((56,V)::(55,U)::(54,T)::(53,S)::(52,R)::(51,Q)::l) l = [(0,a),(1,b),(2,c),(3,d),(5,e),(6,f),(7,g),(8,h),(10,i),(11,j),(13,k),(14,m),(15,n),(16,o),(17,p),(19,q),(27,r),(30,s),(43,t),(45,u),(46,v),(47,w),(48,x),(56,V),(62,z),(63,A),(64,B),(65,C),(73,D),(84,E),(90,F),(91,G),(92,H),(93,I),(124,J),(137,K),(138,L),(139,M),(140,N),(154,O),(164,P)] := by intros; rfl
       refine R_nil (tr ..) ?_; clear tr
       refine then_n ?_
       refine cdd (fun h7 => ?_) (fun h7 => ?_)
       ·
        try simp only [decide_eq_true_eq, decide_eq_false_iff_not, Bool.not_eq_true', Bool.not_eq_false', beq_iff_eq, beq_eq_false_iff_ne, ne_eq] at h7
        refine at_seq rfl ?_
        refine rg rfl ?_
        refine Rq ?_
        have tr : ∀ a b c d e f g h i j k m n o p q r s t u v w x y z A B C D E F G H I J K L M N O P Q : AV, let l := lc_raccept_53 a b c d e f g h i j k m n o p q r s t u v w x y z A B C D E F G H I J K L M N O P; trim ((6,Q)::l) l = [(0,a),(1,b),(2,c),(3,d),(5,e),(6,Q),(7,g),(8,h),(10,i),(11,j),(13,k),(14,m),(15,n),(16,o),(17,p),(19,q),(27,r),(30,s),(43,t),(45,u),(46,v),(47,w),(48,x),(56,y),(62,z),(63,A),(64,B),(65,C),(73,D),(84,E),(90,F),(91,G),(92,H),(93,I),(124,J),(137,K),(138,L),(139,M),(140,N),(154,O),(164,P)] := by intros; rfl
        refine R_nil (tr ..) ?_; clear tr
        refine then_n ?_
        refine at_ret rfl ?_
        refine blk_r ?_
        refine then_r ?_
        refine then_r ?_
        refine blk_r ?_
        refine then_r ?_
        refine then_r ?_
        refine fpure ?_
        refine ⟨?_, rfl⟩
        rw [accS_t hm0, posS_a (.inr (.inr (fun hh => by have := hh v (by omega); omega)))]
       ·
        try simp only [decide_eq_true_eq, decide_eq_false_iff_not, Bool.not_eq_true', Bool.not_eq_false', beq_iff_eq, beq_eq_false_iff_ne, ne_eq] at h7
        refine at_skip rfl ?_
        refine blk_n ?_
        refine then_n ?_
        refine rg rfl ?_
        refine Rq ?_
        refine Rq ?_
        have tr : ∀ a b c d e f g h i j k m n o p q r s t u v w x y z A B C D E F G H I J K L M N O P Q R : AV, let l := lc_raccept_53 a b c d e f g h i j k m n o p q r s t u v w x y z A B C D E F G H I J K L M N O P; trim ((47,R)::(57,Q)::l) l = [(0,a),(1,b),(2,c),(3,d),(5,e),(6,f),(7,g),(8,h),(10,i),(11,j),(13,k),(14,m),(15,n),(16,o),(17,p),(19,q),(27,r),(30,s),(43,t),(45,u),(46,v),(47,R),(48,x),(56,y),(62,z),(63,A),(64,B),(65,C),(73,D),(84,E),(90,F),(91,G),(92,H),(93,I),(124,J),(137,K),(138,L),(139,M),(140,N),(154,O),(164,P)] := by intros; rfl
        refine R_nil (tr ..) ?_; clear tr
        refine then_n ?_
        exact ⟨_, _, ⟨v + 1, _, _, _, _, rfl, rfl, by rfl, by omega, by exact all_step hr (by omega)⟩, by rfl, by omega⟩
     ·
      try simp only [decide_eq_true_eq, decide_eq_false_iff_not, Bool.not_eq_true', Bool.not_eq_false', beq_iff_eq, beq_eq_false_iff_ne, ne_eq] at h5
      refine at_exit rfl ?_
      refine then_x ?_
      refine then_x ?_
      refine blk_x ?_
      refine then_n ?_
      refine at_seq rfl ?_
      refine rg rfl ?_
      obtain rfl : v = R.length := by omega
      have hro : resOK R := hr
      have hpl := play_len P L R L.length
      refine R_q rfl (by simp (disch := first | omega | (simp only [List.length_map, List.length_append, List.length_set, List.length_cons, List.length_nil]; omega)) only [go_sem, ↓reduceIte, Nat.reduceEqDiff, reduceCtorEq, q0, q5, qi, qx, hfi, hrp, ha, hb] <;> rfl) ?_
      refine Rq ?_
      refine R_q rfl (by simp (disch := first | omega | (simp only [List.length_map, List.length_append, List.length_set, List.length_cons, List.length_nil]; omega)) only [go_sem, ↓reduceIte, Nat.reduceEqDiff, reduceCtorEq, q0, q5, qi, qx, hfi, hrp, ha, hb] <;> rfl) ?_
      refine Rcall ?_
      refine ACall_eq (rplay_ok _ _ P L R g (by omega) hro) ?_
      refine Rq ?_
      have tr : ∀ a b c d e f g h i j k m n o p q r s t u v w x y z A B C D E F G H I J K L M N O P Q R S T U : AV, let l := lc_raccept_53 a b c d e f g h i j k m n o p q r s t u v w x y z A B C D E F G H I J K L M N O P; trim ((11,U)::(61,T)::(60,S)::(59,R)::(58,Q)::l) l = [(0,a),(1,b),(2,c),(3,d),(5,e),(6,f),(7,g),(8,h),(10,i),(11,U),(13,k),(14,m),(15,n),(16,o),(17,p),(19,q),(27,r),(30,s),(43,t),(45,u),(46,v),(47,w),(48,x),(56,y),(62,z),(63,A),(64,B),(65,C),(73,D),(84,E),(90,F),(91,G),(92,H),(93,I),(124,J),(137,K),(138,L),(139,M),(140,N),(154,O),(164,P)] := by intros; rfl
      refine R_nil (tr ..) ?_; clear tr
      refine then_n ?_
      refine at_seq rfl ?_
      refine at_seq rfl ?_
      refine rg rfl ?_
      refine Rq ?_
      refine Rq ?_
      refine Rq ?_
      have tr : ∀ a b c d e f g h i j k m n o p q r s t u v w x y z A B C D E F G H I J K L M N O P Q R S : AV, let l := lc_raccept_53 a b c d e f g h i j k m n o p q r s t u v w x y z A B C D E F G H I J K L M N O P; trim ((64,S)::(63,R)::(62,Q)::l) l = [(0,a),(1,b),(2,c),(3,d),(5,e),(6,f),(7,g),(8,h),(10,i),(11,j),(13,k),(14,m),(15,n),(16,o),(17,p),(19,q),(27,r),(30,s),(43,t),(45,u),(46,v),(47,w),(48,x),(56,y),(62,Q),(63,R),(64,S),(65,C),(73,D),(84,E),(90,F),(91,G),(92,H),(93,I),(124,J),(137,K),(138,L),(139,M),(140,N),(154,O),(164,P)] := by intros; rfl
      refine R_nil (tr ..) ?_; clear tr
      refine then_n ?_
      refine at_block rfl ?_
      refine loop_n rfl (fun mm kv H' => ∃ w : Nat, ∃ x6 x13 x65 x73 : AV, (kv = [(6, x6), (13, x13), (64, AV.i w), (65, x65), (73, x73)]) ∧ (mm = P.length - w) ∧ (H2 = H') ∧ (w ≤ P.length) ∧ (∀ i, i < w → ¬ gt (playN P L R L.length) t.toNat < gt (playN P L R L.length) i)) ⟨0, _, _, _, _, rfl, rfl, by rfl, by omega, by intro i hi; omega⟩ (by rfl) ?_
      rintro mm kv HX ⟨w, x6, x13, x65, x73, rfl, rfl, hX, hw, hz⟩
      have tr : ∀ a b c d e f g h i j k m n o p q r s t u v w x y z A B C D E F G H I J K L M N O P Q R S T U : AV, upd [(0,a),(1,b),(2,c),(3,d),(5,e),(6,f),(7,g),(8,h),(10,i),(11,j),(13,k),(14,m),(15,n),(16,o),(17,p),(19,q),(27,r),(30,s),(43,t),(45,u),(46,v),(47,w),(48,x),(56,y),(62,z),(63,A),(64,B),(65,C),(73,D),(84,E),(90,F),(91,G),(92,H),(93,I),(124,J),(137,K),(138,L),(139,M),(140,N),(154,O),(164,P)] [(6,Q),(13,R),(64,S),(65,T),(73,U)] = [(0,a),(1,b),(2,c),(3,d),(5,e),(6,Q),(7,g),(8,h),(10,i),(11,j),(13,R),(14,m),(15,n),(16,o),(17,p),(19,q),(27,r),(30,s),(43,t),(45,u),(46,v),(47,w),(48,x),(56,y),(62,z),(63,A),(64,S),(65,T),(73,U),(84,E),(90,F),(91,G),(92,H),(93,I),(124,J),(137,K),(138,L),(139,M),(140,N),(154,O),(164,P)] := by intros; rfl
      refine W_to (tr ..) ?_; clear tr
      subst hX
      refine at_seq rfl ?_
      refine rg rfl ?_
      refine Rq ?_
      have tr : ∀ a b c d e f g h i j k m n o p q r s t u v w x y z A B C D E F G H I J K L M N O P Q : AV, let l := lc_raccept_53 a b c d e f g h i j k m n o p q r s t u v w x y z A B C D E F G H I J K L M N O P; trim ((65,Q)::l) l = [(0,a),(1,b),(2,c),(3,d),(5,e),(6,f),(7,g),(8,h),(10,i),(11,j),(13,k),(14,m),(15,n),(16,o),(17,p),(19,q),(27,r),(30,s),(43,t),(45,u),(46,v),(47,w),(48,x),(56,y),(62,z),(63,A),(64,B),(65,Q),(73,D),(84,E),(90,F),(91,G),(92,H),(93,I),(124,J),(137,K),(138,L),(139,M),(140,N),(154,O),(164,P)] := by intros; rfl
      refine R_nil (tr ..) ?_; clear tr
      refine then_n ?_
      refine at_seq rfl ?_
      refine cdd (fun h8 => ?_) (fun h8 => ?_)
      ·
       try simp only [decide_eq_true_eq, decide_eq_false_iff_not, Bool.not_eq_true', Bool.not_eq_false', beq_iff_eq, beq_eq_false_iff_ne, ne_eq] at h8
       refine at_skip rfl ?_
       refine then_n ?_
       refine at_seq rfl ?_
       refine at_block rfl ?_
       refine at_seq rfl ?_
       refine rg rfl ?_
       refine Rq ?_
       refine R_q rfl (by simp (disch := first | omega | (simp only [List.length_map, List.length_append, List.length_set, List.length_cons, List.length_nil]; omega)) only [go_sem, ↓reduceIte, Nat.reduceEqDiff, reduceCtorEq, q0, q5, qi, qx, hfi, hrp, ha, hb] <;> rfl) ?_
       refine Rq ?_
       have tr : ∀ a b c d e f g h i j k m n o p q r s t u v w x y z A B C D E F G H I J K L M N O P Q R S : AV, let l := lc_raccept_53 a b c d e f g h i j k m n o p q r s t u v w x y z A B C D E F G H I J K L M N O P; trim ((13,S)::(67,R)::(66,Q)::l) l = [(0,a),(1,b),(2,c),(3,d),(5,e),(6,f),(7,g),(8,h),(10,i),(11,j),(13,S),(14,m),(15,n),(16,o),(17,p),(19,q),(27,r),(30,s),(43,t),(45,u),(46,v),(47,w),(48,x),(56,y),(62,z),(63,A),(64,B),(65,C),(73,D),(84,E),(90,F),(91,G),(92,H),(93,I),(124,J),(137,K),(138,L),(139,M),(140,N),(154,O),(164,P)] := by intros; rfl
       refine R_nil (tr ..) ?_; clear tr
       refine then_n ?_
       refine at_seq rfl ?_
       refine rg rfl ?_
       refine Rq ?_
       refine Rq ?_
       refine Rq ?_
       refine Rq ?_
       refine R_q rfl (by simp (disch := first | omega | (simp only [List.length_map, List.length_append, List.length_set, List.length_cons, List.length_nil]; omega)) only [go_sem, ↓reduceIte, Nat.reduceEqDiff, reduceCtorEq, q0, q5, qi, qx, hfi, hrp, ha, hb] <;> rfl) ?_
       refine Rq ?_
       have tr : ∀ a b c d e f g h i j k m n o p q r s t u v w x y z A B C D E F G H I J K L M N O P Q R S T U V : AV, let l := lc_raccept_53 a b c d e f g h i j k m n o p q r s t u v w x y z A B C D E F G H I J K L M N O P; trim ((73,V)::(72,U)::(71,T)::(70,S)::(69,R)::(68,Q)::l) l = [(0,a),(1,b),(2,c),(3,d),(5,e),(6,f),(7,g),(8,h),(10,i),(11,j),(13,k),(14,m),(15,n),(16,o),(17,p),(19,q),(27,r),(30,s),(43,t),(45,u),(46,v),(47,w),(48,x),(56,y),(62,z),(63,A),(64,B),(65,C),(73,V),(84,E),(90,F),(91,G),(92,H),(93,I),(124,J),(137,K),(138,L),(139,M),(140,N),(154,O),(164,P)] := by intros; rfl
       refine R_nil (tr ..) ?_; clear tr
       refine then_n ?_
       refine cdd (fun h9 => ?_) (fun h9 => ?_)
       ·
        try simp only [decide_eq_true_eq, decide_eq_false_iff_not, Bool.not_eq_true', Bool.not_eq_false', beq_iff_eq, beq_eq_false_iff_ne, ne_eq] at h9
        refine at_seq rfl ?_
        refine rg rfl ?_
        refine Rq ?_
        have tr : ∀ a b c d e f g h i j k m n o p q r s t u v w x y z A B C D E F G H I J K L M N O P Q : AV, let l := lc_raccept_53 a b c d e f g h i j k m n o p q r s t u v w x y z A B C D E F G H I J K L M N O P; trim ((6,Q)::l) l = [(0,a),(1,b),(2,c),(3,d),(5,e),(6,Q),(7,g),(8,h),(10,i),(11,j),(13,k),(14,m),(15,n),(16,o),(17,p),(19,q),(27,r),(30,s),(43,t),(45,u),(46,v),(47,w),(48,x),(56,y),(62,z),(63,A),(64,B),(65,C),(73,D),(84,E),(90,F),(91,G),(92,H),(93,I),(124,J),(137,K),(138,L),(139,M),(140,N),(154,O),(164,P)] := by intros; rfl
        refine R_nil (tr ..) ?_; clear tr
        refine then_n ?_
        refine at_ret rfl ?_
        refine blk_r ?_
        refine then_r ?_
        refine then_r ?_
        refine blk_r ?_
        refine then_r ?_
        refine then_r ?_
        refine fpure ?_
        refine ⟨?_, rfl⟩
        rw [accS_t hm0, posS_b (by omega) (by omega) hro ⟨w, by omega, by omega⟩]
       ·
        try simp only [decide_eq_true_eq, decide_eq_false_iff_not, Bool.not_eq_true', Bool.not_eq_false', beq_iff_eq, beq_eq_false_iff_ne, ne_eq] at h9
        refine at_skip rfl ?_
        refine blk_n ?_
        refine then_n ?_
        refine rg rfl ?_
        refine Rq ?_
        refine Rq ?_
        have tr : ∀ a b c d e f g h i j k m n o p q r s t u v w x y z A B C D E F G H I J K L M N O P Q R : AV, let l := lc_raccept_53 a b c d e f g h i j k m n o p q r s t u v w x y z A B C D E F G H I J K L M N O P; trim ((64,R)::(74,Q)::l) l = [(0,a),(1,b),(2,c),(3,d),(5,e),(6,f),(7,g),(8,h),(10,i),(11,j),(13,k),(14,m),(15,n),(16,o),(17,p),(19,q),(27,r),(30,s),(43,t),(45,u),(46,v),(47,w),(48,x),(56,y),(62,z),(63,A),(64,R),(65,C),(73,D),(84,E),(90,F),(91,G),(92,H),(93,I),(124,J),(137,K),(138,L),(139,M),(140,N),(154,O),(164,P)] := by intros; rfl
        refine R_nil (tr ..) ?_; clear tr
        refine then_n ?_
        exact ⟨_, _, ⟨w + 1, _, _, _, _, rfl, rfl, by rfl, by omega, by exact all_step hz (by omega)⟩, by rfl, by omega⟩
      ·
       try simp only [decide_eq_true_eq, decide_eq_false_iff_not, Bool.not_eq_true', Bool.not_eq_false', beq_iff_eq, beq_eq_false_iff_ne, ne_eq] at h8
       refine at_exit rfl ?_
       refine then_x ?_
       refine then_x ?_
       refine blk_x ?_
       refine then_n ?_
       refine at_seq rfl ?_
       refine rg rfl ?_
       refine Rq ?_
       have tr : ∀ a b c d e f g h i j k m n o p q r s t u v w x y z A B C D E F G H I J K L M N O P Q : AV, let l := lc_raccept_53 a b c d e f g h i j k m n o p q r s t u v w x y z A B C D E F G H I J K L M N O P; trim ((6,Q)::l) l = [(0,a),(1,b),(2,c),(3,d),(5,e),(6,Q),(7,g),(8,h),(10,i),(11,j),(13,k),(14,m),(15,n),(16,o),(17,p),(19,q),(27,r),(30,s),(43,t),(45,u),(46,v),(47,w),(48,x),(56,y),(62,z),(63,A),(64,B),(65,C),(73,D),(84,E),(90,F),(91,G),(92,H),(93,I),(124,J),(137,K),(138,L),(139,M),(140,N),(154,O),(164,P)] := by intros; rfl
       refine R_nil (tr ..) ?_; clear tr
       refine then_n ?_
       refine at_ret rfl ?_
       refine then_r ?_
       refine fpure ?_
       refine ⟨?_, rfl⟩
       rw [accS_t hm0, posS_c (by omega) (by omega) hro (fun ⟨k, hk, hkm⟩ => hz k (by omega) hkm)]
  ·
   try simp only [decide_eq_true_eq, decide_eq_false_iff_not, Bool.not_eq_true', Bool.not_eq_false', beq_iff_eq, beq_eq_false_iff_ne, ne_eq] at h2
   refine at_skip rfl ?_
   refine then_n ?_
   refine at_seq rfl ?_
   refine at_seq rfl ?_
   refine rg rfl ?_
   have hbf : b = false := by assumption
   subst hbf
   refine Rq ?_
   refine R_q rfl (by simp (disch := first | omega | (simp only [List.length_map, List.length_append, List.length_set, List.length_cons, List.length_nil]; omega)) only [go_sem, ↓reduceIte, Nat.reduceEqDiff, reduceCtorEq, q0, q5, qi, qx, hfi, hrp, ha, hb] <;> rfl) ?_
   refine Rq ?_
   refine Rq ?_
   refine Rq ?_
   refine Rp_split (fun h10 => ?_) (fun h10 => ?_)
   ·
    try simp only [decide_eq_true_eq, decide_eq_false_iff_not, Bool.not_eq_true', Bool.not_eq_false', beq_iff_eq, beq_eq_false_iff_ne, ne_eq] at h10
    refine Rn ?_
    refine Rn ?_
    refine Rn ?_
    refine Rn ?_
    refine Rq ?_
    have tr : ∀ a b c d e f g h i j k m n o p q r s t u v w x y z A B C D E F G H I J K L M N O P Q R S T U V W X Y Z : AV, let l := lc_raccept_53 a b c d e f g h i j k m n o p q r s t u v w x y z A B C D E F G H I J K L M N O P; trim ((84,Z)::(83,Y)::(82,X)::(81,W)::(80,V)::(79,U)::(78,T)::(77,S)::(76,R)::(75,Q)::l) l = [(0,a),(1,b),(2,c),(3,d),(5,e),(6,f),(7,g),(8,h),(10,i),(11,j),(13,k),(14,m),(15,n),(16,o),(17,p),(19,q),(27,r),(30,s),(43,t),(45,u),(46,v),(47,w),(48,x),(56,y),(62,z),(63,A),(64,B),(65,C),(73,D),(84,Z),(90,F),(91,G),(92,H),(93,I),(124,J),(137,K),(138,L),(139,M),(140,N),(154,O),(164,P)] := by intros; rfl
    refine R_nil (tr ..) ?_; clear tr
    refine then_n ?_
    refine cdt ?_
    refine at_seq rfl ?_
    refine rg rfl ?_
    refine Rq ?_
    have tr : ∀ a b c d e f g h i j k m n o p q r s t u v w x y z A B C D E F G H I J K L M N O P Q : AV, let l := lc_raccept_53 a b c d e f g h i j k m n o p q r s t u v w x y z A B C D E F G H I J K L M N O P; trim ((6,Q)::l) l = [(0,a),(1,b),(2,c),(3,d),(5,e),(6,Q),(7,g),(8,h),(10,i),(11,j),(13,k),(14,m),(15,n),(16,o),(17,p),(19,q),(27,r),(30,s),(43,t),(45,u),(46,v),(47,w),(48,x),(56,y),(62,z),(63,A),(64,B),(65,C),(73,D),(84,E),(90,F),(91,G),(92,H),(93,I),(124,J),(137,K),(138,L),(139,M),(140,N),(154,O),(164,P)] := by intros; rfl
    refine R_nil (tr ..) ?_; clear tr
    refine then_n ?_
    refine at_ret rfl ?_
    refine then_r ?_
    refine fpure ?_
    refine ⟨?_, rfl⟩
    rw [accS_f hm0, elimS_a (.inl (by omega))]
   ·
    try simp only [decide_eq_true_eq, decide_eq_false_iff_not, Bool.not_eq_true', Bool.not_eq_false', beq_iff_eq, beq_eq_false_iff_ne, ne_eq] at h10
    refine Ry ?_
    refine Rq ?_
    refine Ry ?_
    refine R_q rfl (by simp (disch := first | omega | (simp only [List.length_map, List.length_append, List.length_set, List.length_cons, List.length_nil]; omega)) only [go_sem, ↓reduceIte, Nat.reduceEqDiff, reduceCtorEq, q0, q5, qi, qx, hfi, hrp, ha, hb] <;> rfl) ?_
    refine Ry ?_
    refine Rq ?_
    refine Ry ?_
    refine Rq ?_
    refine Rq ?_
    have tr : ∀ a b c d e f g h i j k m n o p q r s t u v w x y z A B C D E F G H I J K L M N O P Q R S T U V W X Y Z : AV, let l := lc_raccept_53 a b c d e f g h i j k m n o p q r s t u v w x y z A B C D E F G H I J K L M N O P; trim ((84,Z)::(83,Y)::(82,X)::(81,W)::(80,V)::(79,U)::(78,T)::(77,S)::(76,R)::(75,Q)::l) l = [(0,a),(1,b),(2,c),(3,d),(5,e),(6,f),(7,g),(8,h),(10,i),(11,j),(13,k),(14,m),(15,n),(16,o),(17,p),(19,q),(27,r),(30,s),(43,t),(45,u),(46,v),(47,w),(48,x),(56,y),(62,z),(63,A),(64,B),(65,C),(73,D),(84,Z),(90,F),(91,G),(92,H),(93,I),(124,J),(137,K),(138,L),(139,M),(140,N),(154,O),(164,P)] := by intros; rfl
    refine R_nil (tr ..) ?_; clear tr
    refine then_n ?_
    refine cdd (fun h11 => ?_) (fun h11 => ?_)
    ·
     try simp only [decide_eq_true_eq, decide_eq_false_iff_not, Bool.not_eq_true', Bool.not_eq_false', beq_iff_eq, beq_eq_false_iff_ne, ne_eq] at h11
     refine at_seq rfl ?_
     refine rg rfl ?_
     refine Rq ?_
     have tr : ∀ a b c d e f g h i j k m n o p q r s t u v w x y z A B C D E F G H I J K L M N O P Q : AV, let l := lc_raccept_53 a b c d e f g h i j k m n o p q r s t u v w x y z A B C D E F G H I J K L M N O P; trim ((6,Q)::l) l = [(0,a),(1,b),(2,c),(3,d),(5,e),(6,Q),(7,g),(8,h),(10,i),(11,j),(13,k),(14,m),(15,n),(16,o),(17,p),(19,q),(27,r),(30,s),(43,t),(45,u),(46,v),(47,w),(48,x),(56,y),(62,z),(63,A),(64,B),(65,C),(73,D),(84,E),(90,F),(91,G),(92,H),(93,I),(124,J),(137,K),(138,L),(139,M),(140,N),(154,O),(164,P)] := by intros; rfl
     refine R_nil (tr ..) ?_; clear tr
     refine then_n ?_
     refine at_ret rfl ?_
     refine then_r ?_
     refine fpure ?_
     refine ⟨?_, rfl⟩
     rw [accS_f hm0, elimS_a (.inr (.inl (by omega)))]
    ·
     try simp only [decide_eq_true_eq, decide_eq_false_iff_not, Bool.not_eq_true', Bool.not_eq_false', beq_iff_eq, beq_eq_false_iff_ne, ne_eq] at h11
     refine at_skip rfl ?_
     refine then_n ?_
     refine at_seq rfl ?_
     refine rg rfl ?_
     refine Rq ?_
     refine R_q rfl (by simp (disch := first | omega | (simp only [List.length_map, List.length_append, List.length_set, List.length_cons, List.length_nil]; omega)) only [go_sem, ↓reduceIte, Nat.reduceEqDiff, reduceCtorEq, q0, q5, qi, qx, hfi, hrp, ha, hb] <;> rfl) ?_
     refine Rq ?_
     refine A_makeSlice (ms28 _ _ (P.length : Int) _ _ _ (by omega) (by omega) (by simp (disch := first | omega | (simp only [List.length_map, List.length_append, List.length_set, List.length_cons, List.length_nil]; omega)) only [go_sem, ↓reduceIte, Nat.reduceEqDiff, reduceCtorEq, q0, q5, qi, qx, hfi, hrp, ha, hb]) (by simp (disch := first | omega | (simp only [List.length_map, List.length_append, List.length_set, List.length_cons, List.length_nil]; omega)) only [go_sem, ↓reduceIte, Nat.reduceEqDiff, reduceCtorEq, q0, q5, qi, qx, hfi, hrp, ha, hb])) ?_
     intro H3 n2
     have en2 := n2.len
     have q0 := (n2.old _ (hget_lt q0)).trans q0
     have q5 := (n2.old _ (hget_lt q5)).trans q5
     have qi := n2.new
     rewrite [Int.toNat_natCast]
     rw [Int.toNat_natCast] at qi
     refine Rq ?_
     have tr : ∀ a b c d e f g h i j k m n o p q r s t u v w x y z A B C D E F G H I J K L M N O P Q R S T U : AV, let l := lc_raccept_53 a b c d e f g h i j k m n o p q r s t u v w x y z A B C D E F G H I J K L M N O P; trim ((14,U)::(88,T)::(87,S)::(86,R)::(85,Q)::l) l = [(0,a),(1,b),(2,c),(3,d),(5,e),(6,f),(7,g),(8,h),(10,i),(11,j),(13,k),(14,U),(15,n),(16,o),(17,p),(19,q),(27,r),(30,s),(43,t),(45,u),(46,v),(47,w),(48,x),(56,y),(62,z),(63,A),(64,B),(65,C),(73,D),(84,E),(90,F),(91,G),(92,H),(93,I),(124,J),(137,K),(138,L),(139,M),(140,N),(154,O),(164,P)] := by intros; rfl
     refine R_nil (tr ..) ?_; clear tr
     refine then_n ?_
     refine at_seq rfl ?_
     refine rg rfl ?_
     refine Rq ?_
     have tr : ∀ a b c d e f g h i j k m n o p q r s t u v w x y z A B C D E F G H I J K L M N O P Q : AV, let l := lc_raccept_53 a b c d e f g h i j k m n o p q r s t u v w x y z A B C D E F G H I J K L M N O P; trim ((15,Q)::l) l = [(0,a),(1,b),(2,c),(3,d),(5,e),(6,f),(7,g),(8,h),(10,i),(11,j),(13,k),(14,m),(15,Q),(16,o),(17,p),(19,q),(27,r),(30,s),(43,t),(45,u),(46,v),(47,w),(48,x),(56,y),(62,z),(63,A),(64,B),(65,C),(73,D),(84,E),(90,F),(91,G),(92,H),(93,I),(124,J),(137,K),(138,L),(139,M),(140,N),(154,O),(164,P)] := by intros; rfl
     refine R_nil (tr ..) ?_; clear tr
     refine then_n ?_
     refine at_seq rfl ?_
     refine at_seq rfl ?_
     refine rg rfl ?_
     refine Rq ?_
     refine R_q rfl (by simp (disch := first | omega | (simp only [List.length_map, List.length_append, List.length_set, List.length_cons, List.length_nil]; omega)) only [go_sem, ↓reduceIte, Nat.reduceEqDiff, reduceCtorEq, q0, q5, qi, qx, hfi, hrp, ha, hb] <;> rfl) ?_
     refine Rq ?_
     refine Rq ?_
     have tr : ∀ a b c d e f g h i j k m n o p q r s t u v w x y z A B C D E F G H I J K L M N O P Q R S T : AV, let l := lc_raccept_53 a b c d e f g h i j k m n o p q r s t u v w x y z A B C D E F G H I J K L M N O P; trim ((92,T)::(91,S)::(90,R)::(89,Q)::l) l = [(0,a),(1,b),(2,c),(3,d),(5,e),(6,f),(7,g),(8,h),(10,i),(11,j),(13,k),(14,m),(15,n),(16,o),(17,p),(19,q),(27,r),(30,s),(43,t),(45,u),(46,v),(47,w),(48,x),(56,y),(62,z),(63,A),(64,B),(65,C),(73,D),(84,E),(90,R),(91,S),(92,T),(93,I),(124,J),(137,K),(138,L),(139,M),(140,N),(154,O),(164,P)] := by intros; rfl
     refine R_nil (tr ..) ?_; clear tr
     refine then_n ?_
     refine at_block rfl ?_
     refine loop_n rfl (fun mm kv H' => ∃ i : Nat, ∃ c : Int, ∃ x6 x16 x17 x93 x124 : AV, (kv = [(6, x6), (15, AV.i c), (16, x16), (17, x17), (92, AV.i i), (93, x93), (124, x124)]) ∧ (mm = S.length - i) ∧ (hget H' H.length = some (raceC P L)) ∧ (hget H' H1.length = some [.v (.bool false), intsAV S, intsAV R]) ∧ (hget H' H2.length = some ((inL S P.length i).map AV.b)) ∧ (H3.length = H'.length) ∧ (i ≤ S.length) ∧ (setOK t (S.take i) P.length) ∧ (c = sumS P S i)) ⟨0, 0, _, _, _, _, _, rfl, rfl, by exact q0, by exact q5, by exact qi, by rfl, by omega, by intro j hj; simp at hj, by rfl⟩ (by rfl) ?_
     rintro mm kv HI ⟨i, c, x6, x16, x17, x93, x124, rfl, rfl, q0, q5, qi, hHI, hi, hq, hc⟩
     have tr : ∀ a b c d e f g h i j k m n o p q r s t u v w x y z A B C D E F G H I J K L M N O P Q R S T U V W : AV, upd [(0,a),(1,b),(2,c),(3,d),(5,e),(6,f),(7,g),(8,h),(10,i),(11,j),(13,k),(14,m),(15,n),(16,o),(17,p),(19,q),(27,r),(30,s),(43,t),(45,u),(46,v),(47,w),(48,x),(56,y),(62,z),(63,A),(64,B),(65,C),(73,D),(84,E),(90,F),(91,G),(92,H),(93,I),(124,J),(137,K),(138,L),(139,M),(140,N),(154,O),(164,P)] [(6,Q),(15,R),(16,S),(17,T),(92,U),(93,V),(124,W)] = [(0,a),(1,b),(2,c),(3,d),(5,e),(6,Q),(7,g),(8,h),(10,i),(11,j),(13,k),(14,m),(15,R),(16,S),(17,T),(19,q),(27,r),(30,s),(43,t),(45,u),(46,v),(47,w),(48,x),(56,y),(62,z),(63,A),(64,B),(65,C),(73,D),(84,E),(90,F),(91,G),(92,U),(93,V),(124,W),(137,K),(138,L),(139,M),(140,N),(154,O),(164,P)] := by intros; rfl
     refine W_to (tr ..) ?_; clear tr
     have hcr := sumS_rng (P := P) (S := S) g.pt i (fun j hj => setT_rng hq hi j hj)
     refine at_seq rfl ?_
     refine rg rfl ?_
     refine Rq ?_
     have tr : ∀ a b c d e f g h i j k m n o p q r s t u v w x y z A B C D E F G H I J K L M N O P Q : AV, let l := lc_raccept_53 a b c d e f g h i j k m n o p q r s t u v w x y z A B C D E F G H I J K L M N O P; trim ((93,Q)::l) l = [(0,a),(1,b),(2,c),(3,d),(5,e),(6,f),(7,g),(8,h),(10,i),(11,j),(13,k),(14,m),(15,n),(16,o),(17,p),(19,q),(27,r),(30,s),(43,t),(45,u),(46,v),(47,w),(48,x),(56,y),(62,z),(63,A),(64,B),(65,C),(73,D),(84,E),(90,F),(91,G),(92,H),(93,Q),(124,J),(137,K),(138,L),(139,M),(140,N),(154,O),(164,P)] := by intros; rfl
     refine R_nil (tr ..) ?_; clear tr
     refine then_n ?_
     refine at_seq rfl ?_
     refine cdd (fun h12 => ?_) (fun h12 => ?_)
     ·
      try simp only [decide_eq_true_eq, decide_eq_false_iff_not, Bool.not_eq_true', Bool.not_eq_false', beq_iff_eq, beq_eq_false_iff_ne, ne_eq] at h12
      refine at_skip rfl ?_
      refine then_n ?_
      refine at_seq rfl ?_
      refine at_block rfl ?_
      refine at_seq rfl ?_
      refine rg rfl ?_
      refine Rq ?_
      refine Rq ?_
      refine R_q rfl (by simp (disch := first | omega | (simp only [List.length_map, List.length_append, List.length_set, List.length_cons, List.length_nil]; omega)) only [go_sem, ↓reduceIte, Nat.reduceEqDiff, reduceCtorEq, q0, q5, qi, qx, hfi, hrp, ha, hb] <;> rfl) ?_
      refine Rq ?_
      refine Rq ?_
      have tr : ∀ a b c d e f g h i j k m n o p q r s t u v w x y z A B C D E F G H I J K L M N O P Q R S T U : AV, let l := lc_raccept_53 a b c d e f g h i j k m n o p q r s t u v w x y z A B C D E F G H I J K L M N O P; trim ((17,U)::(16,T)::(96,S)::(95,R)::(94,Q)::l) l = [(0,a),(1,b),(2,c),(3,d),(5,e),(6,f),(7,g),(8,h),(10,i),(11,j),(13,k),(14,m),(15,n),(16,T),(17,U),(19,q),(27,r),(30,s),(43,t),(45,u),(46,v),(47,w),(48,x),(56,y),(62,z),(63,A),(64,B),(65,C),(73,D),(84,E),(90,F),(91,G),(92,H),(93,I),(124,J),(137,K),(138,L),(139,M),(140,N),(154,O),(164,P)] := by intros; rfl
      refine R_nil (tr ..) ?_; clear tr
      refine then_n ?_
      refine at_seq rfl ?_
      refine at_seq rfl ?_
      refine rg rfl ?_
      refine Rq ?_
      refine Rq ?_
      refine Rq ?_
      refine Rp_split (fun h13 => ?_) (fun h13 => ?_)
      ·
       try simp only [decide_eq_true_eq, decide_eq_false_iff_not, Bool.not_eq_true', Bool.not_eq_false', beq_iff_eq, beq_eq_false_iff_ne, ne_eq] at h13
       refine Rn ?_
       refine Rn ?_
       refine Rn ?_
       refine Rn ?_
       refine Rn ?_
       refine Rq ?_
       refine Rq ?_
       refine Rn ?_
       refine Rn ?_
       refine Rn ?_
       refine Rq ?_
       refine Rq ?_
       refine Rn ?_
       refine Rn ?_
       refine Rn ?_
       refine Ru ?_
       refine Ru ?_
       refine Ru ?_
       refine Ru ?_
       refine Ru ?_
       have hfi : gt S ((i : Int) - 1).toNat = gt S (i - 1) := by rw [show ((i : Int) - 1).toNat = i - 1 by omega]
       refine Ru ?_
       refine Ru ?_
       refine Ru ?_
       refine Rn ?_
       refine Rq ?_
       have tr : ∀ a b c d e f g h i j k m n o p q r s t u v w x y z A B C D E F G H I J K L M N O P Q R S T U V W X Y Z a1 b1 c1 d1 e1 f1 g1 h1 i1 j1 k1 m1 n1 o1 p1 q1 r1 s1 : AV, let l := lc_raccept_53 a b c d e f g h i j k m n o p q r s t u v w x y z A B C D E F G H I J K L M N O P; trim ((124,s1)::(123,r1)::(122,q1)::(121,p1)::(120,o1)::(119,n1)::(118,m1)::(117,k1)::(116,j1)::(115,i1)::(114,h1)::(113,g1)::(112,f1)::(111,e1)::(110,d1)::(109,c1)::(108,b1)::(107,a1)::(106,Z)::(105,Y)::(104,X)::(103,W)::(102,V)::(101,U)::(100,T)::(99,S)::(98,R)::(97,Q)::l) l = [(0,a),(1,b),(2,c),(3,d),(5,e),(6,f),(7,g),(8,h),(10,i),(11,j),(13,k),(14,m),(15,n),(16,o),(17,p),(19,q),(27,r),(30,s),(43,t),(45,u),(46,v),(47,w),(48,x),(56,y),(62,z),(63,A),(64,B),(65,C),(73,D),(84,E),(90,F),(91,G),(92,H),(93,I),(124,s1),(137,K),(138,L),(139,M),(140,N),(154,O),(164,P)] := by intros; rfl
       refine R_nil (tr ..) ?_; clear tr
       refine then_n ?_
       refine cdt ?_
       refine at_seq rfl ?_
       refine rg rfl ?_
       refine Rq ?_
       have tr : ∀ a b c d e f g h i j k m n o p q r s t u v w x y z A B C D E F G H I J K L M N O P Q : AV, let l := lc_raccept_53 a b c d e f g h i j k m n o p q r s t u v w x y z A B C D E F G H I J K L M N O P; trim ((6,Q)::l) l = [(0,a),(1,b),(2,c),(3,d),(5,e),(6,Q),(7,g),(8,h),(10,i),(11,j),(13,k),(14,m),(15,n),(16,o),(17,p),(19,q),(27,r),(30,s),(43,t),(45,u),(46,v),(47,w),(48,x),(56,y),(62,z),(63,A),(64,B),(65,C),(73,D),(84,E),(90,F),(91,G),(92,H),(93,I),(124,J),(137,K),(138,L),(139,M),(140,N),(154,O),(164,P)] := by intros; rfl
       refine R_nil (tr ..) ?_; clear tr
       refine then_n ?_
       refine at_ret rfl ?_
       refine then_r ?_
       refine blk_r ?_
       refine then_r ?_
       refine then_r ?_
       refine blk_r ?_
       refine then_r ?_
       refine fpure ?_
       refine ⟨?_, rfl⟩
       rw [accS_f hm0, elimS_a (.inr (.inr (fun hh => by have h7 := hh i (by omega); omega)))]
      ·
       try simp only [decide_eq_true_eq, decide_eq_false_iff_not, Bool.not_eq_true', Bool.not_eq_false', beq_iff_eq, beq_eq_false_iff_ne, ne_eq] at h13
       refine Ry ?_
       refine Rq ?_
       refine Ry ?_
       refine Rq ?_
       refine Ry ?_
       refine R_q rfl (by simp (disch := first | omega | (simp only [List.length_map, List.length_append, List.length_set, List.length_cons, List.length_nil]; omega)) only [go_sem, ↓reduceIte, Nat.reduceEqDiff, reduceCtorEq, q0, q5, qi, qx, hfi, hrp, ha, hb] <;> rfl) ?_
       refine Ry ?_
       refine Rq ?_
       refine Ry ?_
       refine Rq ?_
       refine Rq ?_
       refine Rq ?_
       refine Rp_split (fun h14 => ?_) (fun h14 => ?_)
       ·
        try simp only [decide_eq_true_eq, decide_eq_false_iff_not, Bool.not_eq_true', Bool.not_eq_false', beq_iff_eq, beq_eq_false_iff_ne, ne_eq] at h14
        refine Rn ?_
        refine Rn ?_
        refine Rn ?_
        refine Rq ?_
        refine Rq ?_
        refine Rn ?_
        refine Rn ?_
        refine Rn ?_
        refine Ru ?_
        refine Ru ?_
        refine Ru ?_
        refine Ru ?_
        refine Ru ?_
        have hfi : gt S ((i : Int) - 1).toNat = gt S (i - 1) := by rw [show ((i : Int) - 1).toNat = i - 1 by omega]
        refine Ru ?_
        refine Ru ?_
        refine Ru ?_
        refine Rn ?_
        refine Rq ?_
        have tr : ∀ a b c d e f g h i j k m n o p q r s t u v w x y z A B C D E F G H I J K L M N O P Q R S T U V W X Y Z a1 b1 c1 d1 e1 f1 g1 h1 i1 j1 k1 m1 n1 o1 p1 q1 r1 s1 : AV, let l := lc_raccept_53 a b c d e f g h i j k m n o p q r s t u v w x y z A B C D E F G H I J K L M N O P; trim ((124,s1)::(123,r1)::(122,q1)::(121,p1)::(120,o1)::(119,n1)::(118,m1)::(117,k1)::(116,j1)::(115,i1)::(114,h1)::(113,g1)::(112,f1)::(111,e1)::(110,d1)::(109,c1)::(108,b1)::(107,a1)::(106,Z)::(105,Y)::(104,X)::(103,W)::(102,V)::(101,U)::(100,T)::(99,S)::(98,R)::(97,Q)::l) l = [(0,a),(1,b),(2,c),(3,d),(5,e),(6,f),(7,g),(8,h),(10,i),(11,j),(13,k),(14,m),(15,n),(16,o),(17,p),(19,q),(27,r),(30,s),(43,t),(45,u),(46,v),(47,w),(48,x),(56,y),(62,z),(63,A),(64,B),(65,C),(73,D),(84,E),(90,F),(91,G),(92,H),(93,I),(124,s1),(137,K),(138,L),(139,M),(140,N),(154,O),(164,P)] := by intros; rfl
        refine R_nil (tr ..) ?_; clear tr
        refine then_n ?_
        refine cdt ?_
        refine at_seq rfl ?_
        refine rg rfl ?_
        refine Rq ?_
        have tr : ∀ a b c d e f g h i j k m n o p q r s t u v w x y z A B C D E F G H I J K L M N O P Q : AV, let l := lc_raccept_53 a b c d e f g h i j k m n o p q r s t u v w x y z A B C D E F G H I J K L M N O P; trim ((6,Q)::l) l = [(0,a),(1,b),(2,c),(3,d),(5,e),(6,Q),(7,g),(8,h),(10,i),(11,j),(13,k),(14,m),(15,n),(16,o),(17,p),(19,q),(27,r),(30,s),(43,t),(45,u),(46,v),(47,w),(48,x),(56,y),(62,z),(63,A),(64,B),(65,C),(73,D),(84,E),(90,F),(91,G),(92,H),(93,I),(124,J),(137,K),(138,L),(139,M),(140,N),(154,O),(164,P)] := by intros; rfl
        refine R_nil (tr ..) ?_; clear tr
        refine then_n ?_
        refine at_ret rfl ?_
        refine then_r ?_
        refine blk_r ?_
        refine then_r ?_
        refine then_r ?_
        refine blk_r ?_
        refine then_r ?_
        refine fpure ?_
        refine ⟨?_, rfl⟩
        rw [accS_f hm0, elimS_a (.inr (.inr (fun hh => by have h7 := hh i (by omega); omega)))]
       ·
        try simp only [decide_eq_true_eq, decide_eq_false_iff_not, Bool.not_eq_true', Bool.not_eq_false', beq_iff_eq, beq_eq_false_iff_ne, ne_eq] at h14
        refine Ry ?_
        refine Rq ?_
        refine Ry ?_
        refine Rq ?_
        refine Ry ?_
        refine Rq ?_
        refine Rq ?_
        refine Rq ?_
        refine Rp_split (fun h15 => ?_) (fun h15 => ?_)
        ·
         try simp only [decide_eq_true_eq, decide_eq_false_iff_not, Bool.not_eq_true', Bool.not_eq_false', beq_iff_eq, beq_eq_false_iff_ne, ne_eq] at h15
         refine Rn ?_
         refine Rn ?_
         refine Rn ?_
         refine Ru ?_
         refine Ru ?_
         refine Ru ?_
         refine Ru ?_
         refine Ru ?_
         have hfi : gt S ((i : Int) - 1).toNat = gt S (i - 1) := by rw [show ((i : Int) - 1).toNat = i - 1 by omega]
         refine Ru ?_
         refine Ru ?_
         refine Ru ?_
         refine Rn ?_
         refine Rq ?_
         have tr : ∀ a b c d e f g h i j k m n o p q r s t u v w x y z A B C D E F G H I J K L M N O P Q R S T U V W X Y Z a1 b1 c1 d1 e1 f1 g1 h1 i1 j1 k1 m1 n1 o1 p1 q1 r1 s1 : AV, let l := lc_raccept_53 a b c d e f g h i j k m n o p q r s t u v w x y z A B C D E F G H I J K L M N O P; trim ((124,s1)::(123,r1)::(122,q1)::(121,p1)::(120,o1)::(119,n1)::(118,m1)::(117,k1)::(116,j1)::(115,i1)::(114,h1)::(113,g1)::(112,f1)::(111,e1)::(110,d1)::(109,c1)::(108,b1)::(107,a1)::(106,Z)::(105,Y)::(104,X)::(103,W)::(102,V)::(101,U)::(100,T)::(99,S)::(98,R)::(97,Q)::l) l = [(0,a),(1,b),(2,c),(3,d),(5,e),(6,f),(7,g),(8,h),(10,i),(11,j),(13,k),(14,m),(15,n),(16,o),(17,p),(19,q),(27,r),(30,s),(43,t),(45,u),(46,v),(47,w),(48,x),(56,y),(62,z),(63,A),(64,B),(65,C),(73,D),(84,E),(90,F),(91,G),(92,H),(93,I),(124,s1),(137,K),(138,L),(139,M),(140,N),(154,O),(164,P)] := by intros; rfl
         refine R_nil (tr ..) ?_; clear tr
         refine then_n ?_
         refine cdt ?_
         refine at_seq rfl ?_
         refine rg rfl ?_
         refine Rq ?_
         have tr : ∀ a b c d e f g h i j k m n o p q r s t u v w x y z A B C D E F G H I J K L M N O P Q : AV, let l := lc_raccept_53 a b c d e f g h i j k m n o p q r s t u v w x y z A B C D E F G H I J K L M N O P; trim ((6,Q)::l) l = [(0,a),(1,b),(2,c),(3,d),(5,e),(6,Q),(7,g),(8,h),(10,i),(11,j),(13,k),(14,m),(15,n),(16,o),(17,p),(19,q),(27,r),(30,s),(43,t),(45,u),(46,v),(47,w),(48,x),(56,y),(62,z),(63,A),(64,B),(65,C),(73,D),(84,E),(90,F),(91,G),(92,H),(93,I),(124,J),(137,K),(138,L),(139,M),(140,N),(154,O),(164,P)] := by intros; rfl
         refine R_nil (tr ..) ?_; clear tr
         refine then_n ?_
         refine at_ret rfl ?_
         refine then_r ?_
         refine blk_r ?_
         refine then_r ?_
         refine then_r ?_
         refine blk_r ?_
         refine then_r ?_
         refine fpure ?_
         refine ⟨?_, rfl⟩
         rw [accS_f hm0, elimS_a (.inr (.inr (fun hh => by have h7 := hh i (by omega); omega)))]
        ·
         try simp only [decide_eq_true_eq, decide_eq_false_iff_not, Bool.not_eq_true', Bool.not_eq_false', beq_iff_eq, beq_eq_false_iff_ne, ne_eq] at h15
         refine Ry ?_
         refine Rq ?_
         refine Ry ?_
         refine Rq ?_
         refine Ry ?_
         refine Rq ?_
         refine Rp_split (fun h16 => ?_) (fun h16 => ?_)
         ·
          try simp only [decide_eq_true_eq, decide_eq_false_iff_not, Bool.not_eq_true', Bool.not_eq_false', beq_iff_eq, beq_eq_false_iff_ne, ne_eq] at h16
          refine Ry ?_
          refine Rq ?_
          refine Ry ?_
          refine Rq ?_
          refine Ry ?_
          refine R_q rfl (by simp (disch := first | omega | (simp only [List.length_map, List.length_append, List.length_set, List.length_cons, List.length_nil]; omega)) only [go_sem, ↓reduceIte, Nat.reduceEqDiff, reduceCtorEq, q0, q5, qi, qx, hfi, hrp, ha, hb] <;> rfl) ?_
          refine Ry ?_
          refine Rq ?_
          refine Ry ?_
          refine Rq ?_
          have hfi : gt S ((i : Int) - 1).toNat = gt S (i - 1) := by rw [show ((i : Int) - 1).toNat = i - 1 by omega]
          refine Ry ?_
          refine Rq ?_
          refine Ry ?_
          refine R_q rfl (by simp (disch := first | omega | (simp only [List.length_map, List.length_append, List.length_set, List.length_cons, List.length_nil]; omega)) only [go_sem, ↓reduceIte, Nat.reduceEqDiff, reduceCtorEq, q0, q5, qi, qx, hfi, hrp, ha, hb] <;> rfl) ?_
          refine Ry ?_
          refine Rq ?_
          refine Ry ?_
          refine Rq ?_
          refine Rq ?_
          have tr : ∀ a b c d e f g h i j k m n o p q r s t u v w x y z A B C D E F G H I J K L M N O P Q R S T U V W X Y Z a1 b1 c1 d1 e1 f1 g1 h1 i1 j1 k1 m1 n1 o1 p1 q1 r1 s1 : AV, let l := lc_raccept_53 a b c d e f g h i j k m n o p q r s t u v w x y z A B C D E F G H I J K L M N O P; trim ((124,s1)::(123,r1)::(122,q1)::(121,p1)::(120,o1)::(119,n1)::(118,m1)::(117,k1)::(116,j1)::(115,i1)::(114,h1)::(113,g1)::(112,f1)::(111,e1)::(110,d1)::(109,c1)::(108,b1)::(107,a1)::(106,Z)::(105,Y)::(104,X)::(103,W)::(102,V)::(101,U)::(100,T)::(99,S)::(98,R)::(97,Q)::l) l = [(0,a),(1,b),(2,c),(3,d),(5,e),(6,f),(7,g),(8,h),(10,i),(11,j),(13,k),(14,m),(15,n),(16,o),(17,p),(19,q),(27,r),(30,s),(43,t),(45,u),(46,v),(47,w),(48,x),(56,y),(62,z),(63,A),(64,B),(65,C),(73,D),(84,E),(90,F),(91,G),(92,H),(93,I),(124,s1),(137,K),(138,L),(139,M),(140,N),(154,O),(164,P)] := by intros; rfl
          refine R_nil (tr ..) ?_; clear tr
          refine then_n ?_
          refine cdd (fun h17 => ?_) (fun h17 => ?_)
          ·
           try simp only [decide_eq_true_eq, decide_eq_false_iff_not, Bool.not_eq_true', Bool.not_eq_false', beq_iff_eq, beq_eq_false_iff_ne, ne_eq] at h17
           refine at_seq rfl ?_
           refine rg rfl ?_
           refine Rq ?_
           have tr : ∀ a b c d e f g h i j k m n o p q r s t u v w x y z A B C D E F G H I J K L M N O P Q : AV, let l := lc_raccept_53 a b c d e f g h i j k m n o p q r s t u v w x y z A B C D E F G H I J K L M N O P; trim ((6,Q)::l) l = [(0,a),(1,b),(2,c),(3,d),(5,e),(6,Q),(7,g),(8,h),(10,i),(11,j),(13,k),(14,m),(15,n),(16,o),(17,p),(19,q),(27,r),(30,s),(43,t),(45,u),(46,v),(47,w),(48,x),(56,y),(62,z),(63,A),(64,B),(65,C),(73,D),(84,E),(90,F),(91,G),(92,H),(93,I),(124,J),(137,K),(138,L),(139,M),(140,N),(154,O),(164,P)] := by intros; rfl
           refine R_nil (tr ..) ?_; clear tr
           refine then_n ?_
           refine at_ret rfl ?_
           refine then_r ?_
           refine blk_r ?_
           refine then_r ?_
           refine then_r ?_
           refine blk_r ?_
           refine then_r ?_
           refine fpure ?_
           refine ⟨?_, rfl⟩
           rw [accS_f hm0, elimS_a (.inr (.inr (fun hh => by have h7 := hh i (by omega); have h8 := h7.2.2.2 (by omega); omega)))]
          ·
           try simp only [decide_eq_true_eq, decide_eq_false_iff_not, Bool.not_eq_true', Bool.not_eq_false', beq_iff_eq, beq_eq_false_iff_ne, ne_eq] at h17
           refine at_skip rfl ?_
           refine then_n ?_
           refine at_seq rfl ?_
           refine rg rfl ?_
           have hpx := g.pt (gt S i).toNat (by omega)
           refine Rq ?_
           refine Rq ?_
           refine Rq ?_
           have lq0 := hget_lt q0
           have lq5 := hget_lt q5
           have lqi := hget_lt qi
           have hil := inL_len S P.length i
           refine A_store ty4 (by simp (disch := first | omega | (simp only [List.length_map, List.length_append, List.length_set, List.length_cons, List.length_nil]; omega)) only [go_sem, ↓reduceIte, Nat.reduceEqDiff, reduceCtorEq, q0, q5, qi, qx, hfi, hrp, ha, hb] <;> rfl) (by simp (disch := first | omega | (simp only [List.length_map, List.length_append, List.length_set, List.length_cons, List.length_nil]; omega)) only [go_sem, ↓reduceIte, Nat.reduceEqDiff, reduceCtorEq, q0, q5, qi, qx, hfi, hrp, ha, hb] <;> rfl) qi ⟨by omega, rfl, by simp only [List.length_map]; omega⟩ (k' := (inL S P.length (i + 1)).map AV.b) (by rw [setL_b]; rfl) ?_
           intro HJ w3
           have ew3 := w3.len
           have q0 := (w3.old _ (by omega)).trans q0
           have q5 := (w3.old _ (by omega)).trans q5
           have qi := w3.new
           have tr : ∀ a b c d e f g h i j k m n o p q r s t u v w x y z A B C D E F G H I J K L M N O P Q R S : AV, let l := lc_raccept_53 a b c d e f g h i j k m n o p q r s t u v w x y z A B C D E F G H I J K L M N O P; trim ((127,S)::(126,R)::(125,Q)::l) l = [(0,a),(1,b),(2,c),(3,d),(5,e),(6,f),(7,g),(8,h),(10,i),(11,j),(13,k),(14,m),(15,n),(16,o),(17,p),(19,q),(27,r),(30,s),(43,t),(45,u),(46,v),(47,w),(48,x),(56,y),(62,z),(63,A),(64,B),(65,C),(73,D),(84,E),(90,F),(91,G),(92,H),(93,I),(124,J),(137,K),(138,L),(139,M),(140,N),(154,O),(164,P)] := by intros; rfl
           refine R_nil (tr ..) ?_; clear tr
           refine then_n ?_
           refine rg rfl ?_
           refine Rq ?_
           refine Rq ?_
           refine R_q rfl (by simp (disch := first | omega | (simp only [List.length_map, List.length_append, List.length_set, List.length_cons, List.length_nil]; omega)) only [go_sem, ↓reduceIte, Nat.reduceEqDiff, reduceCtorEq, q0, q5, qi, qx, hfi, hrp, ha, hb] <;> rfl) ?_
           refine Rq ?_
           refine Rq ?_
           refine R_q rfl (by simp (disch := first | omega | (simp only [List.length_map, List.length_append, List.length_set, List.length_cons, List.length_nil]; omega)) only [go_sem, ↓reduceIte, Nat.reduceEqDiff, reduceCtorEq, q0, q5, qi, qx, hfi, hrp, ha, hb] <;> rfl) ?_
           refine Rq ?_
           refine Rq ?_
           have tr : ∀ a b c d e f g h i j k m n o p q r s t u v w x y z A B C D E F G H I J K L M N O P Q R S T U V W X : AV, let l := lc_raccept_53 a b c d e f g h i j k m n o p q r s t u v w x y z A B C D E F G H I J K L M N O P; trim ((15,X)::(134,W)::(133,V)::(132,U)::(131,T)::(130,S)::(129,R)::(128,Q)::l) l = [(0,a),(1,b),(2,c),(3,d),(5,e),(6,f),(7,g),(8,h),(10,i),(11,j),(13,k),(14,m),(15,X),(16,o),(17,p),(19,q),(27,r),(30,s),(43,t),(45,u),(46,v),(47,w),(48,x),(56,y),(62,z),(63,A),(64,B),(65,C),(73,D),(84,E),(90,F),(91,G),(92,H),(93,I),(124,J),(137,K),(138,L),(139,M),(140,N),(154,O),(164,P)] := by intros; rfl
           refine R_nil (tr ..) ?_; clear tr
           refine blk_n ?_
           refine then_n ?_
           refine rg rfl ?_
           refine Rq ?_
           refine Rq ?_
           have tr : ∀ a b c d e f g h i j k m n o p q r s t u v w x y z A B C D E F G H I J K L M N O P Q R : AV, let l := lc_raccept_53 a b c d e f g h i j k m n o p q r s t u v w x y z A B C D E F G H I J K L M N O P; trim ((92,R)::(135,Q)::l) l = [(0,a),(1,b),(2,c),(3,d),(5,e),(6,f),(7,g),(8,h),(10,i),(11,j),(13,k),(14,m),(15,n),(16,o),(17,p),(19,q),(27,r),(30,s),(43,t),(45,u),(46,v),(47,w),(48,x),(56,y),(62,z),(63,A),(64,B),(65,C),(73,D),(84,E),(90,F),(91,G),(92,R),(93,I),(124,J),(137,K),(138,L),(139,M),(140,N),(154,O),(164,P)] := by intros; rfl
           refine R_nil (tr ..) ?_; clear tr
           refine then_n ?_
           exact ⟨_, _, ⟨i + 1, (c + gt P (gt S i).toNat), _, _, _, _, _, rfl, rfl, by exact q0, by exact q5, by exact qi, by (show H3.length = HJ.length; omega), by omega, by exact setT_on hq (by omega) (by omega) (by omega) (by omega) (fun _ => by omega), by rw [sumS, hc]⟩, by rfl, by omega⟩
         ·
          try simp only [decide_eq_true_eq, decide_eq_false_iff_not, Bool.not_eq_true', Bool.not_eq_false', beq_iff_eq, beq_eq_false_iff_ne, ne_eq] at h16
          refine Rn ?_
          refine Rn ?_
          refine Rn ?_
          refine Rn ?_
          refine Rn ?_
          have hfi : gt S ((i : Int) - 1).toNat = gt S (i - 1) := by rw [show ((i : Int) - 1).toNat = i - 1 by omega]
          refine Rn ?_
          refine Rn ?_
          refine Rn ?_
          refine Ry ?_
          refine Rq ?_
          refine Rq ?_
          have tr : ∀ a b c d e f g h i j k m n o p q r s t u v w x y z A B C D E F G H I J K L M N O P Q R S T U V W X Y Z a1 b1 c1 d1 e1 f1 g1 h1 i1 j1 k1 m1 n1 o1 p1 q1 r1 s1 : AV, let l := lc_raccept_53 a b c d e f g h i j k m n o p q r s t u v w x y z A B C D E F G H I J K L M N O P; trim ((124,s1)::(123,r1)::(122,q1)::(121,p1)::(120,o1)::(119,n1)::(118,m1)::(117,k1)::(116,j1)::(115,i1)::(114,h1)::(113,g1)::(112,f1)::(111,e1)::(110,d1)::(109,c1)::(108,b1)::(107,a1)::(106,Z)::(105,Y)::(104,X)::(103,W)::(102,V)::(101,U)::(100,T)::(99,S)::(98,R)::(97,Q)::l) l = [(0,a),(1,b),(2,c),(3,d),(5,e),(6,f),(7,g),(8,h),(10,i),(11,j),(13,k),(14,m),(15,n),(16,o),(17,p),(19,q),(27,r),(30,s),(43,t),(45,u),(46,v),(47,w),(48,x),(56,y),(62,z),(63,A),(64,B),(65,C),(73,D),(84,E),(90,F),(91,G),(92,H),(93,I),(124,s1),(137,K),(138,L),(139,M),(140,N),(154,O),(164,P)] := by intros; rfl
          refine R_nil (tr ..) ?_; clear tr
          refine then_n ?_
          refine cdf ?_
          refine at_skip rfl ?_
          refine then_n ?_
          refine at_seq rfl ?_
          refine rg rfl ?_
          have hpx := g.pt (gt S i).toNat (by omega)
          refine Rq ?_
          refine Rq ?_
          refine Rq ?_
          have lq0 := hget_lt q0
          have lq5 := hget_lt q5
          have lqi := hget_lt qi
          have hil := inL_len S P.length i
          refine A_store ty4 (by simp (disch := first | omega | (simp only [List.length_map, List.length_append, List.length_set, List.length_cons, List.length_nil]; omega)) only [go_sem, ↓reduceIte, Nat.reduceEqDiff, reduceCtorEq, q0, q5, qi, qx, hfi, hrp, ha, hb] <;> rfl) (by simp (disch := first | omega | (simp only [List.length_map, List.length_append, List.length_set, List.length_cons, List.length_nil]; omega)) only [go_sem, ↓reduceIte, Nat.reduceEqDiff, reduceCtorEq, q0, q5, qi, qx, hfi, hrp, ha, hb] <;> rfl) qi ⟨by omega, rfl, by simp only [List.length_map]; omega⟩ (k' := (inL S P.length (i + 1)).map AV.b) (by rw [setL_b]; rfl) ?_
          intro HJ w3
          have ew3 := w3.len
          have q0 := (w3.old _ (by omega)).trans q0
          have q5 := (w3.old _ (by omega)).trans q5
          have qi := w3.new
          have tr : ∀ a b c d e f g h i j k m n o p q r s t u v w x y z A B C D E F G H I J K L M N O P Q R S : AV, let l := lc_raccept_53 a b c d e f g h i j k m n o p q r s t u v w x y z A B C D E F G H I J K L M N O P; trim ((127,S)::(126,R)::(125,Q)::l) l = [(0,a),(1,b),(2,c),(3,d),(5,e),(6,f),(7,g),(8,h),(10,i),(11,j),(13,k),(14,m),(15,n),(16,o),(17,p),(19,q),(27,r),(30,s),(43,t),(45,u),(46,v),(47,w),(48,x),(56,y),(62,z),(63,A),(64,B),(65,C),(73,D),(84,E),(90,F),(91,G),(92,H),(93,I),(124,J),(137,K),(138,L),(139,M),(140,N),(154,O),(164,P)] := by intros; rfl
          refine R_nil (tr ..) ?_; clear tr
          refine then_n ?_
          refine rg rfl ?_
          refine Rq ?_
          refine Rq ?_
          refine R_q rfl (by simp (disch := first | omega | (simp only [List.length_map, List.length_append, List.length_set, List.length_cons, List.length_nil]; omega)) only [go_sem, ↓reduceIte, Nat.reduceEqDiff, reduceCtorEq, q0, q5, qi, qx, hfi, hrp, ha, hb] <;> rfl) ?_
          refine Rq ?_
          refine Rq ?_
          refine R_q rfl (by simp (disch := first | omega | (simp only [List.length_map, List.length_append, List.length_set, List.length_cons, List.length_nil]; omega)) only [go_sem, ↓reduceIte, Nat.reduceEqDiff, reduceCtorEq, q0, q5, qi, qx, hfi, hrp, ha, hb] <;> rfl) ?_
          refine Rq ?_
          refine Rq ?_
          have tr : ∀ a b c d e f g h i j k m n o p q r s t u v w x y z A B C D E F G H I J K L M N O P Q R S T U V W X : AV, let l := lc_raccept_53 a b c d e f g h i j k m n o p q r s t u v w x y z A B C D E F G H I J K L M N O P; trim ((15,X)::(134,W)::(133,V)::(132,U)::(131,T)::(130,S)::(129,R)::(128,Q)::l) l = [(0,a),(1,b),(2,c),(3,d),(5,e),(6,f),(7,g),(8,h),(10,i),(11,j),(13,k),(14,m),(15,X),(16,o),(17,p),(19,q),(27,r),(30,s),(43,t),(45,u),(46,v),(47,w),(48,x),(56,y),(62,z),(63,A),(64,B),(65,C),(73,D),(84,E),(90,F),(91,G),(92,H),(93,I),(124,J),(137,K),(138,L),(139,M),(140,N),(154,O),(164,P)] := by intros; rfl
          refine R_nil (tr ..) ?_; clear tr
          refine blk_n ?_
          refine then_n ?_
          refine rg rfl ?_
          refine Rq ?_
          refine Rq ?_
          have tr : ∀ a b c d e f g h i j k m n o p q r s t u v w x y z A B C D E F G H I J K L M N O P Q R : AV, let l := lc_raccept_53 a b c d e f g h i j k m n o p q r s t u v w x y z A B C D E F G H I J K L M N O P; trim ((92,R)::(135,Q)::l) l = [(0,a),(1,b),(2,c),(3,d),(5,e),(6,f),(7,g),(8,h),(10,i),(11,j),(13,k),(14,m),(15,n),(16,o),(17,p),(19,q),(27,r),(30,s),(43,t),(45,u),(46,v),(47,w),(48,x),(56,y),(62,z),(63,A),(64,B),(65,C),(73,D),(84,E),(90,F),(91,G),(92,R),(93,I),(124,J),(137,K),(138,L),(139,M),(140,N),(154,O),(164,P)] := by intros; rfl
          refine R_nil (tr ..) ?_; clear tr
          refine then_n ?_
          exact ⟨_, _, ⟨i + 1, (c + gt P (gt S i).toNat), _, _, _, _, _, rfl, rfl, by exact q0, by exact q5, by exact qi, by (show H3.length = HJ.length; omega), by omega, by exact setT_on hq (by omega) (by omega) (by omega) (by omega) (fun _ => by omega), by rw [sumS, hc]⟩, by rfl, by omega⟩
     ·
      try simp only [decide_eq_true_eq, decide_eq_false_iff_not, Bool.not_eq_true', Bool.not_eq_false', beq_iff_eq, beq_eq_false_iff_ne, ne_eq] at h12
      refine at_exit rfl ?_
      refine then_x ?_
      refine then_x ?_
      refine blk_x ?_
      refine then_n ?_
      refine at_seq rfl ?_
      refine at_seq rfl ?_
      refine rg rfl ?_
      obtain rfl : i = S.length := by omega
      have hso : setOK t S P.length := by rwa [List.take_length] at hq
      have hcr2 := hcr
      have hil := inL_len S P.length S.length
      have hig : ∀ k, k < P.length → gt (inL S P.length S.length) k = memB S k := fun k hk => by
        have := inL_gt (N := P.length) S.length (Nat.le_refl _) (fun j hj => ⟨(hso j hj).1, (hso j hj).2.1⟩) k hk
        rwa [List.take_length] at this
      refine Rq ?_
      refine R_q rfl (by simp (disch := first | omega | (simp only [List.length_map, List.length_append, List.length_set, List.length_cons, List.length_nil]; omega)) only [go_sem, ↓reduceIte, Nat.reduceEqDiff, reduceCtorEq, q0, q5, qi, qx, hfi, hrp, ha, hb] <;> rfl) ?_
      refine Rq ?_
      refine Rq ?_
      have tr : ∀ a b c d e f g h i j k m n o p q r s t u v w x y z A B C D E F G H I J K L M N O P Q R S T : AV, let l := lc_raccept_53 a b c d e f g h i j k m n o p q r s t u v w x y z A B C D E F G H I J K L M N O P; trim ((139,T)::(138,S)::(137,R)::(136,Q)::l) l = [(0,a),(1,b),(2,c),(3,d),(5,e),(6,f),(7,g),(8,h),(10,i),(11,j),(13,k),(14,m),(15,n),(16,o),(17,p),(19,q),(27,r),(30,s),(43,t),(45,u),(46,v),(47,w),(48,x),(56,y),(62,z),(63,A),(64,B),(65,C),(73,D),(84,E),(90,F),(91,G),(92,H),(93,I),(124,J),(137,R),(138,S),(139,T),(140,N),(154,O),(164,P)] := by intros; rfl
      refine R_nil (tr ..) ?_; clear tr
      refine then_n ?_
      refine at_block rfl ?_
      refine loop_n rfl (fun mm kv H' => ∃ u : Nat, ∃ d : Int, ∃ x19 x140 x154 : AV, (kv = [(15, AV.i d), (19, x19), (139, AV.i u), (140, x140), (154, x154)]) ∧ (mm = L.length - u) ∧ (hget H' H.length = some (raceC P L)) ∧ (hget H' H1.length = some [.v (.bool false), intsAV S, intsAV R]) ∧ (hget H' H2.length = some ((inL S P.length S.length).map AV.b)) ∧ (H3.length ≤ H'.length) ∧ (u ≤ L.length) ∧ (d = sumS P S S.length + inN (memB S) L u)) ⟨0, c, _, _, _, rfl, rfl, by exact q0, by exact q5, by exact qi, by omega, by omega, by rw [inN, hc, Int.add_zero]⟩ (by rfl) ?_
      rintro mm kv HB ⟨u, d, x19, x140, x154, rfl, rfl, q0, q5, qi, hHB, hu, hd⟩
      have tr : ∀ a b c d e f g h i j k m n o p q r s t u v w x y z A B C D E F G H I J K L M N O P Q R S T U : AV, upd [(0,a),(1,b),(2,c),(3,d),(5,e),(6,f),(7,g),(8,h),(10,i),(11,j),(13,k),(14,m),(15,n),(16,o),(17,p),(19,q),(27,r),(30,s),(43,t),(45,u),(46,v),(47,w),(48,x),(56,y),(62,z),(63,A),(64,B),(65,C),(73,D),(84,E),(90,F),(91,G),(92,H),(93,I),(124,J),(137,K),(138,L),(139,M),(140,N),(154,O),(164,P)] [(15,Q),(19,R),(139,S),(140,T),(154,U)] = [(0,a),(1,b),(2,c),(3,d),(5,e),(6,f),(7,g),(8,h),(10,i),(11,j),(13,k),(14,m),(15,Q),(16,o),(17,p),(19,R),(27,r),(30,s),(43,t),(45,u),(46,v),(47,w),(48,x),(56,y),(62,z),(63,A),(64,B),(65,C),(73,D),(84,E),(90,F),(91,G),(92,H),(93,I),(124,J),(137,K),(138,L),(139,S),(140,T),(154,U),(164,P)] := by intros; rfl
      refine W_to (tr ..) ?_; clear tr
      have hdr := inN_rng (memB S) L u
      refine at_seq rfl ?_
      refine rg rfl ?_
      refine Rq ?_
      have tr : ∀ a b c d e f g h i j k m n o p q r s t u v w x y z A B C D E F G H I J K L M N O P Q : AV, let l := lc_raccept_53 a b c d e f g h i j k m n o p q r s t u v w x y z A B C D E F G H I J K L M N O P; trim ((140,Q)::l) l = [(0,a),(1,b),(2,c),(3,d),(5,e),(6,f),(7,g),(8,h),(10,i),(11,j),(13,k),(14,m),(15,n),(16,o),(17,p),(19,q),(27,r),(30,s),(43,t),(45,u),(46,v),(47,w),(48,x),(56,y),(62,z),(63,A),(64,B),(65,C),(73,D),(84,E),(90,F),(91,G),(92,H),(93,I),(124,J),(137,K),(138,L),(139,M),(140,Q),(154,O),(164,P)] := by intros; rfl
      refine R_nil (tr ..) ?_; clear tr
      refine then_n ?_
      refine at_seq rfl ?_
      refine cdd (fun h18 => ?_) (fun h18 => ?_)
      ·
       try simp only [decide_eq_true_eq, decide_eq_false_iff_not, Bool.not_eq_true', Bool.not_eq_false', beq_iff_eq, beq_eq_false_iff_ne, ne_eq] at h18
       refine at_skip rfl ?_
       refine then_n ?_
       refine at_seq rfl ?_
       refine at_block rfl ?_
       refine at_seq rfl ?_
       refine rg rfl ?_
       refine Rq ?_
       refine R_q rfl (by simp (disch := first | omega | (simp only [List.length_map, List.length_append, List.length_set, List.length_cons, List.length_nil]; omega)) only [go_sem, ↓reduceIte, Nat.reduceEqDiff, reduceCtorEq, q0, q5, qi, qx, hfi, hrp, ha, hb] <;> rfl) ?_
       refine A_alloc rfl ?_
       intro HC n4
       have en4 := n4.len
       have q0 := (n4.old _ (hget_lt q0)).trans q0
       have q5 := (n4.old _ (hget_lt q5)).trans q5
       have qi := (n4.old _ (hget_lt qi)).trans qi
       have qx := n4.new
       have lq0 := hget_lt q0
       have lq5 := hget_lt q5
       have lqi := hget_lt qi
       have lqx := hget_lt qx
       refine A_store ty58 (by simp (disch := first | omega | (simp only [List.length_map, List.length_append, List.length_set, List.length_cons, List.length_nil]; omega)) only [go_sem, ↓reduceIte, Nat.reduceEqDiff, reduceCtorEq, q0, q5, qi, qx, hfi, hrp, ha, hb] <;> rfl) (by simp (disch := first | omega | (simp only [List.length_map, List.length_append, List.length_set, List.length_cons, List.length_nil]; omega)) only [go_sem, ↓reduceIte, Nat.reduceEqDiff, reduceCtorEq, q0, q5, qi, qx, hfi, hrp, ha, hb] <;> rfl) qx ⟨by omega, rfl, by first | exact Nat.le_refl _ | simp⟩ (show _ = prC (gt L u) from rfl) ?_
       intro HD w4
       have ew4 := w4.len
       have q0 := (w4.old _ (by omega)).trans q0
       have q5 := (w4.old _ (by omega)).trans q5
       have qi := (w4.old _ (by omega)).trans qi
       have qx := w4.new
       have tr : ∀ a b c d e f g h i j k m n o p q r s t u v w x y z A B C D E F G H I J K L M N O P Q R S : AV, let l := lc_raccept_53 a b c d e f g h i j k m n o p q r s t u v w x y z A B C D E F G H I J K L M N O P; trim ((19,S)::(142,R)::(141,Q)::l) l = [(0,a),(1,b),(2,c),(3,d),(5,e),(6,f),(7,g),(8,h),(10,i),(11,j),(13,k),(14,m),(15,n),(16,o),(17,p),(19,S),(27,r),(30,s),(43,t),(45,u),(46,v),(47,w),(48,x),(56,y),(62,z),(63,A),(64,B),(65,C),(73,D),(84,E),(90,F),(91,G),(92,H),(93,I),(124,J),(137,K),(138,L),(139,M),(140,N),(154,O),(164,P)] := by intros; rfl
       refine R_nil (tr ..) ?_; clear tr
       refine then_n ?_
       refine at_seq rfl ?_
       refine rg rfl ?_
       have he := g.ed u (by omega)
       have ha : gt (inL S P.length S.length) (gt L u).a.toNat = memB S (gt L u).a.toNat := hig _ (by omega)
       have hb : gt (inL S P.length S.length) (gt L u).b.toNat = memB S (gt L u).b.toNat := hig _ (by omega)
       refine Rq ?_
       refine Rq ?_
       refine R_q rfl (by simp (disch := first | omega | (simp only [List.length_map, List.length_append, List.length_set, List.length_cons, List.length_nil]; omega)) only [go_sem, ↓reduceIte, Nat.reduceEqDiff, reduceCtorEq, q0, q5, qi, qx, hfi, hrp, ha, hb] <;> rfl) ?_
       refine Rq ?_
       refine R_q rfl (by simp (disch := first | omega | (simp only [List.length_map, List.length_append, List.length_set, List.length_cons, List.length_nil]; omega)) only [go_sem, ↓reduceIte, Nat.reduceEqDiff, reduceCtorEq, q0, q5, qi, qx, hfi, hrp, ha, hb] <;> rfl) ?_
       refine Rq ?_
       refine Rp_split (fun h19 => ?_) (fun h19 => ?_)
       ·
        try simp only [decide_eq_true_eq, decide_eq_false_iff_not, Bool.not_eq_true', Bool.not_eq_false', beq_iff_eq, beq_eq_false_iff_ne, ne_eq] at h19
        refine Ry ?_
        refine Rq ?_
        refine Ry ?_
        refine Rq ?_
        refine Ry ?_
        refine R_q rfl (by simp (disch := first | omega | (simp only [List.length_map, List.length_append, List.length_set, List.length_cons, List.length_nil]; omega)) only [go_sem, ↓reduceIte, Nat.reduceEqDiff, reduceCtorEq, q0, q5, qi, qx, hfi, hrp, ha, hb] <;> rfl) ?_
        refine Ry ?_
        refine Rq ?_
        refine Ry ?_
        refine R_q rfl (by simp (disch := first | omega | (simp only [List.length_map, List.length_append, List.length_set, List.length_cons, List.length_nil]; omega)) only [go_sem, ↓reduceIte, Nat.reduceEqDiff, reduceCtorEq, q0, q5, qi, qx, hfi, hrp, ha, hb] <;> rfl) ?_
        refine Rq ?_
        have tr : ∀ a b c d e f g h i j k m n o p q r s t u v w x y z A B C D E F G H I J K L M N O P Q R S T U V W X Y Z a1 b1 : AV, let l := lc_raccept_53 a b c d e f g h i j k m n o p q r s t u v w x y z A B C D E F G H I J K L M N O P; trim ((154,b1)::(153,a1)::(152,Z)::(151,Y)::(150,X)::(149,W)::(148,V)::(147,U)::(146,T)::(145,S)::(144,R)::(143,Q)::l) l = [(0,a),(1,b),(2,c),(3,d),(5,e),(6,f),(7,g),(8,h),(10,i),(11,j),(13,k),(14,m),(15,n),(16,o),(17,p),(19,q),(27,r),(30,s),(43,t),(45,u),(46,v),(47,w),(48,x),(56,y),(62,z),(63,A),(64,B),(65,C),(73,D),(84,E),(90,F),(91,G),(92,H),(93,I),(124,J),(137,K),(138,L),(139,M),(140,N),(154,b1),(164,P)] := by intros; rfl
        refine R_nil (tr ..) ?_; clear tr
        refine then_n ?_
        refine cdd (fun h20 => ?_) (fun h20 => ?_)
        ·
         try simp only [decide_eq_true_eq, decide_eq_false_iff_not, Bool.not_eq_true', Bool.not_eq_false', beq_iff_eq, beq_eq_false_iff_ne, ne_eq] at h20
         refine rg rfl ?_
         refine Rq ?_
         refine Rq ?_
         refine Rq ?_
         have tr : ∀ a b c d e f g h i j k m n o p q r s t u v w x y z A B C D E F G H I J K L M N O P Q R S : AV, let l := lc_raccept_53 a b c d e f g h i j k m n o p q r s t u v w x y z A B C D E F G H I J K L M N O P; trim ((15,S)::(156,R)::(155,Q)::l) l = [(0,a),(1,b),(2,c),(3,d),(5,e),(6,f),(7,g),(8,h),(10,i),(11,j),(13,k),(14,m),(15,S),(16,o),(17,p),(19,q),(27,r),(30,s),(43,t),(45,u),(46,v),(47,w),(48,x),(56,y),(62,z),(63,A),(64,B),(65,C),(73,D),(84,E),(90,F),(91,G),(92,H),(93,I),(124,J),(137,K),(138,L),(139,M),(140,N),(154,O),(164,P)] := by intros; rfl
         refine R_nil (tr ..) ?_; clear tr
         refine blk_n ?_
         refine then_n ?_
         refine rg rfl ?_
         refine Rq ?_
         refine Rq ?_
         have tr : ∀ a b c d e f g h i j k m n o p q r s t u v w x y z A B C D E F G H I J K L M N O P Q R : AV, let l := lc_raccept_53 a b c d e f g h i j k m n o p q r s t u v w x y z A B C D E F G H I J K L M N O P; trim ((139,R)::(157,Q)::l) l = [(0,a),(1,b),(2,c),(3,d),(5,e),(6,f),(7,g),(8,h),(10,i),(11,j),(13,k),(14,m),(15,n),(16,o),(17,p),(19,q),(27,r),(30,s),(43,t),(45,u),(46,v),(47,w),(48,x),(56,y),(62,z),(63,A),(64,B),(65,C),(73,D),(84,E),(90,F),(91,G),(92,H),(93,I),(124,J),(137,K),(138,L),(139,R),(140,N),(154,O),(164,P)] := by intros; rfl
         refine R_nil (tr ..) ?_; clear tr
         refine then_n ?_
         exact ⟨_, _, ⟨u + 1, (d + 2), _, _, _, rfl, rfl, by exact q0, by exact q5, by exact qi, by (show H3.length ≤ HD.length; omega), by omega, by first | (rw [inN_hit (by assumption) (by assumption), hd]; omega) | (rw [inN_miss (.inr (by assumption)), hd]) | (rw [inN_miss (.inl (by assumption)), hd])⟩, by rfl, by omega⟩
        ·
         try simp only [decide_eq_true_eq, decide_eq_false_iff_not, Bool.not_eq_true', Bool.not_eq_false', beq_iff_eq, beq_eq_false_iff_ne, ne_eq] at h20
         refine at_skip rfl ?_
         refine blk_n ?_
         refine then_n ?_
         refine rg rfl ?_
         refine Rq ?_
         refine Rq ?_
         have tr : ∀ a b c d e f g h i j k m n o p q r s t u v w x y z A B C D E F G H I J K L M N O P Q R : AV, let l := lc_raccept_53 a b c d e f g h i j k m n o p q r s t u v w x y z A B C D E F G H I J K L M N O P; trim ((139,R)::(157,Q)::l) l = [(0,a),(1,b),(2,c),(3,d),(5,e),(6,f),(7,g),(8,h),(10,i),(11,j),(13,k),(14,m),(15,n),(16,o),(17,p),(19,q),(27,r),(30,s),(43,t),(45,u),(46,v),(47,w),(48,x),(56,y),(62,z),(63,A),(64,B),(65,C),(73,D),(84,E),(90,F),(91,G),(92,H),(93,I),(124,J),(137,K),(138,L),(139,R),(140,N),(154,O),(164,P)] := by intros; rfl
         refine R_nil (tr ..) ?_; clear tr
         refine then_n ?_
         exact ⟨_, _, ⟨u + 1, d, _, _, _, rfl, rfl, by exact q0, by exact q5, by exact qi, by (show H3.length ≤ HD.length; omega), by omega, by first | (rw [inN_hit (by assumption) (by assumption), hd]; omega) | (rw [inN_miss (.inr (by assumption)), hd]) | (rw [inN_miss (.inl (by assumption)), hd])⟩, by rfl, by omega⟩
       ·
        try simp only [decide_eq_true_eq, decide_eq_false_iff_not, Bool.not_eq_true', Bool.not_eq_false', beq_iff_eq, beq_eq_false_iff_ne, ne_eq] at h19
        refine Rn ?_
        refine Rn ?_
        refine Rn ?_
        refine Rn ?_
        refine Rn ?_
        refine Rq ?_
        have tr : ∀ a b c d e f g h i j k m n o p q r s t u v w x y z A B C D E F G H I J K L M N O P Q R S T U V W X Y Z a1 b1 : AV, let l := lc_raccept_53 a b c d e f g h i j k m n o p q r s t u v w x y z A B C D E F G H I J K L M N O P; trim ((154,b1)::(153,a1)::(152,Z)::(151,Y)::(150,X)::(149,W)::(148,V)::(147,U)::(146,T)::(145,S)::(144,R)::(143,Q)::l) l = [(0,a),(1,b),(2,c),(3,d),(5,e),(6,f),(7,g),(8,h),(10,i),(11,j),(13,k),(14,m),(15,n),(16,o),(17,p),(19,q),(27,r),(30,s),(43,t),(45,u),(46,v),(47,w),(48,x),(56,y),(62,z),(63,A),(64,B),(65,C),(73,D),(84,E),(90,F),(91,G),(92,H),(93,I),(124,J),(137,K),(138,L),(139,M),(140,N),(154,b1),(164,P)] := by intros; rfl
        refine R_nil (tr ..) ?_; clear tr
        refine then_n ?_
        refine cdf ?_
        refine at_skip rfl ?_
        refine blk_n ?_
        refine then_n ?_
        refine rg rfl ?_
        refine Rq ?_
        refine Rq ?_
        have tr : ∀ a b c d e f g h i j k m n o p q r s t u v w x y z A B C D E F G H I J K L M N O P Q R : AV, let l := lc_raccept_53 a b c d e f g h i j k m n o p q r s t u v w x y z A B C D E F G H I J K L M N O P; trim ((139,R)::(157,Q)::l) l = [(0,a),(1,b),(2,c),(3,d),(5,e),(6,f),(7,g),(8,h),(10,i),(11,j),(13,k),(14,m),(15,n),(16,o),(17,p),(19,q),(27,r),(30,s),(43,t),(45,u),(46,v),(47,w),(48,x),(56,y),(62,z),(63,A),(64,B),(65,C),(73,D),(84,E),(90,F),(91,G),(92,H),(93,I),(124,J),(137,K),(138,L),(139,R),(140,N),(154,O),(164,P)] := by intros; rfl
        refine R_nil (tr ..) ?_; clear tr
        refine then_n ?_
        exact ⟨_, _, ⟨u + 1, d, _, _, _, rfl, rfl, by exact q0, by exact q5, by exact qi, by (show H3.length ≤ HD.length; omega), by omega, by first | (rw [inN_hit (by assumption) (by assumption), hd]; omega) | (rw [inN_miss (.inr (by assumption)), hd]) | (rw [inN_miss (.inl (by assumption)), hd])⟩, by rfl, by omega⟩
      ·
       try simp only [decide_eq_true_eq, decide_eq_false_iff_not, Bool.not_eq_true', Bool.not_eq_false', beq_iff_eq, beq_eq_false_iff_ne, ne_eq] at h18
       refine at_exit rfl ?_
       refine then_x ?_
       refine then_x ?_
       refine blk_x ?_
       refine then_n ?_
       refine at_seq rfl ?_
       refine at_seq rfl ?_
       refine rg rfl ?_
       have hdu : d = sumS P S S.length + inN (memB S) L L.length := by rw [show L.length = u by omega]; exact hd
       have hmul : 0 ≤ (S.length : Int) * (mostS P L t).1 ∧ (S.length : Int) * (mostS P L t).1 ≤ 2000000 := ⟨Int.mul_nonneg (by omega) (by omega), Int.le_trans (Int.mul_le_mul (show (S.length : Int) ≤ 1000 by omega) (show (mostS P L t).1 ≤ 2000 by omega) (by omega) (by omega)) (by decide)⟩
       have hdr2 := inN_rng (memB S) L L.length
       have hcr3 := sumS_rng (P := P) (S := S) g.pt S.length (fun j hj => ⟨(hso j hj).1, (hso j hj).2.1⟩)
       refine Rq ?_
       refine Rq ?_
       refine R_q rfl (by simp (disch := first | omega | (simp only [List.length_map, List.length_append, List.length_set, List.length_cons, List.length_nil]; omega)) only [go_sem, ↓reduceIte, Nat.reduceEqDiff, reduceCtorEq, q0, q5, qi, qx, hfi, hrp, ha, hb] <;> rfl) ?_
       refine Rq ?_
       refine Rq ?_
       refine Rq ?_
       refine Rq ?_
       have tr : ∀ a b c d e f g h i j k m n o p q r s t u v w x y z A B C D E F G H I J K L M N O P Q R S T U V W : AV, let l := lc_raccept_53 a b c d e f g h i j k m n o p q r s t u v w x y z A B C D E F G H I J K L M N O P; trim ((164,W)::(163,V)::(162,U)::(161,T)::(160,S)::(159,R)::(158,Q)::l) l = [(0,a),(1,b),(2,c),(3,d),(5,e),(6,f),(7,g),(8,h),(10,i),(11,j),(13,k),(14,m),(15,n),(16,o),(17,p),(19,q),(27,r),(30,s),(43,t),(45,u),(46,v),(47,w),(48,x),(56,y),(62,z),(63,A),(64,B),(65,C),(73,D),(84,E),(90,F),(91,G),(92,H),(93,I),(124,J),(137,K),(138,L),(139,M),(140,N),(154,O),(164,W)] := by intros; rfl
       refine R_nil (tr ..) ?_; clear tr
       refine then_n ?_
       refine cdd (fun h21 => ?_) (fun h21 => ?_)
       ·
        try simp only [decide_eq_true_eq, decide_eq_false_iff_not, Bool.not_eq_true', Bool.not_eq_false', beq_iff_eq, beq_eq_false_iff_ne, ne_eq] at h21
        refine at_seq rfl ?_
        refine rg rfl ?_
        refine Rq ?_
        have tr : ∀ a b c d e f g h i j k m n o p q r s t u v w x y z A B C D E F G H I J K L M N O P Q : AV, let l := lc_raccept_53 a b c d e f g h i j k m n o p q r s t u v w x y z A B C D E F G H I J K L M N O P; trim ((6,Q)::l) l = [(0,a),(1,b),(2,c),(3,d),(5,e),(6,Q),(7,g),(8,h),(10,i),(11,j),(13,k),(14,m),(15,n),(16,o),(17,p),(19,q),(27,r),(30,s),(43,t),(45,u),(46,v),(47,w),(48,x),(56,y),(62,z),(63,A),(64,B),(65,C),(73,D),(84,E),(90,F),(91,G),(92,H),(93,I),(124,J),(137,K),(138,L),(139,M),(140,N),(154,O),(164,P)] := by intros; rfl
        refine R_nil (tr ..) ?_; clear tr
        refine then_n ?_
        refine at_ret rfl ?_
        refine then_r ?_
        refine fpure ?_
        refine ⟨?_, rfl⟩
        rw [accS_f hm0, elimS_b (by omega) (by omega) hso (by omega)]
       ·
        try simp only [decide_eq_true_eq, decide_eq_false_iff_not, Bool.not_eq_true', Bool.not_eq_false', beq_iff_eq, beq_eq_false_iff_ne, ne_eq] at h21
        refine at_skip rfl ?_
        refine then_n ?_
        refine at_seq rfl ?_
        refine rg rfl ?_
        refine Rq ?_
        have tr : ∀ a b c d e f g h i j k m n o p q r s t u v w x y z A B C D E F G H I J K L M N O P Q : AV, let l := lc_raccept_53 a b c d e f g h i j k m n o p q r s t u v w x y z A B C D E F G H I J K L M N O P; trim ((6,Q)::l) l = [(0,a),(1,b),(2,c),(3,d),(5,e),(6,Q),(7,g),(8,h),(10,i),(11,j),(13,k),(14,m),(15,n),(16,o),(17,p),(19,q),(27,r),(30,s),(43,t),(45,u),(46,v),(47,w),(48,x),(56,y),(62,z),(63,A),(64,B),(65,C),(73,D),(84,E),(90,F),(91,G),(92,H),(93,I),(124,J),(137,K),(138,L),(139,M),(140,N),(154,O),(164,P)] := by intros; rfl
        refine R_nil (tr ..) ?_; clear tr
        refine then_n ?_
        refine at_ret rfl ?_
        refine fpure ?_
        refine ⟨?_, rfl⟩
        rw [accS_f hm0, elimS_c (by omega) (by omega) hso (by omega)]

end Go.Proofs.Ytdicnojnkbmdlaa
end
section
namespace Go.Proofs.Ytdicnojnkbmdlaa
open Go Go.Am
set_option maxRecDepth 100000
theorem awake53_ok (lim : Nat) (H : Heap) : acall sig 400 lim 33 [] H = some (.v (.bool true), H) := by kernel_rfl
end Go.Proofs.Ytdicnojnkbmdlaa
end
