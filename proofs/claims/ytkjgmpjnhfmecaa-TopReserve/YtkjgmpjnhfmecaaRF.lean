/-
  Walks of the seat of TopReserve. The steps are written by program (walk.py).
-/
import Derived.Test.YtkjgmpjnhfmecaaNw
import Derived.Test.YtkjgmpjnhfmecaaRA
import Derived.Test.YtkjgmpjnhfmecaaRB
set_option linter.unusedSimpArgs false
set_option linter.unusedVariables false
set_option maxHeartbeats 40000000
set_option maxRecDepth 4000
namespace Go.Proofs.Ytkjgmpjnhfmecaa
open Go Go.Am

abbrev lc_place_ok (a b c d e f g h i j k m n o p q r s t u v w x : AV) : Env := [(0,a),(1,b),(3,c),(4,d),(5,e),(6,f),(7,g),(9,h),(10,i),(12,j),(18,k),(20,m),(21,n),(22,o),(23,p),(29,q),(32,r),(33,s),(34,t),(35,u),(49,v),(67,w),(71,x)]
theorem place_ok (lim : Nat) (H : Heap) (L : List Fx) (hL0 : 0 < L.length) (hL : L.length ≤ 20) (first rest : Int) (gr : List Int) (g1 : 0 ≤ first ∧ first ≤ 100000) (g2 : 0 ≤ rest ∧ rest ≤ 9) (g3 : gr.length ≤ 20) (g4 : ∀ i, i < gr.length → 0 ≤ gt gr i ∧ gt gr i < 20) (g5 : ∀ i, i < L.length → (0 ≤ (gt L i).h ∧ (gt L i).h < gr.length) ∧ (0 ≤ (gt L i).a ∧ (gt L i).a < gr.length) ∧ (gt L i).h ≠ (gt L i).a) :
    ACall sig lim 7 [fxsAV L, .agg (ssC first rest gr)] H fun r H' => (∃ P : List Pd, r = .tup [pdsAV P, AV.i 0] ∧ P.length = L.length ∧ ∀ i, i < P.length → first ≤ (gt P i).d ∧ (gt P i).d ≤ first + 60 * (i + 1)) ∧ H' = H := by
 have q3 : True := trivial
 have q9 : True := trivial
 have qo : True := trivial
 have q12 : True := trivial
 have qn : True := trivial
 refine ACall_pure (fa := fa7) rfl rfl rfl rfl ?_
 have tr : ∀ a0 a1 : AV, env0 fa7.keep [a0, a1] = [(0,a0),(1,a1),(3,.any),(4,.any),(5,.any),(6,.any),(7,.any),(9,.any),(10,.any),(12,.any),(18,.any),(20,.any),(21,.any),(22,.any),(23,.any),(29,.any),(32,.any),(33,.any),(34,.any),(35,.any),(49,.any),(67,.any),(71,.any)] := fun a0 a1 => rfl
 refine W_to (tr _ _) ?_; clear tr
 refine at_seq rfl ?_
 refine rg rfl ?_
 refine A_box rfl (by simp (disch := first | omega | (simp only [List.length_map, List.length_append, List.length_set, List.length_cons, List.length_nil]; omega)) only [go_sem, ↓reduceIte, Nat.reduceEqDiff, reduceCtorEq]; rfl) ?_
 intro H1 n1
 have en1 := n1.len
 have q3 := n1.new
 refine Rq ?_
 refine Rq ?_
 have tr : ∀ a b c d e f g h i j k m n o p q r s t u v w x y z A : AV, let l := lc_place_ok a b c d e f g h i j k m n o p q r s t u v w x; trim ((5,A)::(4,z)::(3,y)::l) l = [(0,a),(1,b),(3,y),(4,z),(5,A),(6,f),(7,g),(9,h),(10,i),(12,j),(18,k),(20,m),(21,n),(22,o),(23,p),(29,q),(32,r),(33,s),(34,t),(35,u),(49,v),(67,w),(71,x)] := by intros; rfl
 refine R_nil (tr ..) ?_; clear tr
 refine then_n ?_
 refine at_seq rfl ?_
 refine at_seq rfl ?_
 refine rg rfl ?_
 refine Rq ?_
 refine Rq ?_
 refine R_q rfl (by simp (disch := first | omega | (simp only [List.length_map, List.length_append, List.length_set, List.length_cons, List.length_nil]; omega)) only [go_sem, ↓reduceIte, Nat.reduceEqDiff, reduceCtorEq, q3, q9, qo, q12, qn]; rfl) ?_
 refine Rcall ?_
 refine ACall_eq (season_ok _ _ _ first rest gr (by omega) (by omega) (by omega) g3 g4) ?_
 refine Rq ?_
 have tr : ∀ a b c d e f g h i j k m n o p q r s t u v w x y z A B C : AV, let l := lc_place_ok a b c d e f g h i j k m n o p q r s t u v w x; trim ((6,C)::(16,B)::(15,A)::(14,z)::(13,y)::l) l = [(0,a),(1,b),(3,c),(4,d),(5,e),(6,C),(7,g),(9,h),(10,i),(12,j),(18,k),(20,m),(21,n),(22,o),(23,p),(29,q),(32,r),(33,s),(34,t),(35,u),(49,v),(67,w),(71,x)] := by intros; rfl
 refine R_nil (tr ..) ?_; clear tr
 refine then_n ?_
 refine at_seq rfl ?_
 refine rg rfl ?_
 refine Rq ?_
 refine Rq ?_
 have tr : ∀ a b c d e f g h i j k m n o p q r s t u v w x y z : AV, let l := lc_place_ok a b c d e f g h i j k m n o p q r s t u v w x; trim ((18,z)::(17,y)::l) l = [(0,a),(1,b),(3,c),(4,d),(5,e),(6,f),(7,g),(9,h),(10,i),(12,j),(18,z),(20,m),(21,n),(22,o),(23,p),(29,q),(32,r),(33,s),(34,t),(35,u),(49,v),(67,w),(71,x)] := by intros; rfl
 refine R_nil (tr ..) ?_; clear tr
 refine then_n ?_
 refine cdd (fun h1 => ?_) (fun h1 => ?_)
 ·
  try simp only [decide_eq_true_eq, decide_eq_false_iff_not, Bool.not_eq_true', Bool.not_eq_false', beq_iff_eq, beq_eq_false_iff_ne, ne_eq] at h1
  first | omega | exact absurd trivial h1 | (simp at h1; done)
 ·
  try simp only [decide_eq_true_eq, decide_eq_false_iff_not, Bool.not_eq_true', Bool.not_eq_false', beq_iff_eq, beq_eq_false_iff_ne, ne_eq] at h1
  refine at_skip rfl ?_
  refine then_n ?_
  refine at_seq rfl ?_
  refine rg rfl ?_
  refine Rq ?_
  have tr : ∀ a b c d e f g h i j k m n o p q r s t u v w x y : AV, let l := lc_place_ok a b c d e f g h i j k m n o p q r s t u v w x; trim ((7,y)::l) l = [(0,a),(1,b),(3,c),(4,d),(5,e),(6,f),(7,y),(9,h),(10,i),(12,j),(18,k),(20,m),(21,n),(22,o),(23,p),(29,q),(32,r),(33,s),(34,t),(35,u),(49,v),(67,w),(71,x)] := by intros; rfl
  refine R_nil (tr ..) ?_; clear tr
  refine then_n ?_
  refine at_seq rfl ?_
  refine at_seq rfl ?_
  refine rg rfl ?_
  refine Rq ?_
  refine Rq ?_
  refine Rq ?_
  have tr : ∀ a b c d e f g h i j k m n o p q r s t u v w x y z A : AV, let l := lc_place_ok a b c d e f g h i j k m n o p q r s t u v w x; trim ((22,A)::(21,z)::(20,y)::l) l = [(0,a),(1,b),(3,c),(4,d),(5,e),(6,f),(7,g),(9,h),(10,i),(12,j),(18,k),(20,y),(21,z),(22,A),(23,p),(29,q),(32,r),(33,s),(34,t),(35,u),(49,v),(67,w),(71,x)] := by intros; rfl
  refine R_nil (tr ..) ?_; clear tr
  refine then_n ?_
  refine at_block rfl ?_
  refine loop_n rfl (fun mm kv H' => ∃ u : Nat, ∃ o : AV, ∃ P : List Pd, ∃ x4 x5 x9 x10 x12 x23 x29 x32 x33 x34 x35 x49 x67 x71 : AV, (kv = [(4, x4), (5, x5), (7, o), (9, x9), (10, x10), (12, x12), (22, AV.i u), (23, x23), (29, x29), (32, x32), (33, x33), (34, x34), (35, x35), (49, x49), (67, x67), (71, x71)]) ∧ (mm = L.length - u) ∧ (u ≤ L.length) ∧ (P.length = u) ∧ (∀ i, i < P.length → first ≤ (gt P i).d ∧ (gt P i).d ≤ first + 60 * (i + 1)) ∧ (hget H' H.length = some (ssC first rest gr)) ∧ (OutG 5 H1.length H' o u (flatP P))) ⟨0, nilO, [], _, _, _, _, _, _, _, _, _, _, _, _, _, _, rfl, rfl, by omega, by rfl, by intro i hi; simp at hi, by exact q3, by exact .inl ⟨rfl, rfl⟩⟩ (by rfl) ?_
  rintro mm kv HL ⟨u, o, P, x4, x5, x9, x10, x12, x23, x29, x32, x33, x34, x35, x49, x67, x71, rfl, rfl, hu, hPl, hPd, q3, hO⟩
  have tr : ∀ a b c d e f g h i j k m n o p q r s t u v w x y z A B C D E F G H I J K L M N : AV, upd [(0,a),(1,b),(3,c),(4,d),(5,e),(6,f),(7,g),(9,h),(10,i),(12,j),(18,k),(20,m),(21,n),(22,o),(23,p),(29,q),(32,r),(33,s),(34,t),(35,u),(49,v),(67,w),(71,x)] [(4,y),(5,z),(7,A),(9,B),(10,C),(12,D),(22,E),(23,F),(29,G),(32,H),(33,I),(34,J),(35,K),(49,L),(67,M),(71,N)] = [(0,a),(1,b),(3,c),(4,y),(5,z),(6,f),(7,A),(9,B),(10,C),(12,D),(18,k),(20,m),(21,n),(22,E),(23,F),(29,G),(32,H),(33,I),(34,J),(35,K),(49,L),(67,M),(71,N)] := by intros; rfl
  refine W_to (tr ..) ?_; clear tr
  refine at_seq rfl ?_
  refine rg rfl ?_
  refine Rq ?_
  have tr : ∀ a b c d e f g h i j k m n o p q r s t u v w x y : AV, let l := lc_place_ok a b c d e f g h i j k m n o p q r s t u v w x; trim ((23,y)::l) l = [(0,a),(1,b),(3,c),(4,d),(5,e),(6,f),(7,g),(9,h),(10,i),(12,j),(18,k),(20,m),(21,n),(22,o),(23,y),(29,q),(32,r),(33,s),(34,t),(35,u),(49,v),(67,w),(71,x)] := by intros; rfl
  refine R_nil (tr ..) ?_; clear tr
  refine then_n ?_
  refine at_seq rfl ?_
  refine cdd (fun h2 => ?_) (fun h2 => ?_)
  ·
   try simp only [decide_eq_true_eq, decide_eq_false_iff_not, Bool.not_eq_true', Bool.not_eq_false', beq_iff_eq, beq_eq_false_iff_ne, ne_eq] at h2
   refine at_skip rfl ?_
   refine then_n ?_
   refine at_seq rfl ?_
   refine at_block rfl ?_
   refine at_seq rfl ?_
   refine rg rfl ?_
   refine Rq ?_
   refine R_q rfl (by simp (disch := first | omega | (simp only [List.length_map, List.length_append, List.length_set, List.length_cons, List.length_nil]; omega)) only [go_sem, ↓reduceIte, Nat.reduceEqDiff, reduceCtorEq, q3, q9, qo, q12, qn]; rfl) ?_
   have mq3 := hget_lt q3
   refine A_alloc rfl ?_
   intro H9 n9
   have en9 := n9.len
   have q3 := (n9.old _ (hget_lt q3)).trans q3
   have q9 := n9.new
   have lq3 := hget_lt q3
   have lq9 := hget_lt q9
   refine A_store ty37 (by simp (disch := first | omega | (simp only [List.length_map, List.length_append, List.length_set, List.length_cons, List.length_nil]; omega)) only [go_sem, ↓reduceIte, Nat.reduceEqDiff, reduceCtorEq, q9] <;> rfl) (by simp (disch := first | omega | (simp only [List.length_map, List.length_append, List.length_set, List.length_cons, List.length_nil]; omega)) only [go_sem, ↓reduceIte, Nat.reduceEqDiff, reduceCtorEq, q9] <;> rfl) q9 ⟨by omega, rfl, by first | exact Nat.le_refl _ | simp⟩ (k' := fxC (gt L u)) rfl ?_
   intro H9w w9
   have ew9 := w9.len
   have q3 := (w9.old _ (by omega)).trans q3
   have q9 := w9.new
   have hO := hO.rec n9 w9
   have g5u := g5 u (by omega)
   have tr : ∀ a b c d e f g h i j k m n o p q r s t u v w x y z A : AV, let l := lc_place_ok a b c d e f g h i j k m n o p q r s t u v w x; trim ((9,A)::(25,z)::(24,y)::l) l = [(0,a),(1,b),(3,c),(4,d),(5,e),(6,f),(7,g),(9,A),(10,i),(12,j),(18,k),(20,m),(21,n),(22,o),(23,p),(29,q),(32,r),(33,s),(34,t),(35,u),(49,v),(67,w),(71,x)] := by intros; rfl
   refine R_nil (tr ..) ?_; clear tr
   refine then_n ?_
   refine at_seq rfl ?_
   refine at_seq rfl ?_
   refine rg rfl ?_
   refine R_q rfl (by simp (disch := first | omega | (simp only [List.length_map, List.length_append, List.length_set, List.length_cons, List.length_nil]; omega)) only [go_sem, ↓reduceIte, Nat.reduceEqDiff, reduceCtorEq, q3, q9, qo, q12, qn]; rfl) ?_
   refine R_q rfl (by simp (disch := first | omega | (simp only [List.length_map, List.length_append, List.length_set, List.length_cons, List.length_nil]; omega)) only [go_sem, ↓reduceIte, Nat.reduceEqDiff, reduceCtorEq, q3, q9, qo, q12, qn]; rfl) ?_
   refine Rcall ?_
   refine ACall_eq (known_ok _ _ (gt L u) first rest gr g5u.1 g5u.2.1 g5u.2.2 (by omega)) ?_
   refine Rq ?_
   have tr : ∀ a b c d e f g h i j k m n o p q r s t u v w x y z A B : AV, let l := lc_place_ok a b c d e f g h i j k m n o p q r s t u v w x; trim ((29,B)::(28,A)::(27,z)::(26,y)::l) l = [(0,a),(1,b),(3,c),(4,d),(5,e),(6,f),(7,g),(9,h),(10,i),(12,j),(18,k),(20,m),(21,n),(22,o),(23,p),(29,B),(32,r),(33,s),(34,t),(35,u),(49,v),(67,w),(71,x)] := by intros; rfl
   refine R_nil (tr ..) ?_; clear tr
   refine then_n ?_
   refine cdf ?_
   refine at_skip rfl ?_
   refine then_n ?_
   refine at_seq rfl ?_
   refine rg rfl ?_
   refine Rq ?_
   refine R_q rfl (by simp (disch := first | omega | (simp only [List.length_map, List.length_append, List.length_set, List.length_cons, List.length_nil]; omega)) only [go_sem, ↓reduceIte, Nat.reduceEqDiff, reduceCtorEq, q3, q9, qo, q12, qn]; rfl) ?_
   refine Rq ?_
   have tr : ∀ a b c d e f g h i j k m n o p q r s t u v w x y z A : AV, let l := lc_place_ok a b c d e f g h i j k m n o p q r s t u v w x; trim ((10,A)::(31,z)::(30,y)::l) l = [(0,a),(1,b),(3,c),(4,d),(5,e),(6,f),(7,g),(9,h),(10,A),(12,j),(18,k),(20,m),(21,n),(22,o),(23,p),(29,q),(32,r),(33,s),(34,t),(35,u),(49,v),(67,w),(71,x)] := by intros; rfl
   refine R_nil (tr ..) ?_; clear tr
   refine then_n ?_
   refine at_seq rfl ?_
   refine at_seq rfl ?_
   refine rg rfl ?_
   refine Rq ?_
   refine R_q (r := AV.i (u : Nat)) rfl (by simp (disch := first | omega | (simp only [List.length_map, List.length_append, List.length_set, List.length_cons, List.length_nil]; omega)) only [go_sem, ↓reduceIte, Nat.reduceEqDiff, reduceCtorEq]; exact hO.len33) ?_
   refine Rq ?_
   have tr : ∀ a b c d e f g h i j k m n o p q r s t u v w x y z A : AV, let l := lc_place_ok a b c d e f g h i j k m n o p q r s t u v w x; trim ((34,A)::(33,z)::(32,y)::l) l = [(0,a),(1,b),(3,c),(4,d),(5,e),(6,f),(7,g),(9,h),(10,i),(12,j),(18,k),(20,m),(21,n),(22,o),(23,p),(29,q),(32,y),(33,z),(34,A),(35,u),(49,v),(67,w),(71,x)] := by intros; rfl
   refine R_nil (tr ..) ?_; clear tr
   refine then_n ?_
   refine at_block rfl ?_
   refine loop_n rfl (fun mm kv H' => ∃ k : Nat, ∃ dy : Int, ∃ x12 x35 x49 : AV, (kv = [(10, AV.i dy), (12, x12), (34, AV.i k), (35, x35), (49, x49)]) ∧ (mm = 1 * (u - k)) ∧ (k ≤ u) ∧ (first ≤ dy ∧ dy ≤ first + 60 * u + 10) ∧ (hget H' H.length = some (ssC first rest gr)) ∧ (hget H' HL.length = some (fxC (gt L u))) ∧ (OutG 5 H1.length H' o u (flatP P))) ⟨0, first, _, _, _, rfl, rfl, by omega, by omega, by exact q3, by exact q9, by exact hO⟩ (by rfl) ?_
   rintro mm kv HM ⟨k, dy, x12, x35, x49, rfl, rfl, hk, hdy, q3, q9, hO⟩
   have tr : ∀ a b c d e f g h i j k m n o p q r s t u v w x y z A B C : AV, upd [(0,a),(1,b),(3,c),(4,d),(5,e),(6,f),(7,g),(9,h),(10,i),(12,j),(18,k),(20,m),(21,n),(22,o),(23,p),(29,q),(32,r),(33,s),(34,t),(35,u),(49,v),(67,w),(71,x)] [(10,y),(12,z),(34,A),(35,B),(49,C)] = [(0,a),(1,b),(3,c),(4,d),(5,e),(6,f),(7,g),(9,h),(10,y),(12,z),(18,k),(20,m),(21,n),(22,o),(23,p),(29,q),(32,r),(33,s),(34,A),(35,B),(49,C),(67,w),(71,x)] := by intros; rfl
   refine W_to (tr ..) ?_; clear tr
   refine at_seq rfl ?_
   refine rg rfl ?_
   refine Rq ?_
   have tr : ∀ a b c d e f g h i j k m n o p q r s t u v w x y : AV, let l := lc_place_ok a b c d e f g h i j k m n o p q r s t u v w x; trim ((35,y)::l) l = [(0,a),(1,b),(3,c),(4,d),(5,e),(6,f),(7,g),(9,h),(10,i),(12,j),(18,k),(20,m),(21,n),(22,o),(23,p),(29,q),(32,r),(33,s),(34,t),(35,y),(49,v),(67,w),(71,x)] := by intros; rfl
   refine R_nil (tr ..) ?_; clear tr
   refine then_n ?_
   refine at_seq rfl ?_
   refine cdd (fun h3 => ?_) (fun h3 => ?_)
   ·
    try simp only [decide_eq_true_eq, decide_eq_false_iff_not, Bool.not_eq_true', Bool.not_eq_false', beq_iff_eq, beq_eq_false_iff_ne, ne_eq] at h3
    refine at_skip rfl ?_
    refine then_n ?_
    refine at_seq rfl ?_
    refine at_block rfl ?_
    refine at_seq rfl ?_
    refine rg rfl ?_
    obtain ⟨bo, rfl, hbo, qo⟩ := hO.own (by omega)
    have hpk := hPd k (by omega)
    refine Rq ?_
    refine R_q rfl (by simp (disch := first | omega | (simp only [List.length_map, List.length_append, List.length_set, List.length_cons, List.length_nil]; omega)) only [go_sem, ↓reduceIte, Nat.reduceEqDiff, reduceCtorEq, q3, q9, qo, q12, qn]; rfl) ?_
    have mq3 := hget_lt q3
    have mq9 := hget_lt q9
    have mqo := hget_lt qo
    refine A_alloc rfl ?_
    intro H12 n12
    have en12 := n12.len
    have q3 := (n12.old _ (hget_lt q3)).trans q3
    have q9 := (n12.old _ (hget_lt q9)).trans q9
    have qo := (n12.old _ (hget_lt qo)).trans qo
    have q12 := n12.new
    have lq3 := hget_lt q3
    have lq9 := hget_lt q9
    have lqo := hget_lt qo
    have lq12 := hget_lt q12
    refine A_store ty39 (by simp (disch := first | omega | (simp only [List.length_map, List.length_append, List.length_set, List.length_cons, List.length_nil]; omega)) only [go_sem, ↓reduceIte, Nat.reduceEqDiff, reduceCtorEq, q12] <;> rfl) (by simp (disch := first | omega | (simp only [List.length_map, List.length_append, List.length_set, List.length_cons, List.length_nil]; omega)) only [go_sem, ↓reduceIte, Nat.reduceEqDiff, reduceCtorEq, q12] <;> rfl) q12 ⟨by omega, rfl, by first | exact Nat.le_refl _ | simp⟩ (k' := pdC (gt P k)) rfl ?_
    intro H12w w12
    have ew12 := w12.len
    have q3 := (w12.old _ (by omega)).trans q3
    have q9 := (w12.old _ (by omega)).trans q9
    have qo := (w12.old _ (by omega)).trans qo
    have q12 := w12.new
    have tr : ∀ a b c d e f g h i j k m n o p q r s t u v w x y z A : AV, let l := lc_place_ok a b c d e f g h i j k m n o p q r s t u v w x; trim ((12,A)::(37,z)::(36,y)::l) l = [(0,a),(1,b),(3,c),(4,d),(5,e),(6,f),(7,g),(9,h),(10,i),(12,A),(18,k),(20,m),(21,n),(22,o),(23,p),(29,q),(32,r),(33,s),(34,t),(35,u),(49,v),(67,w),(71,x)] := by intros; rfl
    refine R_nil (tr ..) ?_; clear tr
    refine then_n ?_
    refine at_seq rfl ?_
    refine rg rfl ?_
    refine Rq ?_
    refine R_q rfl (by simp (disch := first | omega | (simp only [List.length_map, List.length_append, List.length_set, List.length_cons, List.length_nil]; omega)) only [go_sem, ↓reduceIte, Nat.reduceEqDiff, reduceCtorEq, q3, q9, qo, q12, qn]; rfl) ?_
    refine Rq ?_
    refine R_q rfl (by simp (disch := first | omega | (simp only [List.length_map, List.length_append, List.length_set, List.length_cons, List.length_nil]; omega)) only [go_sem, ↓reduceIte, Nat.reduceEqDiff, reduceCtorEq, q3, q9, qo, q12, qn]; rfl) ?_
    refine Rcall ?_
    refine ACall_eq (plays_ok _ _ ⟨(gt P k).r, (gt P k).h, (gt P k).a⟩ _) ?_
    refine Rq ?_
    refine Rp_split (fun h4 => ?_) (fun h4 => ?_)
    ·
     try simp only [decide_eq_true_eq, decide_eq_false_iff_not, Bool.not_eq_true', Bool.not_eq_false', beq_iff_eq, beq_eq_false_iff_ne, ne_eq] at h4
     refine Rn ?_
     refine Rn ?_
     refine Rn ?_
     refine Rn ?_
     refine Rn ?_
     refine Rq ?_
     have tr : ∀ a b c d e f g h i j k m n o p q r s t u v w x y z A B C D E F G H I J : AV, let l := lc_place_ok a b c d e f g h i j k m n o p q r s t u v w x; trim ((49,J)::(48,I)::(47,H)::(46,G)::(45,F)::(44,E)::(43,D)::(42,C)::(41,B)::(40,A)::(39,z)::(38,y)::l) l = [(0,a),(1,b),(3,c),(4,d),(5,e),(6,f),(7,g),(9,h),(10,i),(12,j),(18,k),(20,m),(21,n),(22,o),(23,p),(29,q),(32,r),(33,s),(34,t),(35,u),(49,J),(67,w),(71,x)] := by intros; rfl
     refine R_nil (tr ..) ?_; clear tr
     refine then_n ?_
     refine cdt ?_
     refine rg rfl ?_
     refine Rq ?_
     refine Rq ?_
     refine R_q rfl (by simp (disch := first | omega | (simp only [List.length_map, List.length_append, List.length_set, List.length_cons, List.length_nil]; omega)) only [go_sem, ↓reduceIte, Nat.reduceEqDiff, reduceCtorEq, q3, q9, qo, q12, qn]; rfl) ?_
     refine Rq ?_
     refine R_q rfl (by simp (disch := first | omega | (simp only [List.length_map, List.length_append, List.length_set, List.length_cons, List.length_nil]; omega)) only [go_sem, ↓reduceIte, Nat.reduceEqDiff, reduceCtorEq, q3, q9, qo, q12, qn]; rfl) ?_
     refine Rq ?_
     refine Rq ?_
     refine Rq ?_
     refine Rq ?_
     have tr : ∀ a b c d e f g h i j k m n o p q r s t u v w x y z A B C D E F G : AV, let l := lc_place_ok a b c d e f g h i j k m n o p q r s t u v w x; trim ((10,G)::(57,F)::(56,E)::(55,D)::(54,C)::(53,B)::(52,A)::(51,z)::(50,y)::l) l = [(0,a),(1,b),(3,c),(4,d),(5,e),(6,f),(7,g),(9,h),(10,G),(12,j),(18,k),(20,m),(21,n),(22,o),(23,p),(29,q),(32,r),(33,s),(34,t),(35,u),(49,v),(67,w),(71,x)] := by intros; rfl
     refine R_nil (tr ..) ?_; clear tr
     refine blk_n ?_
     refine then_n ?_
     refine rg rfl ?_
     refine Rq ?_
     refine Rq ?_
     have tr : ∀ a b c d e f g h i j k m n o p q r s t u v w x y z : AV, let l := lc_place_ok a b c d e f g h i j k m n o p q r s t u v w x; trim ((34,z)::(58,y)::l) l = [(0,a),(1,b),(3,c),(4,d),(5,e),(6,f),(7,g),(9,h),(10,i),(12,j),(18,k),(20,m),(21,n),(22,o),(23,p),(29,q),(32,r),(33,s),(34,z),(35,u),(49,v),(67,w),(71,x)] := by intros; rfl
     refine R_nil (tr ..) ?_; clear tr
     refine then_n ?_
     exact ⟨_, _, ⟨k + 1, max dy ((gt P k).d + rest + 1), _, _, _, rfl, rfl, by omega, by omega, by exact q3, by exact q9, by exact .inr ⟨by omega, bo, rfl, hbo, qo⟩⟩, by rfl, by omega⟩
    ·
     try simp only [decide_eq_true_eq, decide_eq_false_iff_not, Bool.not_eq_true', Bool.not_eq_false', beq_iff_eq, beq_eq_false_iff_ne, ne_eq] at h4
     refine Ry ?_
     refine Rq ?_
     refine Ry ?_
     refine R_q rfl (by simp (disch := first | omega | (simp only [List.length_map, List.length_append, List.length_set, List.length_cons, List.length_nil]; omega)) only [go_sem, ↓reduceIte, Nat.reduceEqDiff, reduceCtorEq, q3, q9, qo, q12, qn]; rfl) ?_
     refine Ry ?_
     refine Rq ?_
     refine Ry ?_
     refine R_q rfl (by simp (disch := first | omega | (simp only [List.length_map, List.length_append, List.length_set, List.length_cons, List.length_nil]; omega)) only [go_sem, ↓reduceIte, Nat.reduceEqDiff, reduceCtorEq, q3, q9, qo, q12, qn]; rfl) ?_
     refine Ry ?_
     refine Rcall ?_
     refine ACall_eq (plays_ok _ _ ⟨(gt P k).r, (gt P k).h, (gt P k).a⟩ _) ?_
     refine Rq ?_
     have tr : ∀ a b c d e f g h i j k m n o p q r s t u v w x y z A B C D E F G H I J : AV, let l := lc_place_ok a b c d e f g h i j k m n o p q r s t u v w x; trim ((49,J)::(48,I)::(47,H)::(46,G)::(45,F)::(44,E)::(43,D)::(42,C)::(41,B)::(40,A)::(39,z)::(38,y)::l) l = [(0,a),(1,b),(3,c),(4,d),(5,e),(6,f),(7,g),(9,h),(10,i),(12,j),(18,k),(20,m),(21,n),(22,o),(23,p),(29,q),(32,r),(33,s),(34,t),(35,u),(49,J),(67,w),(71,x)] := by intros; rfl
     refine R_nil (tr ..) ?_; clear tr
     refine then_n ?_
     refine cdd (fun h5 => ?_) (fun h5 => ?_)
     ·
      try simp only [decide_eq_true_eq, decide_eq_false_iff_not, Bool.not_eq_true', Bool.not_eq_false', beq_iff_eq, beq_eq_false_iff_ne, ne_eq] at h5
      refine rg rfl ?_
      refine Rq ?_
      refine Rq ?_
      refine R_q rfl (by simp (disch := first | omega | (simp only [List.length_map, List.length_append, List.length_set, List.length_cons, List.length_nil]; omega)) only [go_sem, ↓reduceIte, Nat.reduceEqDiff, reduceCtorEq, q3, q9, qo, q12, qn]; rfl) ?_
      refine Rq ?_
      refine R_q rfl (by simp (disch := first | omega | (simp only [List.length_map, List.length_append, List.length_set, List.length_cons, List.length_nil]; omega)) only [go_sem, ↓reduceIte, Nat.reduceEqDiff, reduceCtorEq, q3, q9, qo, q12, qn]; rfl) ?_
      refine Rq ?_
      refine Rq ?_
      refine Rq ?_
      refine Rq ?_
      have tr : ∀ a b c d e f g h i j k m n o p q r s t u v w x y z A B C D E F G : AV, let l := lc_place_ok a b c d e f g h i j k m n o p q r s t u v w x; trim ((10,G)::(57,F)::(56,E)::(55,D)::(54,C)::(53,B)::(52,A)::(51,z)::(50,y)::l) l = [(0,a),(1,b),(3,c),(4,d),(5,e),(6,f),(7,g),(9,h),(10,G),(12,j),(18,k),(20,m),(21,n),(22,o),(23,p),(29,q),(32,r),(33,s),(34,t),(35,u),(49,v),(67,w),(71,x)] := by intros; rfl
      refine R_nil (tr ..) ?_; clear tr
      refine blk_n ?_
      refine then_n ?_
      refine rg rfl ?_
      refine Rq ?_
      refine Rq ?_
      have tr : ∀ a b c d e f g h i j k m n o p q r s t u v w x y z : AV, let l := lc_place_ok a b c d e f g h i j k m n o p q r s t u v w x; trim ((34,z)::(58,y)::l) l = [(0,a),(1,b),(3,c),(4,d),(5,e),(6,f),(7,g),(9,h),(10,i),(12,j),(18,k),(20,m),(21,n),(22,o),(23,p),(29,q),(32,r),(33,s),(34,z),(35,u),(49,v),(67,w),(71,x)] := by intros; rfl
      refine R_nil (tr ..) ?_; clear tr
      refine then_n ?_
      exact ⟨_, _, ⟨k + 1, max dy ((gt P k).d + rest + 1), _, _, _, rfl, rfl, by omega, by omega, by exact q3, by exact q9, by exact .inr ⟨by omega, bo, rfl, hbo, qo⟩⟩, by rfl, by omega⟩
     ·
      try simp only [decide_eq_true_eq, decide_eq_false_iff_not, Bool.not_eq_true', Bool.not_eq_false', beq_iff_eq, beq_eq_false_iff_ne, ne_eq] at h5
      refine at_skip rfl ?_
      refine blk_n ?_
      refine then_n ?_
      refine rg rfl ?_
      refine Rq ?_
      refine Rq ?_
      have tr : ∀ a b c d e f g h i j k m n o p q r s t u v w x y z : AV, let l := lc_place_ok a b c d e f g h i j k m n o p q r s t u v w x; trim ((34,z)::(58,y)::l) l = [(0,a),(1,b),(3,c),(4,d),(5,e),(6,f),(7,g),(9,h),(10,i),(12,j),(18,k),(20,m),(21,n),(22,o),(23,p),(29,q),(32,r),(33,s),(34,z),(35,u),(49,v),(67,w),(71,x)] := by intros; rfl
      refine R_nil (tr ..) ?_; clear tr
      refine then_n ?_
      exact ⟨_, _, ⟨k + 1, dy, _, _, _, rfl, rfl, by omega, by omega, by exact q3, by exact q9, by exact .inr ⟨by omega, bo, rfl, hbo, qo⟩⟩, by rfl, by omega⟩
   ·
    try simp only [decide_eq_true_eq, decide_eq_false_iff_not, Bool.not_eq_true', Bool.not_eq_false', beq_iff_eq, beq_eq_false_iff_ne, ne_eq] at h3
    refine at_exit rfl ?_
    refine then_x ?_
    refine then_x ?_
    refine blk_x ?_
    refine then_n ?_
    refine at_seq rfl ?_
    refine at_block rfl ?_
    refine loop_n rfl (fun mm kv H' => ∃ dy : Int, ∃ x67 : AV, (kv = [(10, AV.i dy), (67, x67)]) ∧ (mm = (ctP P (gt gr (gt L u).h.toNat) dy).toNat) ∧ (first ≤ dy) ∧ (dy + ctP P (gt gr (gt L u).h.toNat) dy ≤ first + 60 * u + 10 + u) ∧ (hget H' H.length = some (ssC first rest gr)) ∧ (hget H' HL.length = some (fxC (gt L u))) ∧ (OutG 5 H1.length H' o u (flatP P))) ⟨dy, _, rfl, rfl, by omega, by (have := ctP_box P (gt gr (gt L u).h.toNat) dy; omega), by exact q3, by exact q9, by exact hO⟩ (by rfl) ?_
    rintro mm kv HQ ⟨dy, x67, rfl, rfl, hd1, hd2, q3, q9, hO⟩
    have tr : ∀ a b c d e f g h i j k m n o p q r s t u v w x y z : AV, upd [(0,a),(1,b),(3,c),(4,d),(5,e),(6,f),(7,g),(9,h),(10,i),(12,j),(18,k),(20,m),(21,n),(22,o),(23,p),(29,q),(32,r),(33,s),(34,t),(35,u),(49,v),(67,w),(71,x)] [(10,y),(67,z)] = [(0,a),(1,b),(3,c),(4,d),(5,e),(6,f),(7,g),(9,h),(10,y),(12,j),(18,k),(20,m),(21,n),(22,o),(23,p),(29,q),(32,r),(33,s),(34,t),(35,u),(49,v),(67,z),(71,x)] := by intros; rfl
    refine W_to (tr ..) ?_; clear tr
    have hcb := ctP_box P (gt gr (gt L u).h.toNat) dy
    refine at_seq rfl ?_
    refine at_seq rfl ?_
    refine rg rfl ?_
    refine Rq ?_
    refine Rq ?_
    refine R_q rfl (by simp (disch := first | omega | (simp only [List.length_map, List.length_append, List.length_set, List.length_cons, List.length_nil]; omega)) only [go_sem, ↓reduceIte, Nat.reduceEqDiff, reduceCtorEq, q3, q9, qo, q12, qn]; rfl) ?_
    refine Rq ?_
    refine R_q rfl (by simp (disch := first | omega | (simp only [List.length_map, List.length_append, List.length_set, List.length_cons, List.length_nil]; omega)) only [go_sem, ↓reduceIte, Nat.reduceEqDiff, reduceCtorEq, q3, q9, qo, q12, qn]; rfl) ?_
    refine Rq ?_
    refine R_q (r := AV.i (gt gr (gt L u).h.toNat)) rfl (by simp (disch := first | omega | (simp only [List.length_map, List.length_append, List.length_set, List.length_cons, List.length_nil]; omega)) only [go_sem, ↓reduceIte, Nat.reduceEqDiff, reduceCtorEq, q3, q9] <;> exact ints_at gr _ (by omega)) ?_
    refine Rq ?_
    refine Rcall ?_
    obtain ⟨xx, hxx, hPx⟩ := outP_any' hO hPl
    refine ACall_eq (taken_ok _ _ _ xx P hxx hPx (by omega) (gt gr (gt L u).h.toNat) dy) ?_
    have tr : ∀ a b c d e f g h i j k m n o p q r s t u v w x y z A B C D E F G : AV, let l := lc_place_ok a b c d e f g h i j k m n o p q r s t u v w x; trim ((67,G)::(66,F)::(65,E)::(64,D)::(63,C)::(62,B)::(61,A)::(60,z)::(59,y)::l) l = [(0,a),(1,b),(3,c),(4,d),(5,e),(6,f),(7,g),(9,h),(10,i),(12,j),(18,k),(20,m),(21,n),(22,o),(23,p),(29,q),(32,r),(33,s),(34,t),(35,u),(49,v),(67,G),(71,x)] := by intros; rfl
    refine R_nil (tr ..) ?_; clear tr
    refine then_n ?_
    refine cdd (fun h6 => ?_) (fun h6 => ?_)
    ·
     try simp only [decide_eq_true_eq, decide_eq_false_iff_not, Bool.not_eq_true', Bool.not_eq_false', beq_iff_eq, beq_eq_false_iff_ne, ne_eq] at h6
     refine at_skip rfl ?_
     refine then_n ?_
     refine at_block rfl ?_
     refine rg rfl ?_
     refine Rq ?_
     refine Rq ?_
     refine Rq ?_
     have tr : ∀ a b c d e f g h i j k m n o p q r s t u v w x y z A : AV, let l := lc_place_ok a b c d e f g h i j k m n o p q r s t u v w x; trim ((10,A)::(69,z)::(68,y)::l) l = [(0,a),(1,b),(3,c),(4,d),(5,e),(6,f),(7,g),(9,h),(10,A),(12,j),(18,k),(20,m),(21,n),(22,o),(23,p),(29,q),(32,r),(33,s),(34,t),(35,u),(49,v),(67,w),(71,x)] := by intros; rfl
     refine R_nil (tr ..) ?_; clear tr
     refine blk_n ?_
     refine then_n ?_
     exact ⟨_, _, ⟨dy + 1, _, rfl, rfl, by omega, by (have := tk_dec (by assumption); omega), by exact q3, by exact q9, by exact hO⟩, by rfl, by (have := tk_dec (by assumption); have := ctP_box P (gt gr (gt L u).h.toNat) (dy + 1); omega)⟩
    ·
     try simp only [decide_eq_true_eq, decide_eq_false_iff_not, Bool.not_eq_true', Bool.not_eq_false', beq_iff_eq, beq_eq_false_iff_ne, ne_eq] at h6
     refine at_exit rfl ?_
     refine then_x ?_
     refine then_x ?_
     refine blk_x ?_
     refine then_n ?_
     refine at_seq rfl ?_
     refine at_seq rfl ?_
     refine rg rfl ?_
     refine Rq ?_
     refine Rq ?_
     have tr : ∀ a b c d e f g h i j k m n o p q r s t u v w x y z : AV, let l := lc_place_ok a b c d e f g h i j k m n o p q r s t u v w x; trim ((71,z)::(70,y)::l) l = [(0,a),(1,b),(3,c),(4,d),(5,e),(6,f),(7,g),(9,h),(10,i),(12,j),(18,k),(20,m),(21,n),(22,o),(23,p),(29,q),(32,r),(33,s),(34,t),(35,u),(49,v),(67,w),(71,z)] := by intros; rfl
     refine R_nil (tr ..) ?_; clear tr
     refine then_n ?_
     refine cdd (fun h7 => ?_) (fun h7 => ?_)
     ·
      try simp only [decide_eq_true_eq, decide_eq_false_iff_not, Bool.not_eq_true', Bool.not_eq_false', beq_iff_eq, beq_eq_false_iff_ne, ne_eq] at h7
      refine at_seq rfl ?_
      refine rg rfl ?_
      refine Rq ?_
      refine Rq ?_
      have tr : ∀ a b c d e f g h i j k m n o p q r s t u v w x y z : AV, let l := lc_place_ok a b c d e f g h i j k m n o p q r s t u v w x; trim ((5,z)::(4,y)::l) l = [(0,a),(1,b),(3,c),(4,y),(5,z),(6,f),(7,g),(9,h),(10,i),(12,j),(18,k),(20,m),(21,n),(22,o),(23,p),(29,q),(32,r),(33,s),(34,t),(35,u),(49,v),(67,w),(71,x)] := by intros; rfl
      refine R_nil (tr ..) ?_; clear tr
      refine then_n ?_
      refine at_ret rfl ?_
      refine then_r ?_
      refine blk_r ?_
      refine then_r ?_
      refine then_r ?_
      refine blk_r ?_
      refine then_r ?_
      first | (exfalso; omega) | (refine fin_pure (rs := [.tmp 4, .tmp 5]) rfl (by simp (disch := first | omega | (simp only [List.length_map, List.length_append, List.length_set, List.length_cons, List.length_nil]; omega)) only [go_sem, ↓reduceIte, Nat.reduceEqDiff, reduceCtorEq] <;> rfl) (v := .tup [pdsAV P, AV.i 0]) (by show AV.tup [frz _ _ 7 (.own 5 bo 0 u), _] = _; rw [frz_own' (by omega) qo, frzP, ← hPl]; rfl) ?_; exact ⟨⟨P, rfl, by omega, hPd⟩, rfl⟩)
     ·
      try simp only [decide_eq_true_eq, decide_eq_false_iff_not, Bool.not_eq_true', Bool.not_eq_false', beq_iff_eq, beq_eq_false_iff_ne, ne_eq] at h7
      refine at_skip rfl ?_
      refine then_n ?_
      refine rl rfl rfl ?_
      refine Lq ?_
      refine L_q rfl (by simp (disch := first | omega | (simp only [List.length_map, List.length_append, List.length_set, List.length_cons, List.length_nil]; omega)) only [go_sem, ↓reduceIte, Nat.reduceEqDiff, reduceCtorEq, q3, q9, qo, q12, qn]; rfl) rfl ?_
      refine Lq ?_
      refine Lq ?_
      refine L_q rfl (by simp (disch := first | omega | (simp only [List.length_map, List.length_append, List.length_set, List.length_cons, List.length_nil]; omega)) only [go_sem, ↓reduceIte, Nat.reduceEqDiff, reduceCtorEq, q3, q9, qo, q12, qn]; rfl) rfl ?_
      refine Lq ?_
      refine L_q rfl (by simp (disch := first | omega | (simp only [List.length_map, List.length_append, List.length_set, List.length_cons, List.length_nil]; omega)) only [go_sem, ↓reduceIte, Nat.reduceEqDiff, reduceCtorEq, q3, q9, qo, q12, qn]; rfl) rfl ?_
      refine Lq ?_
      refine L_q (r := AV.i (gt gr (gt L u).h.toNat)) rfl (by simp (disch := first | omega | (simp only [List.length_map, List.length_append, List.length_set, List.length_cons, List.length_nil]; omega)) only [go_sem, ↓reduceIte, Nat.reduceEqDiff, reduceCtorEq, q3, q9] <;> exact ints_at gr _ (by omega)) rfl ?_
      refine L_q (r := .agg (pdC ⟨(gt L u).r, (gt L u).h, (gt L u).a, dy, (gt gr (gt L u).h.toNat)⟩)) rfl (by simp (disch := first | omega | (simp only [List.length_map, List.length_append, List.length_set, List.length_cons, List.length_nil]; omega)) only [go_sem, ↓reduceIte, Nat.reduceEqDiff, reduceCtorEq] <;> exact bld39 _ _ _ _ _) rfl ?_
      refine L_nil ?_
      refine Ms ?_
      refine A_buildSlice (bs33 _ _ _ _ ⟨(gt L u).r, (gt L u).h, (gt L u).a, dy, (gt gr (gt L u).h.toNat)⟩ (by simp (disch := first | omega | (simp only [List.length_map, List.length_append, List.length_set, List.length_cons, List.length_nil]; omega)) only [go_sem, ↓reduceIte, Nat.reduceEqDiff, reduceCtorEq] <;> rfl)) ?_
      intro HN n21
      have en21 := n21.len
      have q3 := (n21.old _ (hget_lt q3)).trans q3
      have q9 := (n21.old _ (hget_lt q9)).trans q9
      have qn := n21.new
      have hO := hO.new n21
      refine R_end ?_
      refine M_nil ?_
      have l3 := hget_lt q3
      obtain ⟨bb, hb1, hb2, HA, ha, hg⟩ := app33 (lim := H.length) hO (by rw [flatP_len, hPl]) qn rfl rfl (by omega) (by omega) (by omega)
      refine A_append ⟨HA, by simp (disch := first | omega | (simp only [List.length_map, List.length_append, List.length_set, List.length_cons, List.length_nil]; omega)) only [go_sem, ↓reduceIte, Nat.reduceEqDiff, reduceCtorEq]; exact ha, hg⟩ ?_
      intro HV g22
      have e22 := g22.len
      have q3 := (g22.old _ (by omega) (by omega)).trans q3
      refine Rq ?_
      have tr : ∀ a b c d e f g h i j k m n o p q r s t u v w x y z A B C D E F G H I J K : AV, let l := lc_place_ok a b c d e f g h i j k m n o p q r s t u v w x; trim ((7,K)::(83,J)::(82,I)::(81,H)::(80,G)::(79,F)::(78,E)::(77,D)::(76,C)::(75,B)::(74,A)::(73,z)::(72,y)::l) l = [(0,a),(1,b),(3,c),(4,d),(5,e),(6,f),(7,K),(9,h),(10,i),(12,j),(18,k),(20,m),(21,n),(22,o),(23,p),(29,q),(32,r),(33,s),(34,t),(35,u),(49,v),(67,w),(71,x)] := by intros; rfl
      refine R_nil (tr ..) ?_; clear tr
      refine blk_n ?_
      refine then_n ?_
      refine rg rfl ?_
      refine Rq ?_
      refine Rq ?_
      have tr : ∀ a b c d e f g h i j k m n o p q r s t u v w x y z : AV, let l := lc_place_ok a b c d e f g h i j k m n o p q r s t u v w x; trim ((22,z)::(84,y)::l) l = [(0,a),(1,b),(3,c),(4,d),(5,e),(6,f),(7,g),(9,h),(10,i),(12,j),(18,k),(20,m),(21,n),(22,z),(23,p),(29,q),(32,r),(33,s),(34,t),(35,u),(49,v),(67,w),(71,x)] := by intros; rfl
      refine R_nil (tr ..) ?_; clear tr
      refine then_n ?_
      exact ⟨_, _, ⟨u + 1, .own 5 HN.length 0 (u + 1), P ++ [⟨(gt L u).r, (gt L u).h, (gt L u).a, dy, (gt gr (gt L u).h.toNat)⟩], _, _, _, _, _, _, _, _, _, _, _, _, _, _, rfl, rfl, by omega, by (rw [List.length_append, hPl]; rfl), by exact pd_step hPd ⟨by omega, by (show dy ≤ _); omega⟩, by exact q3, by exact .inr ⟨by omega, HN.length, rfl, by omega, by rw [flatP_app]; exact g22.new⟩⟩, by rfl, by omega⟩
  ·
   try simp only [decide_eq_true_eq, decide_eq_false_iff_not, Bool.not_eq_true', Bool.not_eq_false', beq_iff_eq, beq_eq_false_iff_ne, ne_eq] at h2
   refine at_exit rfl ?_
   refine then_x ?_
   refine then_x ?_
   refine blk_x ?_
   refine then_n ?_
   refine at_seq rfl ?_
   refine rg rfl ?_
   have huL : u = L.length := by omega
   obtain ⟨bo, rfl, hbo, qo⟩ := hO.own (by omega)
   refine Rq ?_
   refine Rq ?_
   refine Rq ?_
   have tr : ∀ a b c d e f g h i j k m n o p q r s t u v w x y z A : AV, let l := lc_place_ok a b c d e f g h i j k m n o p q r s t u v w x; trim ((5,A)::(4,z)::(85,y)::l) l = [(0,a),(1,b),(3,c),(4,z),(5,A),(6,f),(7,g),(9,h),(10,i),(12,j),(18,k),(20,m),(21,n),(22,o),(23,p),(29,q),(32,r),(33,s),(34,t),(35,u),(49,v),(67,w),(71,x)] := by intros; rfl
   refine R_nil (tr ..) ?_; clear tr
   refine then_n ?_
   refine at_ret rfl ?_
   first | (exfalso; omega) | (refine fin_pure (rs := [.tmp 4, .tmp 5]) rfl (by simp (disch := first | omega | (simp only [List.length_map, List.length_append, List.length_set, List.length_cons, List.length_nil]; omega)) only [go_sem, ↓reduceIte, Nat.reduceEqDiff, reduceCtorEq] <;> rfl) (v := .tup [pdsAV P, AV.i 0]) (by show AV.tup [frz _ _ 7 (.own 5 bo 0 u), _] = _; rw [frz_own' (by omega) qo, frzP, ← hPl]; rfl) ?_; exact ⟨⟨P, rfl, by omega, hPd⟩, rfl⟩)

end Go.Proofs.Ytkjgmpjnhfmecaa
