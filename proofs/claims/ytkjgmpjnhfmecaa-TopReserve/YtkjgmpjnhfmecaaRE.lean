/-
  Walks of the seat of TopReserve. The steps are written by program (walk.py).
-/
import Derived.Test.YtkjgmpjnhfmecaaRD
set_option linter.unusedSimpArgs false
set_option linter.unusedVariables false
set_option maxHeartbeats 40000000
set_option maxRecDepth 4000
namespace Go.Proofs.Ytkjgmpjnhfmecaa
open Go Go.Am

abbrev lc_plan_ok (a b c d e f g h i j k m n o p q r s t u v w x y z A B C D E F G : AV) : Env := [(0,a),(1,b),(2,c),(6,d),(7,e),(8,f),(9,g),(10,h),(11,i),(12,j),(13,k),(14,m),(15,n),(16,o),(17,p),(23,q),(30,r),(31,s),(32,t),(38,u),(39,v),(40,w),(41,x),(48,y),(49,z),(50,A),(56,B),(63,C),(64,D),(65,E),(66,F),(83,G)]
theorem plan_ok (lim : Nat) (H : Heap) (x : AV) (J : List Jb) (hx : OutG 2 0 H x J.length (flatJ J)) (hJl : J.length ≤ 400) (c : Nat) (cs : List Int) (qc : hget H c = some (cs.map AV.i)) (hcl : cs.length ≤ 400) (h01 : ∀ i, i < cs.length → gt cs i = 0 ∨ gt cs i = 1) (first : Int) (g1 : 0 ≤ first ∧ first ≤ 109172) (g2 : ∀ j, j < J.length → first ≤ (gt J j).f ∧ (gt J j).f ≤ (gt J j).t ∧ (gt J j).t ≤ first + cs.length - 1) :
    ACall sig lim 8 [x, AV.i first, .own 1 c 0 cs.length] H fun r H' => ((r = .tup [intsAV (dys J cs first cs.length), .agg [AV.i 0, AV.i 0], AV.i 0] ∧ ∀ j, j < J.length → 0 ≤ gt (dys J cs first cs.length) j ∧ gt (dys J cs first cs.length) j ≤ (gt J j).t) ∨ (∃ a b : Int, r = .tup [nilO, .agg [AV.i a, AV.i b], AV.i 13] ∧ viol J cs first a b)) ∧ H' = H := by
 have lc0 := hget_lt qc
 have hO := hx
 have qw : True := trivial
 have qd : True := trivial
 have qx : True := trivial
 have q17 : True := trivial
 refine ACall_pure (fa := fa8) rfl rfl rfl rfl ?_
 have tr : ∀ a0 a1 a2 : AV, env0 fa8.keep [a0, a1, a2] = [(0,a0),(1,a1),(2,a2),(6,.any),(7,.any),(8,.any),(9,.any),(10,.any),(11,.any),(12,.any),(13,.any),(14,.any),(15,.any),(16,.any),(17,.any),(23,.any),(30,.any),(31,.any),(32,.any),(38,.any),(39,.any),(40,.any),(41,.any),(48,.any),(49,.any),(50,.any),(56,.any),(63,.any),(64,.any),(65,.any),(66,.any),(83,.any)] := fun a0 a1 a2 => rfl
 refine W_to (tr _ _ _) ?_; clear tr
 refine at_seq rfl ?_
 refine rg rfl ?_
 refine Rq ?_
 refine A_alloc rfl ?_
 intro H1 n1
 have en1 := n1.len
 have qc := (n1.old _ (hget_lt qc)).trans qc
 have qw : hget H1 H.length = some [AV.i 0, AV.i 0] := n1.new
 have hO := hO.new n1
 refine Rq ?_
 have tr : ∀ a b c d e f g h i j k m n o p q r s t u v w x y z A B C D E F G H I J : AV, let l := lc_plan_ok a b c d e f g h i j k m n o p q r s t u v w x y z A B C D E F G; trim ((8,J)::(7,I)::(6,H)::l) l = [(0,a),(1,b),(2,c),(6,H),(7,I),(8,J),(9,g),(10,h),(11,i),(12,j),(13,k),(14,m),(15,n),(16,o),(17,p),(23,q),(30,r),(31,s),(32,t),(38,u),(39,v),(40,w),(41,x),(48,y),(49,z),(50,A),(56,B),(63,C),(64,D),(65,E),(66,F),(83,G)] := by intros; rfl
 refine R_nil (tr ..) ?_; clear tr
 refine then_n ?_
 refine at_seq rfl ?_
 refine at_seq rfl ?_
 refine rg rfl ?_
 refine Rq ?_
 refine Rq ?_
 refine Rq ?_
 refine Rcall ?_
 obtain ⟨xx, hxx, hJx⟩ := outJ_any hO
 refine ACall_eq (check_ok _ _ x xx J hxx hJx hJl _ cs (frz_row qc (by omega) rfl) hcl h01 first g1 g2) ?_
 refine Rq ?_
 have tr : ∀ a b c d e f g h i j k m n o p q r s t u v w x y z A B C D E F G H I J K L : AV, let l := lc_plan_ok a b c d e f g h i j k m n o p q r s t u v w x y z A B C D E F G; trim ((9,L)::(21,K)::(20,J)::(19,I)::(18,H)::l) l = [(0,a),(1,b),(2,c),(6,d),(7,e),(8,f),(9,L),(10,h),(11,i),(12,j),(13,k),(14,m),(15,n),(16,o),(17,p),(23,q),(30,r),(31,s),(32,t),(38,u),(39,v),(40,w),(41,x),(48,y),(49,z),(50,A),(56,B),(63,C),(64,D),(65,E),(66,F),(83,G)] := by intros; rfl
 refine R_nil (tr ..) ?_; clear tr
 refine then_n ?_
 refine at_seq rfl ?_
 refine rg rfl ?_
 refine Rq ?_
 refine Rq ?_
 have tr : ∀ a b c d e f g h i j k m n o p q r s t u v w x y z A B C D E F G H I : AV, let l := lc_plan_ok a b c d e f g h i j k m n o p q r s t u v w x y z A B C D E F G; trim ((23,I)::(22,H)::l) l = [(0,a),(1,b),(2,c),(6,d),(7,e),(8,f),(9,g),(10,h),(11,i),(12,j),(13,k),(14,m),(15,n),(16,o),(17,p),(23,I),(30,r),(31,s),(32,t),(38,u),(39,v),(40,w),(41,x),(48,y),(49,z),(50,A),(56,B),(63,C),(64,D),(65,E),(66,F),(83,G)] := by intros; rfl
 refine R_nil (tr ..) ?_; clear tr
 refine then_n ?_
 refine cdd (fun h1 => ?_) (fun h1 => ?_)
 ·
  try simp only [decide_eq_true_eq, decide_eq_false_iff_not, Bool.not_eq_true', Bool.not_eq_false', beq_iff_eq, beq_eq_false_iff_ne, ne_eq] at h1
  first | omega | exact absurd trivial h1 | (simp at h1; done)
 ·
  try simp only [decide_eq_true_eq, decide_eq_false_iff_not, Bool.not_eq_true', Bool.not_eq_false', beq_iff_eq, beq_eq_false_iff_ne, ne_eq] at h1
  refine at_skip rfl ?_
  refine then_n ?_
  refine at_seq rfl ?_
  refine rg rfl ?_
  refine Rq ?_
  refine R_q (r := AV.i (J.length : Nat)) rfl (by simp (disch := first | omega | (simp only [List.length_map, List.length_append, List.length_set, List.length_cons, List.length_nil]; omega)) only [go_sem, ↓reduceIte, Nat.reduceEqDiff, reduceCtorEq]; exact hO.len40) ?_
  refine A_makeSlice (ms44 _ _ J.length _ _ _ (by omega) (by simp (disch := first | omega | (simp only [List.length_map, List.length_append, List.length_set, List.length_cons, List.length_nil]; omega)) only [go_sem, ↓reduceIte, Nat.reduceEqDiff, reduceCtorEq] <;> rfl) (by simp (disch := first | omega | (simp only [List.length_map, List.length_append, List.length_set, List.length_cons, List.length_nil]; omega)) only [go_sem, ↓reduceIte, Nat.reduceEqDiff, reduceCtorEq] <;> rfl)) ?_
  intro H4 n4
  have en4 := n4.len
  have qw := (n4.old _ (hget_lt qw)).trans qw
  have qc := (n4.old _ (hget_lt qc)).trans qc
  have qd := n4.new
  have hO4 := hO.new n4
  have hxl : ∀ z b n, x = .own z b 0 n → b < H.length := fun z b n he => by
    rcases hx with ⟨_, h⟩ | ⟨_, b', h, _, h3⟩
    · rw [h] at he; cases he
    · rw [h] at he; cases he; exact hget_lt h3
  refine Rq ?_
  have tr : ∀ a b c d e f g h i j k m n o p q r s t u v w x y z A B C D E F G H I J K : AV, let l := lc_plan_ok a b c d e f g h i j k m n o p q r s t u v w x y z A B C D E F G; trim ((10,K)::(28,J)::(27,I)::(26,H)::l) l = [(0,a),(1,b),(2,c),(6,d),(7,e),(8,f),(9,g),(10,K),(11,i),(12,j),(13,k),(14,m),(15,n),(16,o),(17,p),(23,q),(30,r),(31,s),(32,t),(38,u),(39,v),(40,w),(41,x),(48,y),(49,z),(50,A),(56,B),(63,C),(64,D),(65,E),(66,F),(83,G)] := by intros; rfl
  refine R_nil (tr ..) ?_; clear tr
  refine then_n ?_
  refine at_seq rfl ?_
  refine at_seq rfl ?_
  refine rg rfl ?_
  refine Rq ?_
  refine Rq ?_
  refine Rq ?_
  have tr : ∀ a b c d e f g h i j k m n o p q r s t u v w x y z A B C D E F G H I J : AV, let l := lc_plan_ok a b c d e f g h i j k m n o p q r s t u v w x y z A B C D E F G; trim ((31,J)::(30,I)::(29,H)::l) l = [(0,a),(1,b),(2,c),(6,d),(7,e),(8,f),(9,g),(10,h),(11,i),(12,j),(13,k),(14,m),(15,n),(16,o),(17,p),(23,q),(30,I),(31,J),(32,t),(38,u),(39,v),(40,w),(41,x),(48,y),(49,z),(50,A),(56,B),(63,C),(64,D),(65,E),(66,F),(83,G)] := by intros; rfl
  refine R_nil (tr ..) ?_; clear tr
  refine then_n ?_
  refine at_block rfl ?_
  refine loop_n rfl (fun mm kv H' => ∃ u : Nat, ∃ D0 : List Int, ∃ x11 x32 : AV, (kv = [(11, x11), (31, AV.i u), (32, x32)]) ∧ (mm = J.length - u) ∧ (u ≤ J.length) ∧ (D0.length = J.length) ∧ (∀ k, k < u → gt D0 k = -1) ∧ (hget H' H1.length = some (D0.map AV.i)) ∧ (hget H' H.length = some [AV.i 0, AV.i 0]) ∧ (hget H' c = some (cs.map AV.i)) ∧ (OutG 2 0 H' x J.length (flatJ J))) ⟨0, List.replicate J.length 0, _, _, rfl, rfl, by omega, by (rw [List.length_replicate]), by intro k hk; omega, by exact qd, by exact qw, by exact qc, by exact hO4⟩ (by rfl) ?_
  rintro mm kv HA ⟨u, D0, x11, x32, rfl, rfl, hu, hD0, hm, qd, qw, qc, hO⟩
  have tr : ∀ a b c d e f g h i j k m n o p q r s t u v w x y z A B C D E F G H I J : AV, upd [(0,a),(1,b),(2,c),(6,d),(7,e),(8,f),(9,g),(10,h),(11,i),(12,j),(13,k),(14,m),(15,n),(16,o),(17,p),(23,q),(30,r),(31,s),(32,t),(38,u),(39,v),(40,w),(41,x),(48,y),(49,z),(50,A),(56,B),(63,C),(64,D),(65,E),(66,F),(83,G)] [(11,H),(31,I),(32,J)] = [(0,a),(1,b),(2,c),(6,d),(7,e),(8,f),(9,g),(10,h),(11,H),(12,j),(13,k),(14,m),(15,n),(16,o),(17,p),(23,q),(30,r),(31,I),(32,J),(38,u),(39,v),(40,w),(41,x),(48,y),(49,z),(50,A),(56,B),(63,C),(64,D),(65,E),(66,F),(83,G)] := by intros; rfl
  refine W_to (tr ..) ?_; clear tr
  refine at_seq rfl ?_
  refine rg rfl ?_
  refine Rq ?_
  have tr : ∀ a b c d e f g h i j k m n o p q r s t u v w x y z A B C D E F G H : AV, let l := lc_plan_ok a b c d e f g h i j k m n o p q r s t u v w x y z A B C D E F G; trim ((32,H)::l) l = [(0,a),(1,b),(2,c),(6,d),(7,e),(8,f),(9,g),(10,h),(11,i),(12,j),(13,k),(14,m),(15,n),(16,o),(17,p),(23,q),(30,r),(31,s),(32,H),(38,u),(39,v),(40,w),(41,x),(48,y),(49,z),(50,A),(56,B),(63,C),(64,D),(65,E),(66,F),(83,G)] := by intros; rfl
  refine R_nil (tr ..) ?_; clear tr
  refine then_n ?_
  refine at_seq rfl ?_
  refine cdd (fun h2 => ?_) (fun h2 => ?_)
  ·
   try simp only [decide_eq_true_eq, decide_eq_false_iff_not, Bool.not_eq_true', Bool.not_eq_false', beq_iff_eq, beq_eq_false_iff_ne, ne_eq] at h2
   refine at_skip rfl ?_
   refine then_n ?_
   refine at_seq rfl ?_
   refine at_block rfl ?_
   refine at_seq rfl ?_
   refine rg rfl ?_
   refine Rq ?_
   refine Rq ?_
   have tr : ∀ a b c d e f g h i j k m n o p q r s t u v w x y z A B C D E F G H I : AV, let l := lc_plan_ok a b c d e f g h i j k m n o p q r s t u v w x y z A B C D E F G; trim ((11,I)::(33,H)::l) l = [(0,a),(1,b),(2,c),(6,d),(7,e),(8,f),(9,g),(10,h),(11,I),(12,j),(13,k),(14,m),(15,n),(16,o),(17,p),(23,q),(30,r),(31,s),(32,t),(38,u),(39,v),(40,w),(41,x),(48,y),(49,z),(50,A),(56,B),(63,C),(64,D),(65,E),(66,F),(83,G)] := by intros; rfl
   refine R_nil (tr ..) ?_; clear tr
   refine then_n ?_
   refine rg rfl ?_
   refine Rq ?_
   refine Rq ?_
   refine Rq ?_
   have lqw := hget_lt qw
   have lqc := hget_lt qc
   have lqd := hget_lt qd
   refine A_store ty2 (by simp (disch := first | omega | (simp only [List.length_map, List.length_append, List.length_set, List.length_cons, List.length_nil]; omega)) only [go_sem, ↓reduceIte, Nat.reduceEqDiff, reduceCtorEq, qw, qc, qd] <;> rfl) (by simp (disch := first | omega | (simp only [List.length_map, List.length_append, List.length_set, List.length_cons, List.length_nil]; omega)) only [go_sem, ↓reduceIte, Nat.reduceEqDiff, reduceCtorEq, qw, qc, qd] <;> rfl) qd ⟨by omega, rfl, by first | exact Nat.le_refl _ | (simp; done) | (simp; omega)⟩ (k' := (D0.set u (-1)).map AV.i) (by first | exact setI _ _ _ | rfl) ?_
   intro H8 w8
   have ew8 := w8.len
   have qw := (w8.old _ (by omega)).trans qw
   have qc := (w8.old _ (by omega)).trans qc
   have qd := w8.new
   have tr : ∀ a b c d e f g h i j k m n o p q r s t u v w x y z A B C D E F G H I J : AV, let l := lc_plan_ok a b c d e f g h i j k m n o p q r s t u v w x y z A B C D E F G; trim ((36,J)::(35,I)::(34,H)::l) l = [(0,a),(1,b),(2,c),(6,d),(7,e),(8,f),(9,g),(10,h),(11,i),(12,j),(13,k),(14,m),(15,n),(16,o),(17,p),(23,q),(30,r),(31,s),(32,t),(38,u),(39,v),(40,w),(41,x),(48,y),(49,z),(50,A),(56,B),(63,C),(64,D),(65,E),(66,F),(83,G)] := by intros; rfl
   refine R_nil (tr ..) ?_; clear tr
   refine blk_n ?_
   refine then_n ?_
   refine rg rfl ?_
   refine Rq ?_
   refine Rq ?_
   have tr : ∀ a b c d e f g h i j k m n o p q r s t u v w x y z A B C D E F G H I : AV, let l := lc_plan_ok a b c d e f g h i j k m n o p q r s t u v w x y z A B C D E F G; trim ((31,I)::(37,H)::l) l = [(0,a),(1,b),(2,c),(6,d),(7,e),(8,f),(9,g),(10,h),(11,i),(12,j),(13,k),(14,m),(15,n),(16,o),(17,p),(23,q),(30,r),(31,I),(32,t),(38,u),(39,v),(40,w),(41,x),(48,y),(49,z),(50,A),(56,B),(63,C),(64,D),(65,E),(66,F),(83,G)] := by intros; rfl
   refine R_nil (tr ..) ?_; clear tr
   refine then_n ?_
   exact ⟨_, _, ⟨u + 1, D0.set u (-1), _, _, rfl, rfl, by omega, by (rw [List.length_set]; exact hD0), by (intro k hk; rw [gt_set _ _ _ _ (by omega)]; by_cases e : u = k; (rw [if_pos e]); (rw [if_neg e]; exact hm k (by omega))), by exact qd, by exact qw, by exact qc, by exact OutG.keepW hO w8 hxl (by omega)⟩, by rfl, by omega⟩
  ·
   try simp only [decide_eq_true_eq, decide_eq_false_iff_not, Bool.not_eq_true', Bool.not_eq_false', beq_iff_eq, beq_eq_false_iff_ne, ne_eq] at h2
   refine at_exit rfl ?_
   refine then_x ?_
   refine then_x ?_
   refine blk_x ?_
   refine then_n ?_
   refine at_seq rfl ?_
   refine at_seq rfl ?_
   refine rg rfl ?_
   refine Rq ?_
   refine Rq ?_
   refine Rq ?_
   have tr : ∀ a b c d e f g h i j k m n o p q r s t u v w x y z A B C D E F G H I J : AV, let l := lc_plan_ok a b c d e f g h i j k m n o p q r s t u v w x y z A B C D E F G; trim ((40,J)::(39,I)::(38,H)::l) l = [(0,a),(1,b),(2,c),(6,d),(7,e),(8,f),(9,g),(10,h),(11,i),(12,j),(13,k),(14,m),(15,n),(16,o),(17,p),(23,q),(30,r),(31,s),(32,t),(38,H),(39,I),(40,J),(41,x),(48,y),(49,z),(50,A),(56,B),(63,C),(64,D),(65,E),(66,F),(83,G)] := by intros; rfl
   refine R_nil (tr ..) ?_; clear tr
   refine then_n ?_
   refine at_block rfl ?_
   refine loop_n rfl (fun mm kv H' => ∃ v : Nat, ∃ x12 x13 x14 x15 x41 x48 x49 x50 x56 : AV, (kv = [(12, x12), (13, x13), (14, x14), (15, x15), (40, AV.i v), (41, x41), (48, x48), (49, x49), (50, x50), (56, x56)]) ∧ (mm = cs.length - v) ∧ (v ≤ cs.length) ∧ (hget H' H1.length = some ((dys J cs first v).map AV.i)) ∧ (hget H' H.length = some [AV.i 0, AV.i 0]) ∧ (hget H' c = some (cs.map AV.i)) ∧ (OutG 2 0 H' x J.length (flatJ J))) ⟨0, _, _, _, _, _, _, _, _, _, rfl, rfl, by omega, by (rw [← dys_0 hD0 (fun k hk => hm k (by omega))]; exact qd), by exact qw, by exact qc, by exact hO⟩ (by rfl) ?_
   rintro mm kv HB ⟨v, x12, x13, x14, x15, x41, x48, x49, x50, x56, rfl, rfl, hv, qd, qw, qc, hO⟩
   have tr : ∀ a b c d e f g h i j k m n o p q r s t u v w x y z A B C D E F G H I J K L M N O P Q : AV, upd [(0,a),(1,b),(2,c),(6,d),(7,e),(8,f),(9,g),(10,h),(11,i),(12,j),(13,k),(14,m),(15,n),(16,o),(17,p),(23,q),(30,r),(31,s),(32,t),(38,u),(39,v),(40,w),(41,x),(48,y),(49,z),(50,A),(56,B),(63,C),(64,D),(65,E),(66,F),(83,G)] [(12,H),(13,I),(14,J),(15,K),(40,L),(41,M),(48,N),(49,O),(50,P),(56,Q)] = [(0,a),(1,b),(2,c),(6,d),(7,e),(8,f),(9,g),(10,h),(11,i),(12,H),(13,I),(14,J),(15,K),(16,o),(17,p),(23,q),(30,r),(31,s),(32,t),(38,u),(39,v),(40,L),(41,M),(48,N),(49,O),(50,P),(56,Q),(63,C),(64,D),(65,E),(66,F),(83,G)] := by intros; rfl
   refine W_to (tr ..) ?_; clear tr
   refine at_seq rfl ?_
   refine rg rfl ?_
   refine Rq ?_
   have tr : ∀ a b c d e f g h i j k m n o p q r s t u v w x y z A B C D E F G H : AV, let l := lc_plan_ok a b c d e f g h i j k m n o p q r s t u v w x y z A B C D E F G; trim ((41,H)::l) l = [(0,a),(1,b),(2,c),(6,d),(7,e),(8,f),(9,g),(10,h),(11,i),(12,j),(13,k),(14,m),(15,n),(16,o),(17,p),(23,q),(30,r),(31,s),(32,t),(38,u),(39,v),(40,w),(41,H),(48,y),(49,z),(50,A),(56,B),(63,C),(64,D),(65,E),(66,F),(83,G)] := by intros; rfl
   refine R_nil (tr ..) ?_; clear tr
   refine then_n ?_
   refine at_seq rfl ?_
   refine cdd (fun h3 => ?_) (fun h3 => ?_)
   ·
    try simp only [decide_eq_true_eq, decide_eq_false_iff_not, Bool.not_eq_true', Bool.not_eq_false', beq_iff_eq, beq_eq_false_iff_ne, ne_eq] at h3
    refine at_skip rfl ?_
    refine then_n ?_
    refine at_seq rfl ?_
    refine at_block rfl ?_
    refine at_seq rfl ?_
    refine rg rfl ?_
    refine Rq ?_
    refine Rq ?_
    have hcv := h01 v (by omega)
    refine R_q (r := AV.i (gt cs v)) rfl (by simp (disch := first | omega | (simp only [List.length_map, List.length_append, List.length_set, List.length_cons, List.length_nil]; omega)) only [go_sem, ↓reduceIte, Nat.reduceEqDiff, reduceCtorEq, qc] <;> exact ints_at cs v (by omega)) ?_
    refine Rq ?_
    refine Rq ?_
    have tr : ∀ a b c d e f g h i j k m n o p q r s t u v w x y z A B C D E F G H I J K L : AV, let l := lc_plan_ok a b c d e f g h i j k m n o p q r s t u v w x y z A B C D E F G; trim ((13,L)::(12,K)::(44,J)::(43,I)::(42,H)::l) l = [(0,a),(1,b),(2,c),(6,d),(7,e),(8,f),(9,g),(10,h),(11,i),(12,K),(13,L),(14,m),(15,n),(16,o),(17,p),(23,q),(30,r),(31,s),(32,t),(38,u),(39,v),(40,w),(41,x),(48,y),(49,z),(50,A),(56,B),(63,C),(64,D),(65,E),(66,F),(83,G)] := by intros; rfl
    refine R_nil (tr ..) ?_; clear tr
    refine then_n ?_
    refine at_seq rfl ?_
    refine rg rfl ?_
    refine Rq ?_
    refine Rq ?_
    refine Rq ?_
    refine Rq ?_
    have tr : ∀ a b c d e f g h i j k m n o p q r s t u v w x y z A B C D E F G H I J K : AV, let l := lc_plan_ok a b c d e f g h i j k m n o p q r s t u v w x y z A B C D E F G; trim ((14,K)::(47,J)::(46,I)::(45,H)::l) l = [(0,a),(1,b),(2,c),(6,d),(7,e),(8,f),(9,g),(10,h),(11,i),(12,j),(13,k),(14,K),(15,n),(16,o),(17,p),(23,q),(30,r),(31,s),(32,t),(38,u),(39,v),(40,w),(41,x),(48,y),(49,z),(50,A),(56,B),(63,C),(64,D),(65,E),(66,F),(83,G)] := by intros; rfl
    refine R_nil (tr ..) ?_; clear tr
    refine then_n ?_
    refine at_seq rfl ?_
    refine rg rfl ?_
    refine Rq ?_
    refine Rq ?_
    have tr : ∀ a b c d e f g h i j k m n o p q r s t u v w x y z A B C D E F G H I : AV, let l := lc_plan_ok a b c d e f g h i j k m n o p q r s t u v w x y z A B C D E F G; trim ((49,I)::(48,H)::l) l = [(0,a),(1,b),(2,c),(6,d),(7,e),(8,f),(9,g),(10,h),(11,i),(12,j),(13,k),(14,m),(15,n),(16,o),(17,p),(23,q),(30,r),(31,s),(32,t),(38,u),(39,v),(40,w),(41,x),(48,H),(49,I),(50,A),(56,B),(63,C),(64,D),(65,E),(66,F),(83,G)] := by intros; rfl
    refine R_nil (tr ..) ?_; clear tr
    refine then_n ?_
    refine at_block rfl ?_
    refine loop_n rfl (fun mm kv H' => ∃ k : Nat, ∃ D1 : List Int, ∃ x15 x50 x56 : AV, (kv = [(15, x15), (49, AV.i (k : Int)), (50, x50), (56, x56)]) ∧ (mm = (gt cs v).toNat - k) ∧ (hget H' H1.length = some (D1.map AV.i)) ∧ (D1.length = J.length) ∧ (((k : Int) = 0 ∧ D1 = dys J cs first v ∨ (k : Int) = 1 ∧ D1 = st1 J (dys J cs first v) (first + v))) ∧ (((k : Int) = 1 → gt cs v = 1)) ∧ (hget H' H.length = some [AV.i 0, AV.i 0]) ∧ (hget H' c = some (cs.map AV.i)) ∧ (OutG 2 0 H' x J.length (flatJ J))) ⟨0, dys J cs first v, _, _, _, rfl, rfl, by exact qd, by exact dys_len _ _ _ _, by exact .inl ⟨rfl, rfl⟩, by intro h; omega, by exact qw, by exact qc, by exact hO⟩ (by rfl) ?_
    rintro mm kv HD ⟨k, D1, x15, x50, x56, rfl, rfl, qd, hDl, hD1, hk1, qw, qc, hO⟩
    have tr : ∀ a b c d e f g h i j k m n o p q r s t u v w x y z A B C D E F G H I J K : AV, upd [(0,a),(1,b),(2,c),(6,d),(7,e),(8,f),(9,g),(10,h),(11,i),(12,j),(13,k),(14,m),(15,n),(16,o),(17,p),(23,q),(30,r),(31,s),(32,t),(38,u),(39,v),(40,w),(41,x),(48,y),(49,z),(50,A),(56,B),(63,C),(64,D),(65,E),(66,F),(83,G)] [(15,H),(49,I),(50,J),(56,K)] = [(0,a),(1,b),(2,c),(6,d),(7,e),(8,f),(9,g),(10,h),(11,i),(12,j),(13,k),(14,m),(15,H),(16,o),(17,p),(23,q),(30,r),(31,s),(32,t),(38,u),(39,v),(40,w),(41,x),(48,y),(49,I),(50,J),(56,K),(63,C),(64,D),(65,E),(66,F),(83,G)] := by intros; rfl
    refine W_to (tr ..) ?_; clear tr
    refine at_seq rfl ?_
    refine rg rfl ?_
    refine Rq ?_
    have tr : ∀ a b c d e f g h i j k m n o p q r s t u v w x y z A B C D E F G H : AV, let l := lc_plan_ok a b c d e f g h i j k m n o p q r s t u v w x y z A B C D E F G; trim ((50,H)::l) l = [(0,a),(1,b),(2,c),(6,d),(7,e),(8,f),(9,g),(10,h),(11,i),(12,j),(13,k),(14,m),(15,n),(16,o),(17,p),(23,q),(30,r),(31,s),(32,t),(38,u),(39,v),(40,w),(41,x),(48,y),(49,z),(50,H),(56,B),(63,C),(64,D),(65,E),(66,F),(83,G)] := by intros; rfl
    refine R_nil (tr ..) ?_; clear tr
    refine then_n ?_
    refine at_seq rfl ?_
    refine cdd (fun h4 => ?_) (fun h4 => ?_)
    ·
     try simp only [decide_eq_true_eq, decide_eq_false_iff_not, Bool.not_eq_true', Bool.not_eq_false', beq_iff_eq, beq_eq_false_iff_ne, ne_eq] at h4
     refine at_skip rfl ?_
     refine then_n ?_
     refine at_seq rfl ?_
     refine at_block rfl ?_
     refine at_seq rfl ?_
     refine rg rfl ?_
     refine Rq ?_
     refine Rq ?_
     refine Rq ?_
     refine Rcall ?_
     obtain ⟨xx, hxx, hJx⟩ := outJ_any hO
     refine ACall_eq (next_ok _ _ x xx J hxx hJx hJl _ D1 (frz_row qd (by omega) hDl.symm) hDl (first + v)) ?_
     have hnb := nx_box J D1 (first + v) J.length
     generalize hnk : nx J D1 (first + v) J.length = nk at hnb ⊢
     refine Rq ?_
     have tr : ∀ a b c d e f g h i j k m n o p q r s t u v w x y z A B C D E F G H I J K L : AV, let l := lc_plan_ok a b c d e f g h i j k m n o p q r s t u v w x y z A B C D E F G; trim ((15,L)::(54,K)::(53,J)::(52,I)::(51,H)::l) l = [(0,a),(1,b),(2,c),(6,d),(7,e),(8,f),(9,g),(10,h),(11,i),(12,j),(13,k),(14,m),(15,L),(16,o),(17,p),(23,q),(30,r),(31,s),(32,t),(38,u),(39,v),(40,w),(41,x),(48,y),(49,z),(50,A),(56,B),(63,C),(64,D),(65,E),(66,F),(83,G)] := by intros; rfl
     refine R_nil (tr ..) ?_; clear tr
     refine then_n ?_
     refine at_seq rfl ?_
     refine at_seq rfl ?_
     refine rg rfl ?_
     refine Rq ?_
     refine Rq ?_
     have tr : ∀ a b c d e f g h i j k m n o p q r s t u v w x y z A B C D E F G H I : AV, let l := lc_plan_ok a b c d e f g h i j k m n o p q r s t u v w x y z A B C D E F G; trim ((56,I)::(55,H)::l) l = [(0,a),(1,b),(2,c),(6,d),(7,e),(8,f),(9,g),(10,h),(11,i),(12,j),(13,k),(14,m),(15,n),(16,o),(17,p),(23,q),(30,r),(31,s),(32,t),(38,u),(39,v),(40,w),(41,x),(48,y),(49,z),(50,A),(56,I),(63,C),(64,D),(65,E),(66,F),(83,G)] := by intros; rfl
     refine R_nil (tr ..) ?_; clear tr
     refine then_n ?_
     refine cdd (fun h5 => ?_) (fun h5 => ?_)
     ·
      try simp only [decide_eq_true_eq, decide_eq_false_iff_not, Bool.not_eq_true', Bool.not_eq_false', beq_iff_eq, beq_eq_false_iff_ne, ne_eq] at h5
      refine at_exit rfl ?_
      refine then_x ?_
      refine blk_p (by decide) ?_
      refine then_x ?_
      refine then_x ?_
      refine blk_x ?_
      refine blk_n ?_
      refine then_n ?_
      refine rg rfl ?_
      refine Rq ?_
      refine Rq ?_
      have tr : ∀ a b c d e f g h i j k m n o p q r s t u v w x y z A B C D E F G H I : AV, let l := lc_plan_ok a b c d e f g h i j k m n o p q r s t u v w x y z A B C D E F G; trim ((40,I)::(62,H)::l) l = [(0,a),(1,b),(2,c),(6,d),(7,e),(8,f),(9,g),(10,h),(11,i),(12,j),(13,k),(14,m),(15,n),(16,o),(17,p),(23,q),(30,r),(31,s),(32,t),(38,u),(39,v),(40,I),(41,x),(48,y),(49,z),(50,A),(56,B),(63,C),(64,D),(65,E),(66,F),(83,G)] := by intros; rfl
      refine R_nil (tr ..) ?_; clear tr
      refine then_n ?_
      exact ⟨_, _, ⟨v + 1, _, _, _, _, _, _, _, _, _, rfl, rfl, by omega, by first | (rw [← dys_next hcv hD1 (by omega) hk1]; exact qd) | (rw [← dys_brk hcv hD1 (by omega) hnk (by omega)]; exact qd), by exact qw, by exact qc, by exact hO⟩, by rfl, by omega⟩
     ·
      try simp only [decide_eq_true_eq, decide_eq_false_iff_not, Bool.not_eq_true', Bool.not_eq_false', beq_iff_eq, beq_eq_false_iff_ne, ne_eq] at h5
      refine at_skip rfl ?_
      refine then_n ?_
      refine rg rfl ?_
      refine Rq ?_
      refine Rq ?_
      refine Rq ?_
      refine Rq ?_
      have lqw := hget_lt qw
      have lqc := hget_lt qc
      have lqd := hget_lt qd
      refine A_store ty2 (by simp (disch := first | omega | (simp only [List.length_map, List.length_append, List.length_set, List.length_cons, List.length_nil]; omega)) only [go_sem, ↓reduceIte, Nat.reduceEqDiff, reduceCtorEq, qw, qc, qd] <;> rfl) (by simp (disch := first | omega | (simp only [List.length_map, List.length_append, List.length_set, List.length_cons, List.length_nil]; omega)) only [go_sem, ↓reduceIte, Nat.reduceEqDiff, reduceCtorEq, qw, qc, qd] <;> rfl) qd ⟨by omega, rfl, by first | exact Nat.le_refl _ | (simp; done) | (simp; omega)⟩ (k' := (D1.set nk.toNat (first + v)).map AV.i) (by first | exact setI _ _ _ | rfl) ?_
      intro H18 w18
      have ew18 := w18.len
      have qw := (w18.old _ (by omega)).trans qw
      have qc := (w18.old _ (by omega)).trans qc
      have qd := w18.new
      have tr : ∀ a b c d e f g h i j k m n o p q r s t u v w x y z A B C D E F G H I J K : AV, let l := lc_plan_ok a b c d e f g h i j k m n o p q r s t u v w x y z A B C D E F G; trim ((60,K)::(59,J)::(58,I)::(57,H)::l) l = [(0,a),(1,b),(2,c),(6,d),(7,e),(8,f),(9,g),(10,h),(11,i),(12,j),(13,k),(14,m),(15,n),(16,o),(17,p),(23,q),(30,r),(31,s),(32,t),(38,u),(39,v),(40,w),(41,x),(48,y),(49,z),(50,A),(56,B),(63,C),(64,D),(65,E),(66,F),(83,G)] := by intros; rfl
      refine R_nil (tr ..) ?_; clear tr
      refine blk_n ?_
      refine then_n ?_
      refine rg rfl ?_
      refine Rq ?_
      refine Rq ?_
      have tr : ∀ a b c d e f g h i j k m n o p q r s t u v w x y z A B C D E F G H I : AV, let l := lc_plan_ok a b c d e f g h i j k m n o p q r s t u v w x y z A B C D E F G; trim ((49,I)::(61,H)::l) l = [(0,a),(1,b),(2,c),(6,d),(7,e),(8,f),(9,g),(10,h),(11,i),(12,j),(13,k),(14,m),(15,n),(16,o),(17,p),(23,q),(30,r),(31,s),(32,t),(38,u),(39,v),(40,w),(41,x),(48,y),(49,I),(50,A),(56,B),(63,C),(64,D),(65,E),(66,F),(83,G)] := by intros; rfl
      refine R_nil (tr ..) ?_; clear tr
      refine then_n ?_
      exact ⟨_, _, ⟨k + 1, D1.set nk.toNat (first + v), _, _, _, rfl, rfl, by exact qd, by (rw [List.length_set]; exact hDl), by exact .inr ⟨by omega, by rw [← (hD1.resolve_right (fun hh => by omega)).2]; exact st1_T hnk (by omega)⟩, by intro _; omega, by exact qw, by exact qc, by exact OutG.keepW hO w18 hxl (by omega)⟩, by rfl, by omega⟩
    ·
     try simp only [decide_eq_true_eq, decide_eq_false_iff_not, Bool.not_eq_true', Bool.not_eq_false', beq_iff_eq, beq_eq_false_iff_ne, ne_eq] at h4
     refine at_exit rfl ?_
     refine then_x ?_
     refine then_x ?_
     refine blk_x ?_
     refine blk_n ?_
     refine then_n ?_
     refine rg rfl ?_
     refine Rq ?_
     refine Rq ?_
     have tr : ∀ a b c d e f g h i j k m n o p q r s t u v w x y z A B C D E F G H I : AV, let l := lc_plan_ok a b c d e f g h i j k m n o p q r s t u v w x y z A B C D E F G; trim ((40,I)::(62,H)::l) l = [(0,a),(1,b),(2,c),(6,d),(7,e),(8,f),(9,g),(10,h),(11,i),(12,j),(13,k),(14,m),(15,n),(16,o),(17,p),(23,q),(30,r),(31,s),(32,t),(38,u),(39,v),(40,I),(41,x),(48,y),(49,z),(50,A),(56,B),(63,C),(64,D),(65,E),(66,F),(83,G)] := by intros; rfl
     refine R_nil (tr ..) ?_; clear tr
     refine then_n ?_
     exact ⟨_, _, ⟨v + 1, _, _, _, _, _, _, _, _, _, rfl, rfl, by omega, by first | (rw [← dys_next hcv hD1 (by omega) hk1]; exact qd) | (rw [← dys_brk hcv hD1 (by omega) hnk (by omega)]; exact qd), by exact qw, by exact qc, by exact hO⟩, by rfl, by omega⟩
   ·
    try simp only [decide_eq_true_eq, decide_eq_false_iff_not, Bool.not_eq_true', Bool.not_eq_false', beq_iff_eq, beq_eq_false_iff_ne, ne_eq] at h3
    refine at_exit rfl ?_
    refine then_x ?_
    refine then_x ?_
    refine blk_x ?_
    refine then_n ?_
    refine at_seq rfl ?_
    refine at_seq rfl ?_
    refine rg rfl ?_
    refine Rq ?_
    refine R_q (r := AV.i (J.length : Nat)) rfl (by simp (disch := first | omega | (simp only [List.length_map, List.length_append, List.length_set, List.length_cons, List.length_nil]; omega)) only [go_sem, ↓reduceIte, Nat.reduceEqDiff, reduceCtorEq]; exact hO.len40) ?_
    refine Rq ?_
    have tr : ∀ a b c d e f g h i j k m n o p q r s t u v w x y z A B C D E F G H I J : AV, let l := lc_plan_ok a b c d e f g h i j k m n o p q r s t u v w x y z A B C D E F G; trim ((65,J)::(64,I)::(63,H)::l) l = [(0,a),(1,b),(2,c),(6,d),(7,e),(8,f),(9,g),(10,h),(11,i),(12,j),(13,k),(14,m),(15,n),(16,o),(17,p),(23,q),(30,r),(31,s),(32,t),(38,u),(39,v),(40,w),(41,x),(48,y),(49,z),(50,A),(56,B),(63,H),(64,I),(65,J),(66,F),(83,G)] := by intros; rfl
    refine R_nil (tr ..) ?_; clear tr
    refine then_n ?_
    refine at_block rfl ?_
    refine loop_n rfl (fun mm kv H' => ∃ i : Nat, ∃ x6 x8 x16 x17 x66 x83 : AV, (kv = [(6, x6), (8, x8), (16, x16), (17, x17), (65, AV.i i), (66, x66), (83, x83)]) ∧ (mm = J.length - i) ∧ (i ≤ J.length) ∧ (∀ j, j < i → 0 ≤ gt (dys J cs first cs.length) j ∧ gt (dys J cs first cs.length) j ≤ (gt J j).t) ∧ (hget H' H1.length = some ((dys J cs first cs.length).map AV.i)) ∧ (hget H' H.length = some [AV.i 0, AV.i 0]) ∧ (hget H' c = some (cs.map AV.i)) ∧ (OutG 2 0 H' x J.length (flatJ J))) ⟨0, _, _, _, _, _, _, rfl, rfl, by omega, by intro j hj; omega, by (rw [← show v = cs.length by omega]; exact qd), by exact qw, by exact qc, by exact hO⟩ (by rfl) ?_
    rintro mm kv HE ⟨i, x6, x8, x16, x17, x66, x83, rfl, rfl, hi, hall, qd, qw, qc, hO⟩
    have tr : ∀ a b c d e f g h i j k m n o p q r s t u v w x y z A B C D E F G H I J K L M N : AV, upd [(0,a),(1,b),(2,c),(6,d),(7,e),(8,f),(9,g),(10,h),(11,i),(12,j),(13,k),(14,m),(15,n),(16,o),(17,p),(23,q),(30,r),(31,s),(32,t),(38,u),(39,v),(40,w),(41,x),(48,y),(49,z),(50,A),(56,B),(63,C),(64,D),(65,E),(66,F),(83,G)] [(6,H),(8,I),(16,J),(17,K),(65,L),(66,M),(83,N)] = [(0,a),(1,b),(2,c),(6,H),(7,e),(8,I),(9,g),(10,h),(11,i),(12,j),(13,k),(14,m),(15,n),(16,J),(17,K),(23,q),(30,r),(31,s),(32,t),(38,u),(39,v),(40,w),(41,x),(48,y),(49,z),(50,A),(56,B),(63,C),(64,D),(65,L),(66,M),(83,N)] := by intros; rfl
    refine W_to (tr ..) ?_; clear tr
    refine at_seq rfl ?_
    refine rg rfl ?_
    refine Rq ?_
    have tr : ∀ a b c d e f g h i j k m n o p q r s t u v w x y z A B C D E F G H : AV, let l := lc_plan_ok a b c d e f g h i j k m n o p q r s t u v w x y z A B C D E F G; trim ((66,H)::l) l = [(0,a),(1,b),(2,c),(6,d),(7,e),(8,f),(9,g),(10,h),(11,i),(12,j),(13,k),(14,m),(15,n),(16,o),(17,p),(23,q),(30,r),(31,s),(32,t),(38,u),(39,v),(40,w),(41,x),(48,y),(49,z),(50,A),(56,B),(63,C),(64,D),(65,E),(66,H),(83,G)] := by intros; rfl
    refine R_nil (tr ..) ?_; clear tr
    refine then_n ?_
    refine at_seq rfl ?_
    refine cdd (fun h6 => ?_) (fun h6 => ?_)
    ·
     try simp only [decide_eq_true_eq, decide_eq_false_iff_not, Bool.not_eq_true', Bool.not_eq_false', beq_iff_eq, beq_eq_false_iff_ne, ne_eq] at h6
     refine at_skip rfl ?_
     refine then_n ?_
     refine at_seq rfl ?_
     refine at_block rfl ?_
     refine at_seq rfl ?_
     refine rg rfl ?_
     obtain ⟨bx, rfl, hbx, qx⟩ := hO.ownJ (by omega)
     refine Rq ?_
     refine Rq ?_
     refine R_q rfl (by simp (disch := first | omega | (simp only [List.length_map, List.length_append, List.length_set, List.length_cons, List.length_nil]; omega)) only [go_sem, ↓reduceIte, Nat.reduceEqDiff, reduceCtorEq, qw, qc, qd, qx, q17]; rfl) ?_
     have mqw := hget_lt qw
     have mqc := hget_lt qc
     have mqd := hget_lt qd
     have mqx := hget_lt qx
     refine A_alloc rfl ?_
     intro H9 n9
     have en9 := n9.len
     have qw := (n9.old _ (hget_lt qw)).trans qw
     have qc := (n9.old _ (hget_lt qc)).trans qc
     have qd := (n9.old _ (hget_lt qd)).trans qd
     have qx := (n9.old _ (hget_lt qx)).trans qx
     have q17 := n9.new
     refine Rq ?_
     have lqw := hget_lt qw
     have lqc := hget_lt qc
     have lqd := hget_lt qd
     have lqx := hget_lt qx
     have lq17 := hget_lt q17
     refine A_store ty43 (by simp (disch := first | omega | (simp only [List.length_map, List.length_append, List.length_set, List.length_cons, List.length_nil]; omega)) only [go_sem, ↓reduceIte, Nat.reduceEqDiff, reduceCtorEq, q17] <;> rfl) (by simp (disch := first | omega | (simp only [List.length_map, List.length_append, List.length_set, List.length_cons, List.length_nil]; omega)) only [go_sem, ↓reduceIte, Nat.reduceEqDiff, reduceCtorEq, q17] <;> rfl) q17 ⟨by omega, rfl, by first | exact Nat.le_refl _ | simp⟩ (k' := jbC (gt J i)) rfl ?_
     intro H9w w9
     have ew9 := w9.len
     have qw := (w9.old _ (by omega)).trans qw
     have qc := (w9.old _ (by omega)).trans qc
     have qd := (w9.old _ (by omega)).trans qd
     have qx := (w9.old _ (by omega)).trans qx
     have q17 := w9.new
     have tr : ∀ a b c d e f g h i j k m n o p q r s t u v w x y z A B C D E F G H I J K L : AV, let l := lc_plan_ok a b c d e f g h i j k m n o p q r s t u v w x y z A B C D E F G; trim ((16,L)::(17,K)::(69,J)::(68,I)::(67,H)::l) l = [(0,a),(1,b),(2,c),(6,d),(7,e),(8,f),(9,g),(10,h),(11,i),(12,j),(13,k),(14,m),(15,n),(16,L),(17,K),(23,q),(30,r),(31,s),(32,t),(38,u),(39,v),(40,w),(41,x),(48,y),(49,z),(50,A),(56,B),(63,C),(64,D),(65,E),(66,F),(83,G)] := by intros; rfl
     refine R_nil (tr ..) ?_; clear tr
     refine then_n ?_
     refine at_seq rfl ?_
     refine rd rfl rfl ?_
     refine Qq ?_
     refine Qq ?_
     refine Qq ?_
     refine Q_q (r := AV.i (gt (dys J cs first cs.length) i)) rfl (by simp (disch := first | omega | (simp only [List.length_map, List.length_append, List.length_set, List.length_cons, List.length_nil]; omega)) only [go_sem, ↓reduceIte, Nat.reduceEqDiff, reduceCtorEq, qd] <;> exact ints_at _ i (by rw [dys_len]; omega)) ?_
     refine Qq ?_
     refine Qq ?_
     refine Qp_split (fun h7 => ?_) (fun h7 => ?_)
     ·
      try simp only [decide_eq_true_eq, decide_eq_false_iff_not, Bool.not_eq_true', Bool.not_eq_false', beq_iff_eq, beq_eq_false_iff_ne, ne_eq] at h7
      refine Qn ?_
      refine Qn ?_
      refine Qn ?_
      refine Qn ?_
      refine Qn ?_
      refine Qn ?_
      refine Qn ?_
      refine Qq ?_
      refine Q_nil ?_
      have tr : ∀ a b c d e f g h i j k m n o p q r s t u v w x y z A B C D E F G H I J K L M N O P Q R S T U : AV, let l := lc_plan_ok a b c d e f g h i j k m n o p q r s t u v w x y z A B C D E F G; trim ((83,U)::(82,T)::(81,S)::(80,R)::(79,Q)::(78,P)::(77,O)::(76,N)::(75,M)::(74,L)::(73,K)::(72,J)::(71,I)::(70,H)::l) l = [(0,a),(1,b),(2,c),(6,d),(7,e),(8,f),(9,g),(10,h),(11,i),(12,j),(13,k),(14,m),(15,n),(16,o),(17,p),(23,q),(30,r),(31,s),(32,t),(38,u),(39,v),(40,w),(41,x),(48,y),(49,z),(50,A),(56,B),(63,C),(64,D),(65,E),(66,F),(83,U)] := by intros; rfl
      refine R_nil (tr ..) ?_; clear tr
      refine then_n ?_
      refine cdt ?_
      refine at_seq rfl ?_
      refine rg rfl ?_
      refine Rq ?_
      refine Rq ?_
      refine Rq ?_
      refine Rcall ?_
      obtain ⟨xx, hxx, hJx⟩ := outJ_any (H := _) (J := J) (.inr ⟨by omega, bx, rfl, hbx, qx⟩)
      refine ACall_mono (narrow_ok _ _ _ xx J hxx hJx hJl _ cs (frz_row qc (by omega) rfl) hcl h01 first (by omega) (late g1.1 h01 (fun j hj => ⟨(g2 j hj).1, (g2 j hj).2.1⟩) (i := i) (by omega) (by first | (left; assumption) | (left; omega) | (right; omega)))) ?_
      rintro r HC ⟨⟨a, b, rfl, hvi⟩, rfl⟩
      refine Rq ?_
      have lqw := hget_lt qw
      have lqc := hget_lt qc
      have lqd := hget_lt qd
      refine A_store ty45 (by simp (disch := first | omega | (simp only [List.length_map, List.length_append, List.length_set, List.length_cons, List.length_nil]; omega)) only [go_sem, ↓reduceIte, Nat.reduceEqDiff, reduceCtorEq, qw, qc, qd] <;> rfl) (by simp (disch := first | omega | (simp only [List.length_map, List.length_append, List.length_set, List.length_cons, List.length_nil]; omega)) only [go_sem, ↓reduceIte, Nat.reduceEqDiff, reduceCtorEq, qw, qc, qd] <;> rfl) qw ⟨by omega, rfl, by first | exact Nat.le_refl _ | (simp; done) | (simp; omega)⟩ (k' := [AV.i a, AV.i b]) (by first | exact setI _ _ _ | rfl) ?_
      intro H25 w25
      have ew25 := w25.len
      have qc := (w25.old _ (by omega)).trans qc
      have qd := (w25.old _ (by omega)).trans qd
      have qw := w25.new
      refine Rq ?_
      have tr : ∀ a b c d e f g h i j k m n o p q r s t u v w x y z A B C D E F G H I J K L M : AV, let l := lc_plan_ok a b c d e f g h i j k m n o p q r s t u v w x y z A B C D E F G; trim ((8,M)::(6,L)::(87,K)::(86,J)::(85,I)::(84,H)::l) l = [(0,a),(1,b),(2,c),(6,L),(7,e),(8,M),(9,g),(10,h),(11,i),(12,j),(13,k),(14,m),(15,n),(16,o),(17,p),(23,q),(30,r),(31,s),(32,t),(38,u),(39,v),(40,w),(41,x),(48,y),(49,z),(50,A),(56,B),(63,C),(64,D),(65,E),(66,F),(83,G)] := by intros; rfl
      refine R_nil (tr ..) ?_; clear tr
      refine then_n ?_
      refine at_ret rfl ?_
      refine blk_r ?_
      refine then_r ?_
      refine then_r ?_
      refine blk_r ?_
      refine then_r ?_
      refine fin_pure (rs := [.tmp 6, .cell 7 45, .tmp 8]) rfl (by simp (disch := first | omega | (simp only [List.length_map, List.length_append, List.length_set, List.length_cons, List.length_nil]; omega)) only [go_sem, ↓reduceIte, Nat.reduceEqDiff, reduceCtorEq, qw] <;> rfl) (v := .tup [nilO, .agg [AV.i a, AV.i b], AV.i 13]) (by rfl) ?_
      exact ⟨.inr ⟨a, b, rfl, hvi⟩, rfl⟩
     ·
      try simp only [decide_eq_true_eq, decide_eq_false_iff_not, Bool.not_eq_true', Bool.not_eq_false', beq_iff_eq, beq_eq_false_iff_ne, ne_eq] at h7
      refine Qy ?_
      refine Qq ?_
      refine Qy ?_
      refine Qq ?_
      refine Qy ?_
      refine Qq ?_
      refine Qy ?_
      refine Q_q (r := AV.i (gt (dys J cs first cs.length) i)) rfl (by simp (disch := first | omega | (simp only [List.length_map, List.length_append, List.length_set, List.length_cons, List.length_nil]; omega)) only [go_sem, ↓reduceIte, Nat.reduceEqDiff, reduceCtorEq, qd] <;> exact ints_at _ i (by rw [dys_len]; omega)) ?_
      refine Qy ?_
      refine Qq ?_
      refine Qy ?_
      refine Q_q (r := AV.i (gt J i).t) rfl (by simp (disch := first | omega | (simp only [List.length_map, List.length_append, List.length_set, List.length_cons, List.length_nil]; omega)) only [go_sem, ↓reduceIte, Nat.reduceEqDiff, reduceCtorEq, q17] <;> rfl) ?_
      refine Qy ?_
      refine Qq ?_
      refine Qq ?_
      refine Q_nil ?_
      have tr : ∀ a b c d e f g h i j k m n o p q r s t u v w x y z A B C D E F G H I J K L M N O P Q R S T U : AV, let l := lc_plan_ok a b c d e f g h i j k m n o p q r s t u v w x y z A B C D E F G; trim ((83,U)::(82,T)::(81,S)::(80,R)::(79,Q)::(78,P)::(77,O)::(76,N)::(75,M)::(74,L)::(73,K)::(72,J)::(71,I)::(70,H)::l) l = [(0,a),(1,b),(2,c),(6,d),(7,e),(8,f),(9,g),(10,h),(11,i),(12,j),(13,k),(14,m),(15,n),(16,o),(17,p),(23,q),(30,r),(31,s),(32,t),(38,u),(39,v),(40,w),(41,x),(48,y),(49,z),(50,A),(56,B),(63,C),(64,D),(65,E),(66,F),(83,U)] := by intros; rfl
      refine R_nil (tr ..) ?_; clear tr
      refine then_n ?_
      refine cdd (fun h8 => ?_) (fun h8 => ?_)
      ·
       try simp only [decide_eq_true_eq, decide_eq_false_iff_not, Bool.not_eq_true', Bool.not_eq_false', beq_iff_eq, beq_eq_false_iff_ne, ne_eq] at h8
       refine at_seq rfl ?_
       refine rg rfl ?_
       refine Rq ?_
       refine Rq ?_
       refine Rq ?_
       refine Rcall ?_
       obtain ⟨xx, hxx, hJx⟩ := outJ_any (H := _) (J := J) (.inr ⟨by omega, bx, rfl, hbx, qx⟩)
       refine ACall_mono (narrow_ok _ _ _ xx J hxx hJx hJl _ cs (frz_row qc (by omega) rfl) hcl h01 first (by omega) (late g1.1 h01 (fun j hj => ⟨(g2 j hj).1, (g2 j hj).2.1⟩) (i := i) (by omega) (by first | (left; assumption) | (left; omega) | (right; omega)))) ?_
       rintro r HC ⟨⟨a, b, rfl, hvi⟩, rfl⟩
       refine Rq ?_
       have lqw := hget_lt qw
       have lqc := hget_lt qc
       have lqd := hget_lt qd
       refine A_store ty45 (by simp (disch := first | omega | (simp only [List.length_map, List.length_append, List.length_set, List.length_cons, List.length_nil]; omega)) only [go_sem, ↓reduceIte, Nat.reduceEqDiff, reduceCtorEq, qw, qc, qd] <;> rfl) (by simp (disch := first | omega | (simp only [List.length_map, List.length_append, List.length_set, List.length_cons, List.length_nil]; omega)) only [go_sem, ↓reduceIte, Nat.reduceEqDiff, reduceCtorEq, qw, qc, qd] <;> rfl) qw ⟨by omega, rfl, by first | exact Nat.le_refl _ | (simp; done) | (simp; omega)⟩ (k' := [AV.i a, AV.i b]) (by first | exact setI _ _ _ | rfl) ?_
       intro H25 w25
       have ew25 := w25.len
       have qc := (w25.old _ (by omega)).trans qc
       have qd := (w25.old _ (by omega)).trans qd
       have qw := w25.new
       refine Rq ?_
       have tr : ∀ a b c d e f g h i j k m n o p q r s t u v w x y z A B C D E F G H I J K L M : AV, let l := lc_plan_ok a b c d e f g h i j k m n o p q r s t u v w x y z A B C D E F G; trim ((8,M)::(6,L)::(87,K)::(86,J)::(85,I)::(84,H)::l) l = [(0,a),(1,b),(2,c),(6,L),(7,e),(8,M),(9,g),(10,h),(11,i),(12,j),(13,k),(14,m),(15,n),(16,o),(17,p),(23,q),(30,r),(31,s),(32,t),(38,u),(39,v),(40,w),(41,x),(48,y),(49,z),(50,A),(56,B),(63,C),(64,D),(65,E),(66,F),(83,G)] := by intros; rfl
       refine R_nil (tr ..) ?_; clear tr
       refine then_n ?_
       refine at_ret rfl ?_
       refine blk_r ?_
       refine then_r ?_
       refine then_r ?_
       refine blk_r ?_
       refine then_r ?_
       refine fin_pure (rs := [.tmp 6, .cell 7 45, .tmp 8]) rfl (by simp (disch := first | omega | (simp only [List.length_map, List.length_append, List.length_set, List.length_cons, List.length_nil]; omega)) only [go_sem, ↓reduceIte, Nat.reduceEqDiff, reduceCtorEq, qw] <;> rfl) (v := .tup [nilO, .agg [AV.i a, AV.i b], AV.i 13]) (by rfl) ?_
       exact ⟨.inr ⟨a, b, rfl, hvi⟩, rfl⟩
      ·
       try simp only [decide_eq_true_eq, decide_eq_false_iff_not, Bool.not_eq_true', Bool.not_eq_false', beq_iff_eq, beq_eq_false_iff_ne, ne_eq] at h8
       refine at_skip rfl ?_
       refine blk_n ?_
       refine then_n ?_
       refine rg rfl ?_
       refine Rq ?_
       refine Rq ?_
       have tr : ∀ a b c d e f g h i j k m n o p q r s t u v w x y z A B C D E F G H I : AV, let l := lc_plan_ok a b c d e f g h i j k m n o p q r s t u v w x y z A B C D E F G; trim ((65,I)::(88,H)::l) l = [(0,a),(1,b),(2,c),(6,d),(7,e),(8,f),(9,g),(10,h),(11,i),(12,j),(13,k),(14,m),(15,n),(16,o),(17,p),(23,q),(30,r),(31,s),(32,t),(38,u),(39,v),(40,w),(41,x),(48,y),(49,z),(50,A),(56,B),(63,C),(64,D),(65,I),(66,F),(83,G)] := by intros; rfl
       refine R_nil (tr ..) ?_; clear tr
       refine then_n ?_
       exact ⟨_, _, ⟨i + 1, _, _, _, _, _, _, rfl, rfl, by omega, by exact all_step hall ⟨by omega, by omega⟩, by exact qd, by exact qw, by exact qc, by exact .inr ⟨by omega, bx, rfl, hbx, qx⟩⟩, by rfl, by omega⟩
    ·
     try simp only [decide_eq_true_eq, decide_eq_false_iff_not, Bool.not_eq_true', Bool.not_eq_false', beq_iff_eq, beq_eq_false_iff_ne, ne_eq] at h6
     refine at_exit rfl ?_
     refine then_x ?_
     refine then_x ?_
     refine blk_x ?_
     refine then_n ?_
     refine at_seq rfl ?_
     refine rg rfl ?_
     refine Rq ?_
     refine R_q rfl (by simp (disch := first | omega | (simp only [List.length_map, List.length_append, List.length_set, List.length_cons, List.length_nil]; omega)) only [go_sem, ↓reduceIte, Nat.reduceEqDiff, reduceCtorEq]; exact bld45) ?_
     refine Rq ?_
     have lqw := hget_lt qw
     have lqc := hget_lt qc
     have lqd := hget_lt qd
     refine A_store ty45 (by simp (disch := first | omega | (simp only [List.length_map, List.length_append, List.length_set, List.length_cons, List.length_nil]; omega)) only [go_sem, ↓reduceIte, Nat.reduceEqDiff, reduceCtorEq, qw, qc, qd] <;> rfl) (by simp (disch := first | omega | (simp only [List.length_map, List.length_append, List.length_set, List.length_cons, List.length_nil]; omega)) only [go_sem, ↓reduceIte, Nat.reduceEqDiff, reduceCtorEq, qw, qc, qd] <;> rfl) qw ⟨by omega, rfl, by first | exact Nat.le_refl _ | (simp; done) | (simp; omega)⟩ (k' := [AV.i 0, AV.i 0]) (by first | exact setI _ _ _ | rfl) ?_
     intro H27 w27
     have ew27 := w27.len
     have qc := (w27.old _ (by omega)).trans qc
     have qd := (w27.old _ (by omega)).trans qd
     have qw := w27.new
     refine Rq ?_
     have tr : ∀ a b c d e f g h i j k m n o p q r s t u v w x y z A B C D E F G H I J K : AV, let l := lc_plan_ok a b c d e f g h i j k m n o p q r s t u v w x y z A B C D E F G; trim ((8,K)::(6,J)::(90,I)::(89,H)::l) l = [(0,a),(1,b),(2,c),(6,J),(7,e),(8,K),(9,g),(10,h),(11,i),(12,j),(13,k),(14,m),(15,n),(16,o),(17,p),(23,q),(30,r),(31,s),(32,t),(38,u),(39,v),(40,w),(41,x),(48,y),(49,z),(50,A),(56,B),(63,C),(64,D),(65,E),(66,F),(83,G)] := by intros; rfl
     refine R_nil (tr ..) ?_; clear tr
     refine then_n ?_
     refine at_ret rfl ?_
     refine fin_pure (rs := [.tmp 6, .cell 7 45, .tmp 8]) rfl (by simp (disch := first | omega | (simp only [List.length_map, List.length_append, List.length_set, List.length_cons, List.length_nil]; omega)) only [go_sem, ↓reduceIte, Nat.reduceEqDiff, reduceCtorEq, qw] <;> rfl) (v := .tup [intsAV (dys J cs first cs.length), .agg [AV.i 0, AV.i 0], AV.i 0]) (by show AV.tup [frz _ _ 7 (.own 1 H1.length 0 J.length), _, _] = _; rw [frz_row qd (by omega) (dys_len ..).symm]; rfl) ?_
     exact ⟨.inl ⟨rfl, fun j hj => hall j (by omega)⟩, rfl⟩

end Go.Proofs.Ytkjgmpjnhfmecaa
