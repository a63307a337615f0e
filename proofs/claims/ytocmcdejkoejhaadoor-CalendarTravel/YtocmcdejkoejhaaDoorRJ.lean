/-
  Walks of chapter 48. The steps are written by program (walk.py).
-/
import Derived.Test.YtocmcdejkoejhaaDoorK7
import Derived.Test.YtocmcdejkoejhaaDoorRF
import Derived.Test.YtocmcdejkoejhaaDoorAmU
set_option linter.unusedSimpArgs false
set_option linter.unusedVariables false
set_option maxHeartbeats 1000000
set_option maxRecDepth 20000
namespace Go.Proofs.YtocmcdejkoejhaaDoor
open Go Go.Am
abbrev lc_rshort_ok (a b c d e f g h i j k m n o p q r s t u v w x : AV) : Env := [(0,a),(2,b),(3,c),(4,d),(5,e),(7,f),(8,g),(9,h),(10,i),(14,j),(16,k),(17,m),(18,n),(19,o),(30,p),(31,q),(32,r),(35,s),(36,t),(37,u),(40,v),(41,w),(42,x)]
theorem rshort_ok (lim : Nat) (H : Heap) (t : List (List Int)) : ACall sig lim 25 [rowsAV t] H fun r H' => r = .tup [shAV t, AV.i (ctS t)] ∧ H' = H := by
 refine ACall_pure (fa := fa25) rfl rfl rfl rfl ?_
 have tr : ∀ a0 : AV, env0 fa25.keep [a0] = [(0,a0),(2,.any),(3,.any),(4,.any),(5,.any),(7,.any),(8,.any),(9,.any),(10,.any),(14,.any),(16,.any),(17,.any),(18,.any),(19,.any),(30,.any),(31,.any),(32,.any),(35,.any),(36,.any),(37,.any),(40,.any),(41,.any),(42,.any)] := fun a0 => rfl
 refine W_to (tr _) ?_; clear tr
 refine at_seq rfl ?_
 refine rg rfl ?_
 refine Rq ?_
 refine Rq ?_
 have tr : ∀ a b c d e f g h i j k m n o p q r s t u v w x y z : AV, let l := lc_rshort_ok a b c d e f g h i j k m n o p q r s t u v w x; trim ((3,z)::(2,y)::l) l = [(0,a),(2,y),(3,z),(4,d),(5,e),(7,f),(8,g),(9,h),(10,i),(14,j),(16,k),(17,m),(18,n),(19,o),(30,p),(31,q),(32,r),(35,s),(36,t),(37,u),(40,v),(41,w),(42,x)] := by intros; rfl
 refine R_nil (tr ..) ?_; clear tr
 refine then_n ?_
 refine at_seq rfl ?_
 refine at_seq rfl ?_
 refine rg rfl ?_
 refine Rq ?_
 refine Rcall ?_
 refine ACall_eq (rtravel_ok _ _ _) ?_
 refine Rq ?_
 have tr : ∀ a b c d e f g h i j k m n o p q r s t u v w x y z A : AV, let l := lc_rshort_ok a b c d e f g h i j k m n o p q r s t u v w x; trim ((4,A)::(12,z)::(11,y)::l) l = [(0,a),(2,b),(3,c),(4,A),(5,e),(7,f),(8,g),(9,h),(10,i),(14,j),(16,k),(17,m),(18,n),(19,o),(30,p),(31,q),(32,r),(35,s),(36,t),(37,u),(40,v),(41,w),(42,x)] := by intros; rfl
 refine R_nil (tr ..) ?_; clear tr
 refine then_n ?_
 refine at_seq rfl ?_
 refine rg rfl ?_
 refine Rq ?_
 refine Rq ?_
 have tr : ∀ a b c d e f g h i j k m n o p q r s t u v w x y z : AV, let l := lc_rshort_ok a b c d e f g h i j k m n o p q r s t u v w x; trim ((14,z)::(13,y)::l) l = [(0,a),(2,b),(3,c),(4,d),(5,e),(7,f),(8,g),(9,h),(10,i),(14,z),(16,k),(17,m),(18,n),(19,o),(30,p),(31,q),(32,r),(35,s),(36,t),(37,u),(40,v),(41,w),(42,x)] := by intros; rfl
 refine R_nil (tr ..) ?_; clear tr
 refine then_n ?_
 refine cdd (fun h1 => ?_) (fun h1 => ?_)
 ·
  try simp only [decide_eq_true_eq, decide_eq_false_iff_not, Bool.not_eq_true', Bool.not_eq_false', beq_iff_eq, beq_eq_false_iff_ne, ne_eq] at h1
  refine at_seq rfl ?_
  refine rg rfl ?_
  refine Rq ?_
  refine Rq ?_
  refine Rq ?_
  have tr : ∀ a b c d e f g h i j k m n o p q r s t u v w x y z A : AV, let l := lc_rshort_ok a b c d e f g h i j k m n o p q r s t u v w x; trim ((3,A)::(2,z)::(15,y)::l) l = [(0,a),(2,z),(3,A),(4,d),(5,e),(7,f),(8,g),(9,h),(10,i),(14,j),(16,k),(17,m),(18,n),(19,o),(30,p),(31,q),(32,r),(35,s),(36,t),(37,u),(40,v),(41,w),(42,x)] := by intros; rfl
  refine R_nil (tr ..) ?_; clear tr
  refine then_n ?_
  refine at_ret rfl ?_
  refine then_r ?_
  refine fpure ?_
  refine ⟨?_, rfl⟩
  rw [sh_no (by assumption)]
 ·
  try simp only [decide_eq_true_eq, decide_eq_false_iff_not, Bool.not_eq_true', Bool.not_eq_false', beq_iff_eq, beq_eq_false_iff_ne, ne_eq] at h1
  refine at_skip rfl ?_
  refine then_n ?_
  refine at_seq rfl ?_
  refine rg rfl ?_
  have hct : ctS t = 0 := by first | assumption | (exact Decidable.not_not.mp (by assumption)) | omega
  obtain ⟨ht0, ht20, hlen, htr⟩ := ct_of hct
  obtain ⟨gd0, sym0⟩ := ct_good hct
  refine Rq ?_
  have tr : ∀ a b c d e f g h i j k m n o p q r s t u v w x y : AV, let l := lc_rshort_ok a b c d e f g h i j k m n o p q r s t u v w x; trim ((5,y)::l) l = [(0,a),(2,b),(3,c),(4,d),(5,y),(7,f),(8,g),(9,h),(10,i),(14,j),(16,k),(17,m),(18,n),(19,o),(30,p),(31,q),(32,r),(35,s),(36,t),(37,u),(40,v),(41,w),(42,x)] := by intros; rfl
  refine R_nil (tr ..) ?_; clear tr
  refine then_n ?_
  refine at_seq rfl ?_
  refine at_seq rfl ?_
  refine rg rfl ?_
  refine Rq ?_
  refine Rq ?_
  refine Rq ?_
  have tr : ∀ a b c d e f g h i j k m n o p q r s t u v w x y z A : AV, let l := lc_rshort_ok a b c d e f g h i j k m n o p q r s t u v w x; trim ((18,A)::(17,z)::(16,y)::l) l = [(0,a),(2,b),(3,c),(4,d),(5,e),(7,f),(8,g),(9,h),(10,i),(14,j),(16,y),(17,z),(18,A),(19,o),(30,p),(31,q),(32,r),(35,s),(36,t),(37,u),(40,v),(41,w),(42,x)] := by intros; rfl
  refine R_nil (tr ..) ?_; clear tr
  refine then_n ?_
  refine at_block rfl ?_
  refine loop_n rfl (fun mm kv H' => ∃ u : Nat, ∃ x7 x19 : AV, (kv = [(5, outV H.length u), (7, x7), (18, AV.i u), (19, x19)]) ∧ (mm = t.length - u) ∧ (u ≤ t.length) ∧ (H'.length = H.length + 4 * u) ∧ (u = 0 ∨ hget H' (H.length + 4 * u - 1) = some (outC H.length t.length u)) ∧ (∀ i, i < u → hget H' (br25 H.length i) = some ((gt t i).map AV.i))) ⟨0, _, _, rfl, rfl, by omega, by omega, by exact .inl rfl, by intro i hi; omega⟩ (by rfl) ?_
  rintro mm kv H1 ⟨u, x7, x19, rfl, rfl, hu, eL, qo, rows⟩
  have tr : ∀ a b c d e f g h i j k m n o p q r s t u v w x y z A B : AV, upd [(0,a),(2,b),(3,c),(4,d),(5,e),(7,f),(8,g),(9,h),(10,i),(14,j),(16,k),(17,m),(18,n),(19,o),(30,p),(31,q),(32,r),(35,s),(36,t),(37,u),(40,v),(41,w),(42,x)] [(5,y),(7,z),(18,A),(19,B)] = [(0,a),(2,b),(3,c),(4,d),(5,y),(7,z),(8,g),(9,h),(10,i),(14,j),(16,k),(17,m),(18,A),(19,B),(30,p),(31,q),(32,r),(35,s),(36,t),(37,u),(40,v),(41,w),(42,x)] := by intros; rfl
  refine W_to (tr ..) ?_; clear tr
  refine at_seq rfl ?_
  refine rg rfl ?_
  refine Rq ?_
  have tr : ∀ a b c d e f g h i j k m n o p q r s t u v w x y : AV, let l := lc_rshort_ok a b c d e f g h i j k m n o p q r s t u v w x; trim ((19,y)::l) l = [(0,a),(2,b),(3,c),(4,d),(5,e),(7,f),(8,g),(9,h),(10,i),(14,j),(16,k),(17,m),(18,n),(19,y),(30,p),(31,q),(32,r),(35,s),(36,t),(37,u),(40,v),(41,w),(42,x)] := by intros; rfl
  refine R_nil (tr ..) ?_; clear tr
  refine then_n ?_
  refine at_seq rfl ?_
  refine cdd (fun h2 => ?_) (fun h2 => ?_)
  ·
   try simp only [decide_eq_true_eq, decide_eq_false_iff_not, Bool.not_eq_true', Bool.not_eq_false', beq_iff_eq, beq_eq_false_iff_ne, ne_eq] at h2
   refine at_skip rfl ?_
   refine then_n ?_
   refine at_seq rfl ?_
   refine at_block rfl ?_
   refine at_seq rfl ?_
   refine rg rfl ?_
   refine Rq ?_
   refine Rq ?_
   refine Rq ?_
   have tr : ∀ a b c d e f g h i j k m n o p q r s t u v w x y z A : AV, let l := lc_rshort_ok a b c d e f g h i j k m n o p q r s t u v w x; trim ((7,A)::(21,z)::(20,y)::l) l = [(0,a),(2,b),(3,c),(4,d),(5,e),(7,A),(8,g),(9,h),(10,i),(14,j),(16,k),(17,m),(18,n),(19,o),(30,p),(31,q),(32,r),(35,s),(36,t),(37,u),(40,v),(41,w),(42,x)] := by intros; rfl
   refine R_nil (tr ..) ?_; clear tr
   refine then_n ?_
   refine rg rfl ?_
   refine Rq ?_
   refine A_buildSlice (bs37e _ _ _) ?_
   intro Ha na
   have ea := na.len
   refine Rq ?_
   refine A_append (by simp (disch := first | omega | (simp only [List.length_map, List.length_append, List.length_set, List.length_cons, List.length_nil]; omega)) only [go_sem, ↓reduceIte, Nat.reduceEqDiff, reduceCtorEq]; exact ap37 (gt t u) na.new (by omega) (by have := hlen u (by omega); omega)) ?_
   intro Hb gb
   have eb := gb.len
   have qb := gb.new
   rw [show Ha.length = br25 H.length u by (unfold br25; omega)] at qb
   refine A_buildSlice (bs40 _ _ _ _ (br25 H.length u) t.length (by simp (disch := first | omega | (simp only [List.length_map, List.length_append, List.length_set, List.length_cons, List.length_nil]; omega)) only [go_sem, ↓reduceIte, Nat.reduceEqDiff, reduceCtorEq]; rw [hlen u (by omega), show Ha.length = br25 H.length u by (unfold br25; omega)])) ?_
   intro Hc nc
   have ec := nc.len
   have hqo : u = 0 ∨ hget Hc (H.length + 4 * u - 1) = some (outC H.length t.length u) := by
     rcases qo with h | h
     · exact .inl h
     · by_cases hu0 : u = 0
       · exact .inl hu0
       · exact .inr ((nc.old _ (by omega)).trans ((gb.old _ (by omega) (by omega)).trans ((na.old _ (by omega)).trans h)))
   refine A_append (by simp (disch := first | omega | (simp only [List.length_map, List.length_append, List.length_set, List.length_cons, List.length_nil]; omega)) only [go_sem, ↓reduceIte, Nat.reduceEqDiff, reduceCtorEq]; exact ap40 (B := H.length) (n := t.length) hqo nc.new (by omega) (by omega) (by omega)) ?_
   intro Hd gd
   have ed := gd.len
   have qd := gd.new
   rw [show Hc.length = H.length + 4 * (u + 1) - 1 by omega] at qd
   refine Rq ?_
   have tr : ∀ a b c d e f g h i j k m n o p q r s t u v w x y z A B C D E : AV, let l := lc_rshort_ok a b c d e f g h i j k m n o p q r s t u v w x; trim ((5,E)::(27,D)::(26,C)::(25,B)::(24,A)::(23,z)::(22,y)::l) l = [(0,a),(2,b),(3,c),(4,d),(5,E),(7,f),(8,g),(9,h),(10,i),(14,j),(16,k),(17,m),(18,n),(19,o),(30,p),(31,q),(32,r),(35,s),(36,t),(37,u),(40,v),(41,w),(42,x)] := by intros; rfl
   refine R_nil (tr ..) ?_; clear tr
   refine blk_n ?_
   refine then_n ?_
   refine rg rfl ?_
   refine Rq ?_
   refine Rq ?_
   have tr : ∀ a b c d e f g h i j k m n o p q r s t u v w x y z : AV, let l := lc_rshort_ok a b c d e f g h i j k m n o p q r s t u v w x; trim ((18,z)::(28,y)::l) l = [(0,a),(2,b),(3,c),(4,d),(5,e),(7,f),(8,g),(9,h),(10,i),(14,j),(16,k),(17,m),(18,z),(19,o),(30,p),(31,q),(32,r),(35,s),(36,t),(37,u),(40,v),(41,w),(42,x)] := by intros; rfl
   refine R_nil (tr ..) ?_; clear tr
   refine then_n ?_
   exact ⟨_, _, ⟨u + 1, _, _, rfl, rfl, by omega, by show Hd.length = H.length + 4 * (u + 1); omega, by exact .inr qd, by intro i hi; exact (Nat.lt_or_eq_of_le (Nat.le_of_lt_succ hi)).elim (fun h3 => (gd.old _ (by unfold br25; omega) (by unfold br25; omega)).trans ((nc.old _ (by unfold br25; omega)).trans ((gb.old _ (by unfold br25; omega) (by unfold br25; omega)).trans ((na.old _ (by unfold br25; omega)).trans (rows i h3))))) (fun hh => by subst hh; exact (gd.old _ (by unfold br25; omega) (by unfold br25; omega)).trans ((nc.old _ (by unfold br25; omega)).trans qb))⟩, by rfl, by omega⟩
  ·
   try simp only [decide_eq_true_eq, decide_eq_false_iff_not, Bool.not_eq_true', Bool.not_eq_false', beq_iff_eq, beq_eq_false_iff_ne, ne_eq] at h2
   refine at_exit rfl ?_
   refine then_x ?_
   refine then_x ?_
   refine blk_x ?_
   refine then_n ?_
   refine at_seq rfl ?_
   refine at_seq rfl ?_
   refine rg rfl ?_
   obtain rfl : u = t.length := by omega
   rw [outV_pos (show 0 < t.length by omega)]
   have qo := qo.resolve_left (by omega)
   unfold outC at qo
   rw [outR_eq] at qo
   have m0 := MatH.start (br := (br25 H.length)) (u := t.length) rfl qo rows hlen
   refine Rq ?_
   refine Rq ?_
   refine Rq ?_
   have tr : ∀ a b c d e f g h i j k m n o p q r s t u v w x y z A : AV, let l := lc_rshort_ok a b c d e f g h i j k m n o p q r s t u v w x; trim ((31,A)::(30,z)::(29,y)::l) l = [(0,a),(2,b),(3,c),(4,d),(5,e),(7,f),(8,g),(9,h),(10,i),(14,j),(16,k),(17,m),(18,n),(19,o),(30,z),(31,A),(32,r),(35,s),(36,t),(37,u),(40,v),(41,w),(42,x)] := by intros; rfl
   refine R_nil (tr ..) ?_; clear tr
   refine then_n ?_
   refine at_block rfl ?_
   refine loop_n rfl (fun mm kv H' => ∃ k : Nat, ∃ x8 x9 x10 x32 x35 x36 x37 x40 x41 x42 : AV, (kv = [(8, x8), (9, x9), (10, x10), (31, AV.i k), (32, x32), (35, x35), (36, x36), (37, x37), (40, x40), (41, x41), (42, x42)]) ∧ (mm = t.length - k) ∧ (k ≤ t.length) ∧ (MatH H' (H.length + 4 * t.length - 1) (br25 H.length) t.length (fwK (tb t) t.length k))) ⟨0, _, _, _, _, _, _, _, _, _, _, rfl, rfl, by omega, by exact m0⟩ (by rfl) ?_
   rintro mm kv HK ⟨k, x8, x9, x10, x32, x35, x36, x37, x40, x41, x42, rfl, rfl, hk, mk⟩
   have tr : ∀ a b c d e f g h i j k m n o p q r s t u v w x y z A B C D E F G H I : AV, upd [(0,a),(2,b),(3,c),(4,d),(5,e),(7,f),(8,g),(9,h),(10,i),(14,j),(16,k),(17,m),(18,n),(19,o),(30,p),(31,q),(32,r),(35,s),(36,t),(37,u),(40,v),(41,w),(42,x)] [(8,y),(9,z),(10,A),(31,B),(32,C),(35,D),(36,E),(37,F),(40,G),(41,H),(42,I)] = [(0,a),(2,b),(3,c),(4,d),(5,e),(7,f),(8,y),(9,z),(10,A),(14,j),(16,k),(17,m),(18,n),(19,o),(30,p),(31,B),(32,C),(35,D),(36,E),(37,F),(40,G),(41,H),(42,I)] := by intros; rfl
   refine W_to (tr ..) ?_; clear tr
   refine at_seq rfl ?_
   refine rg rfl ?_
   refine Rq ?_
   have tr : ∀ a b c d e f g h i j k m n o p q r s t u v w x y : AV, let l := lc_rshort_ok a b c d e f g h i j k m n o p q r s t u v w x; trim ((32,y)::l) l = [(0,a),(2,b),(3,c),(4,d),(5,e),(7,f),(8,g),(9,h),(10,i),(14,j),(16,k),(17,m),(18,n),(19,o),(30,p),(31,q),(32,y),(35,s),(36,t),(37,u),(40,v),(41,w),(42,x)] := by intros; rfl
   refine R_nil (tr ..) ?_; clear tr
   refine then_n ?_
   refine at_seq rfl ?_
   refine cdd (fun h3 => ?_) (fun h3 => ?_)
   ·
    try simp only [decide_eq_true_eq, decide_eq_false_iff_not, Bool.not_eq_true', Bool.not_eq_false', beq_iff_eq, beq_eq_false_iff_ne, ne_eq] at h3
    refine at_skip rfl ?_
    refine then_n ?_
    refine at_seq rfl ?_
    refine at_block rfl ?_
    refine at_seq rfl ?_
    refine rg rfl ?_
    refine Rq ?_
    refine Rq ?_
    have tr : ∀ a b c d e f g h i j k m n o p q r s t u v w x y z : AV, let l := lc_rshort_ok a b c d e f g h i j k m n o p q r s t u v w x; trim ((8,z)::(33,y)::l) l = [(0,a),(2,b),(3,c),(4,d),(5,e),(7,f),(8,z),(9,h),(10,i),(14,j),(16,k),(17,m),(18,n),(19,o),(30,p),(31,q),(32,r),(35,s),(36,t),(37,u),(40,v),(41,w),(42,x)] := by intros; rfl
    refine R_nil (tr ..) ?_; clear tr
    refine then_n ?_
    refine at_seq rfl ?_
    refine rg rfl ?_
    refine Rq ?_
    refine Rq ?_
    refine Rq ?_
    have tr : ∀ a b c d e f g h i j k m n o p q r s t u v w x y z A : AV, let l := lc_rshort_ok a b c d e f g h i j k m n o p q r s t u v w x; trim ((36,A)::(35,z)::(34,y)::l) l = [(0,a),(2,b),(3,c),(4,d),(5,e),(7,f),(8,g),(9,h),(10,i),(14,j),(16,k),(17,m),(18,n),(19,o),(30,p),(31,q),(32,r),(35,z),(36,A),(37,u),(40,v),(41,w),(42,x)] := by intros; rfl
    refine R_nil (tr ..) ?_; clear tr
    refine then_n ?_
    refine at_block rfl ?_
    refine loop_n rfl (fun mm kv H' => ∃ i : Nat, ∃ x9 x10 x37 x40 x41 x42 : AV, (kv = [(9, x9), (10, x10), (36, AV.i i), (37, x37), (40, x40), (41, x41), (42, x42)]) ∧ (mm = t.length - i) ∧ (i ≤ t.length) ∧ (MatH H' (H.length + 4 * t.length - 1) (br25 H.length) t.length (fwI (fwK (tb t) t.length k) t.length k i))) ⟨0, _, _, _, _, _, _, rfl, rfl, by omega, by exact mk⟩ (by rfl) ?_
    rintro mm kv HI ⟨i, x9, x10, x37, x40, x41, x42, rfl, rfl, hi, mi⟩
    have tr : ∀ a b c d e f g h i j k m n o p q r s t u v w x y z A B C D E : AV, upd [(0,a),(2,b),(3,c),(4,d),(5,e),(7,f),(8,g),(9,h),(10,i),(14,j),(16,k),(17,m),(18,n),(19,o),(30,p),(31,q),(32,r),(35,s),(36,t),(37,u),(40,v),(41,w),(42,x)] [(9,y),(10,z),(36,A),(37,B),(40,C),(41,D),(42,E)] = [(0,a),(2,b),(3,c),(4,d),(5,e),(7,f),(8,g),(9,y),(10,z),(14,j),(16,k),(17,m),(18,n),(19,o),(30,p),(31,q),(32,r),(35,s),(36,A),(37,B),(40,C),(41,D),(42,E)] := by intros; rfl
    refine W_to (tr ..) ?_; clear tr
    refine at_seq rfl ?_
    refine rg rfl ?_
    refine Rq ?_
    have tr : ∀ a b c d e f g h i j k m n o p q r s t u v w x y : AV, let l := lc_rshort_ok a b c d e f g h i j k m n o p q r s t u v w x; trim ((37,y)::l) l = [(0,a),(2,b),(3,c),(4,d),(5,e),(7,f),(8,g),(9,h),(10,i),(14,j),(16,k),(17,m),(18,n),(19,o),(30,p),(31,q),(32,r),(35,s),(36,t),(37,y),(40,v),(41,w),(42,x)] := by intros; rfl
    refine R_nil (tr ..) ?_; clear tr
    refine then_n ?_
    refine at_seq rfl ?_
    refine cdd (fun h4 => ?_) (fun h4 => ?_)
    ·
     try simp only [decide_eq_true_eq, decide_eq_false_iff_not, Bool.not_eq_true', Bool.not_eq_false', beq_iff_eq, beq_eq_false_iff_ne, ne_eq] at h4
     refine at_skip rfl ?_
     refine then_n ?_
     refine at_seq rfl ?_
     refine at_block rfl ?_
     refine at_seq rfl ?_
     refine rg rfl ?_
     refine Rq ?_
     refine Rq ?_
     have tr : ∀ a b c d e f g h i j k m n o p q r s t u v w x y z : AV, let l := lc_rshort_ok a b c d e f g h i j k m n o p q r s t u v w x; trim ((9,z)::(38,y)::l) l = [(0,a),(2,b),(3,c),(4,d),(5,e),(7,f),(8,g),(9,z),(10,i),(14,j),(16,k),(17,m),(18,n),(19,o),(30,p),(31,q),(32,r),(35,s),(36,t),(37,u),(40,v),(41,w),(42,x)] := by intros; rfl
     refine R_nil (tr ..) ?_; clear tr
     refine then_n ?_
     refine at_seq rfl ?_
     refine rg rfl ?_
     refine Rq ?_
     refine Rq ?_
     refine Rq ?_
     have tr : ∀ a b c d e f g h i j k m n o p q r s t u v w x y z A : AV, let l := lc_rshort_ok a b c d e f g h i j k m n o p q r s t u v w x; trim ((41,A)::(40,z)::(39,y)::l) l = [(0,a),(2,b),(3,c),(4,d),(5,e),(7,f),(8,g),(9,h),(10,i),(14,j),(16,k),(17,m),(18,n),(19,o),(30,p),(31,q),(32,r),(35,s),(36,t),(37,u),(40,z),(41,A),(42,x)] := by intros; rfl
     refine R_nil (tr ..) ?_; clear tr
     refine then_n ?_
     refine at_block rfl ?_
     refine loop_n rfl (fun mm kv H' => ∃ j : Nat, ∃ x10 x42 : AV, (kv = [(10, x10), (41, AV.i j), (42, x42)]) ∧ (mm = t.length - j) ∧ (j ≤ t.length) ∧ (MatH H' (H.length + 4 * t.length - 1) (br25 H.length) t.length (fwJ (fwI (fwK (tb t) t.length k) t.length k i) k i j))) ⟨0, _, _, rfl, rfl, by omega, by exact mi⟩ (by rfl) ?_
     rintro mm kv HJ ⟨j, x10, x42, rfl, rfl, hj, mj⟩
     have tr : ∀ a b c d e f g h i j k m n o p q r s t u v w x y z A : AV, upd [(0,a),(2,b),(3,c),(4,d),(5,e),(7,f),(8,g),(9,h),(10,i),(14,j),(16,k),(17,m),(18,n),(19,o),(30,p),(31,q),(32,r),(35,s),(36,t),(37,u),(40,v),(41,w),(42,x)] [(10,y),(41,z),(42,A)] = [(0,a),(2,b),(3,c),(4,d),(5,e),(7,f),(8,g),(9,h),(10,y),(14,j),(16,k),(17,m),(18,n),(19,o),(30,p),(31,q),(32,r),(35,s),(36,t),(37,u),(40,v),(41,z),(42,A)] := by intros; rfl
     refine W_to (tr ..) ?_; clear tr
     refine at_seq rfl ?_
     refine rg rfl ?_
     refine Rq ?_
     have tr : ∀ a b c d e f g h i j k m n o p q r s t u v w x y : AV, let l := lc_rshort_ok a b c d e f g h i j k m n o p q r s t u v w x; trim ((42,y)::l) l = [(0,a),(2,b),(3,c),(4,d),(5,e),(7,f),(8,g),(9,h),(10,i),(14,j),(16,k),(17,m),(18,n),(19,o),(30,p),(31,q),(32,r),(35,s),(36,t),(37,u),(40,v),(41,w),(42,y)] := by intros; rfl
     refine R_nil (tr ..) ?_; clear tr
     refine then_n ?_
     refine at_seq rfl ?_
     refine cdd (fun h5 => ?_) (fun h5 => ?_)
     ·
      try simp only [decide_eq_true_eq, decide_eq_false_iff_not, Bool.not_eq_true', Bool.not_eq_false', beq_iff_eq, beq_eq_false_iff_ne, ne_eq] at h5
      refine at_skip rfl ?_
      refine then_n ?_
      refine at_seq rfl ?_
      refine at_block rfl ?_
      refine at_seq rfl ?_
      refine rg rfl ?_
      refine Rq ?_
      refine Rq ?_
      have tr : ∀ a b c d e f g h i j k m n o p q r s t u v w x y z : AV, let l := lc_rshort_ok a b c d e f g h i j k m n o p q r s t u v w x; trim ((10,z)::(43,y)::l) l = [(0,a),(2,b),(3,c),(4,d),(5,e),(7,f),(8,g),(9,h),(10,z),(14,j),(16,k),(17,m),(18,n),(19,o),(30,p),(31,q),(32,r),(35,s),(36,t),(37,u),(40,v),(41,w),(42,x)] := by intros; rfl
      refine R_nil (tr ..) ?_; clear tr
      refine then_n ?_
      refine rd rfl rfl ?_
      obtain ⟨M, hM⟩ : ∃ M, M = (fwJ (fwI (fwK (tb t) t.length k) t.length k i) k i j) := ⟨_, rfl⟩
      have hR : RngM t.length M := by rw [hM]; exact ((gd0.rng.fwK (by omega)).fwI (by omega) (by omega)).fwJ (by omega) (by omega) (by omega)
      have mj1 := mj
      rw [← hM] at mj1
      have qo := mj1.out
      have r1 := mj1.row i (by omega)
      have r2 := mj1.row k (by omega)
      unfold rowC at r1 r2
      have hl1 : (rowM t.length M i).length = t.length := rowM_len _ _ _
      have hl2 : (rowM t.length M k).length = t.length := rowM_len _ _ _
      have g1 : 0 ≤ gt (rowM t.length M i) j ∧ gt (rowM t.length M i) j ≤ 30 := by rw [rowM_gt _ _ _ _ (by omega)]; exact hR _ _ (by omega) (by omega)
      have g2 : 0 ≤ gt (rowM t.length M i) k ∧ gt (rowM t.length M i) k ≤ 30 := by rw [rowM_gt _ _ _ _ (by omega)]; exact hR _ _ (by omega) (by omega)
      have g3 : 0 ≤ gt (rowM t.length M k) j ∧ gt (rowM t.length M k) j ≤ 30 := by rw [rowM_gt _ _ _ _ (by omega)]; exact hR _ _ (by omega) (by omega)
      refine Qq ?_
      refine Qq ?_
      refine Qq ?_
      refine Q_q rfl (by simp (disch := first | omega | (simp only [List.length_map, List.length_append, List.length_set, List.length_cons, List.length_nil]; omega)) only [go_sem, ↓reduceIte, Nat.reduceEqDiff, reduceCtorEq, qo, r1, r2]; rfl) ?_
      refine Qq ?_
      refine Qq ?_
      refine Qq ?_
      refine Qq ?_
      refine Q_q rfl (by simp (disch := first | omega | (simp only [List.length_map, List.length_append, List.length_set, List.length_cons, List.length_nil]; omega)) only [go_sem, ↓reduceIte, Nat.reduceEqDiff, reduceCtorEq, qo, r1, r2]; rfl) ?_
      refine Qq ?_
      refine Qq ?_
      refine Q_q rfl (by simp (disch := first | omega | (simp only [List.length_map, List.length_append, List.length_set, List.length_cons, List.length_nil]; omega)) only [go_sem, ↓reduceIte, Nat.reduceEqDiff, reduceCtorEq, qo, r1, r2]; rfl) ?_
      refine Qq ?_
      refine Qq ?_
      refine Qq ?_
      refine Q_q rfl (by simp (disch := first | omega | (simp only [List.length_map, List.length_append, List.length_set, List.length_cons, List.length_nil]; omega)) only [go_sem, ↓reduceIte, Nat.reduceEqDiff, reduceCtorEq, qo, r1, r2]; rfl) ?_
      refine Qq ?_
      refine Qq ?_
      refine Q_q rfl (by simp (disch := first | omega | (simp only [List.length_map, List.length_append, List.length_set, List.length_cons, List.length_nil]; omega)) only [go_sem, ↓reduceIte, Nat.reduceEqDiff, reduceCtorEq, qo, r1, r2]; rfl) ?_
      refine Qq ?_
      refine Qq ?_
      refine Qq ?_
      refine Q_q rfl (by simp (disch := first | omega | (simp only [List.length_map, List.length_append, List.length_set, List.length_cons, List.length_nil]; omega)) only [go_sem, ↓reduceIte, Nat.reduceEqDiff, reduceCtorEq, qo, r1, r2]; rfl) ?_
      refine Qq ?_
      refine Qq ?_
      refine Q_q rfl (by simp (disch := first | omega | (simp only [List.length_map, List.length_append, List.length_set, List.length_cons, List.length_nil]; omega)) only [go_sem, ↓reduceIte, Nat.reduceEqDiff, reduceCtorEq, qo, r1, r2]; rfl) ?_
      refine Qq ?_
      refine Qq ?_
      refine Qq ?_
      refine Q_nil ?_
      refine A_store ty2 (by simp (disch := first | omega | (simp only [List.length_map, List.length_append, List.length_set, List.length_cons, List.length_nil]; omega)) only [go_sem, ↓reduceIte, Nat.reduceEqDiff, reduceCtorEq] <;> rfl) (by simp (disch := first | omega | (simp only [List.length_map, List.length_append, List.length_set, List.length_cons, List.length_nil]; omega)) only [go_sem, ↓reduceIte, Nat.reduceEqDiff, reduceCtorEq] <;> rfl) r1 ⟨by unfold br25; omega, rfl, by simp only [List.length_map]; omega⟩ (setM t.length M k i j (by omega) (by omega)) ?_
      intro HW w9
      have mj2 : MatH HW (H.length + 4 * t.length - 1) (br25 H.length) t.length (fwJ (fwI (fwK (tb t) t.length k) t.length k i) k i (j + 1)) := by
        show MatH HW (H.length + 4 * t.length - 1) (br25 H.length) t.length (upM (fwJ (fwI (fwK (tb t) t.length k) t.length k i) k i j) k i j)
        rw [← hM]
        exact mj1.up (by omega) w9 (fun a ha hne => by unfold br25; omega) (by unfold br25; omega)
      have tr : ∀ a b c d e f g h i j k m n o p q r s t u v w x y z A B C D E F G H I J K L M N O P Q R S T U V W X Y Z a1 : AV, let l := lc_rshort_ok a b c d e f g h i j k m n o p q r s t u v w x; trim ((72,a1)::(71,Z)::(70,Y)::(69,X)::(68,W)::(67,V)::(66,U)::(65,T)::(64,S)::(63,R)::(62,Q)::(61,P)::(60,O)::(59,N)::(58,M)::(57,L)::(56,K)::(55,J)::(54,I)::(53,H)::(52,G)::(51,F)::(50,E)::(49,D)::(48,C)::(47,B)::(46,A)::(45,z)::(44,y)::l) l = [(0,a),(2,b),(3,c),(4,d),(5,e),(7,f),(8,g),(9,h),(10,i),(14,j),(16,k),(17,m),(18,n),(19,o),(30,p),(31,q),(32,r),(35,s),(36,t),(37,u),(40,v),(41,w),(42,x)] := by intros; rfl
      refine R_nil (tr ..) ?_; clear tr
      refine blk_n ?_
      refine then_n ?_
      refine rg rfl ?_
      refine Rq ?_
      refine Rq ?_
      have tr : ∀ a b c d e f g h i j k m n o p q r s t u v w x y z : AV, let l := lc_rshort_ok a b c d e f g h i j k m n o p q r s t u v w x; trim ((41,z)::(73,y)::l) l = [(0,a),(2,b),(3,c),(4,d),(5,e),(7,f),(8,g),(9,h),(10,i),(14,j),(16,k),(17,m),(18,n),(19,o),(30,p),(31,q),(32,r),(35,s),(36,t),(37,u),(40,v),(41,z),(42,x)] := by intros; rfl
      refine R_nil (tr ..) ?_; clear tr
      refine then_n ?_
      exact ⟨_, _, ⟨j + 1, _, _, rfl, rfl, by omega, by exact mj2⟩, by rfl, by omega⟩
     ·
      try simp only [decide_eq_true_eq, decide_eq_false_iff_not, Bool.not_eq_true', Bool.not_eq_false', beq_iff_eq, beq_eq_false_iff_ne, ne_eq] at h5
      refine at_exit rfl ?_
      refine then_x ?_
      refine then_x ?_
      refine blk_x ?_
      refine blk_n ?_
      refine then_n ?_
      refine rg rfl ?_
      refine Rq ?_
      refine Rq ?_
      have tr : ∀ a b c d e f g h i j k m n o p q r s t u v w x y z : AV, let l := lc_rshort_ok a b c d e f g h i j k m n o p q r s t u v w x; trim ((36,z)::(74,y)::l) l = [(0,a),(2,b),(3,c),(4,d),(5,e),(7,f),(8,g),(9,h),(10,i),(14,j),(16,k),(17,m),(18,n),(19,o),(30,p),(31,q),(32,r),(35,s),(36,z),(37,u),(40,v),(41,w),(42,x)] := by intros; rfl
      refine R_nil (tr ..) ?_; clear tr
      refine then_n ?_
      exact ⟨_, _, ⟨i + 1, _, _, _, _, _, _, rfl, rfl, by omega, by exact mj.nextI (by omega)⟩, by rfl, by omega⟩
    ·
     try simp only [decide_eq_true_eq, decide_eq_false_iff_not, Bool.not_eq_true', Bool.not_eq_false', beq_iff_eq, beq_eq_false_iff_ne, ne_eq] at h4
     refine at_exit rfl ?_
     refine then_x ?_
     refine then_x ?_
     refine blk_x ?_
     refine blk_n ?_
     refine then_n ?_
     refine rg rfl ?_
     refine Rq ?_
     refine Rq ?_
     have tr : ∀ a b c d e f g h i j k m n o p q r s t u v w x y z : AV, let l := lc_rshort_ok a b c d e f g h i j k m n o p q r s t u v w x; trim ((31,z)::(75,y)::l) l = [(0,a),(2,b),(3,c),(4,d),(5,e),(7,f),(8,g),(9,h),(10,i),(14,j),(16,k),(17,m),(18,n),(19,o),(30,p),(31,z),(32,r),(35,s),(36,t),(37,u),(40,v),(41,w),(42,x)] := by intros; rfl
     refine R_nil (tr ..) ?_; clear tr
     refine then_n ?_
     exact ⟨_, _, ⟨k + 1, _, _, _, _, _, _, _, _, _, _, rfl, rfl, by omega, by exact mi.nextK (by omega)⟩, by rfl, by omega⟩
   ·
    try simp only [decide_eq_true_eq, decide_eq_false_iff_not, Bool.not_eq_true', Bool.not_eq_false', beq_iff_eq, beq_eq_false_iff_ne, ne_eq] at h3
    refine at_exit rfl ?_
    refine then_x ?_
    refine then_x ?_
    refine blk_x ?_
    refine then_n ?_
    refine at_seq rfl ?_
    refine rg rfl ?_
    refine Rq ?_
    refine Rq ?_
    refine Rq ?_
    have tr : ∀ a b c d e f g h i j k m n o p q r s t u v w x y z A : AV, let l := lc_rshort_ok a b c d e f g h i j k m n o p q r s t u v w x; trim ((3,A)::(2,z)::(76,y)::l) l = [(0,a),(2,z),(3,A),(4,d),(5,e),(7,f),(8,g),(9,h),(10,i),(14,j),(16,k),(17,m),(18,n),(19,o),(30,p),(31,q),(32,r),(35,s),(36,t),(37,u),(40,v),(41,w),(42,x)] := by intros; rfl
    refine R_nil (tr ..) ?_; clear tr
    refine then_n ?_
    refine at_ret rfl ?_
    obtain rfl : k = t.length := by omega
    refine fpure ?_
    refine ⟨?_, rfl⟩
    rw [sh_yes hct, hct]
    exact congrArg (fun x => AV.tup [x, AV.i 0]) (frz_mat mk (by omega) (fun i hi => by unfold br25; omega))

end Go.Proofs.YtocmcdejkoejhaaDoor
