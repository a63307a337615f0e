/-
  Walks of chapter 48. The steps are written by program (walk.py).
-/
import Derived.Test.YtocmcdejkoejhaaDoorK7
import Derived.Test.YtocmcdejkoejhaaDoorRF
import Derived.Test.YtocmcdejkoejhaaDoorAmU
set_option linter.unusedSimpArgs false
set_option linter.unusedVariables false
set_option maxHeartbeats 1000000
set_option maxRecDepth 20000
namespace Go.Proofs.YtocmcdejkoejhaaDoor
open Go Go.Am
abbrev lc_clone_ok (a b c : AV) : Env := [(0,a),(2,b),(4,c)]
theorem clone_ok (lim : Nat) (H : Heap) (l : List Int) (h0 : 0 < l.length) (h1 : l.length ≤ 1000) (hlim : lim ≤ H.length) : ACall sig lim 38 [intsAV l] H fun r H' => r = .own 1 (H.length + 1) 0 l.length ∧ H'.length = H.length + 2 ∧ hget H' (H.length + 1) = some (l.map AV.i) ∧ ∀ b, b < H.length → hget H' b = hget H b := by
 refine ACall_own (fa := fa38) rfl rfl rfl rfl ?_
 have tr : ∀ a0 : AV, env0 fa38.keep [a0] = [(0,a0),(2,.any),(4,.any)] := fun a0 => rfl
 refine W_to (tr _) ?_; clear tr
 refine at_seq rfl ?_
 refine rg rfl ?_
 refine Rq ?_
 have tr : ∀ a b c d : AV, let l := lc_clone_ok a b c; trim ((2,d)::l) l = [(0,a),(2,d),(4,c)] := by intros; rfl
 refine R_nil (tr ..) ?_; clear tr
 refine then_n ?_
 refine at_seq rfl ?_
 refine at_seq rfl ?_
 refine rg rfl ?_
 refine Rq ?_
 refine Rq ?_
 have tr : ∀ a b c d e : AV, let l := lc_clone_ok a b c; trim ((4,e)::(3,d)::l) l = [(0,a),(2,b),(4,e)] := by intros; rfl
 refine R_nil (tr ..) ?_; clear tr
 refine then_n ?_
 refine cdd (fun h1 => ?_) (fun h1 => ?_)
 ·
  try simp only [decide_eq_true_eq, decide_eq_false_iff_not, Bool.not_eq_true', Bool.not_eq_false', beq_iff_eq, beq_eq_false_iff_ne, ne_eq] at h1
  refine at_seq rfl ?_
  refine rg rfl ?_
  refine Rq ?_
  have tr : ∀ a b c d : AV, let l := lc_clone_ok a b c; trim ((2,d)::l) l = [(0,a),(2,d),(4,c)] := by intros; rfl
  refine R_nil (tr ..) ?_; clear tr
  refine then_n ?_
  refine at_ret rfl ?_
  refine then_r ?_
  exfalso; first | omega | simp_all | (rename_i hh; revert hh; simp; omega)
 ·
  try simp only [decide_eq_true_eq, decide_eq_false_iff_not, Bool.not_eq_true', Bool.not_eq_false', beq_iff_eq, beq_eq_false_iff_ne, ne_eq] at h1
  refine at_skip rfl ?_
  refine then_n ?_
  refine at_seq rfl ?_
  refine rg rfl ?_
  refine A_buildSlice (bs37e _ _ _) ?_
  intro H1 n1
  have e1 := n1.len
  refine Rq ?_
  refine A_append (by simp (disch := first | omega | (simp only [List.length_map, List.length_append, List.length_set, List.length_cons, List.length_nil]; omega)) only [go_sem, ↓reduceIte, Nat.reduceEqDiff, reduceCtorEq]; exact ap37 l n1.new (by omega) (by omega)) ?_
  intro H2 g2
  have e2 := g2.len
  refine Rq ?_
  have tr : ∀ a b c d e f g : AV, let l := lc_clone_ok a b c; trim ((2,g)::(7,f)::(6,e)::(5,d)::l) l = [(0,a),(2,g),(4,c)] := by intros; rfl
  refine R_nil (tr ..) ?_; clear tr
  refine then_n ?_
  refine at_ret rfl ?_
  refine fin_own rfl (by simp only [go_sem, ↓reduceIte, Nat.reduceEqDiff]; rfl) ?_
  refine ⟨by rw [← e1]; rfl, (show H2.length = H.length + 2 by omega), by rw [← e1]; exact g2.new, fun b hb => ?_⟩
  rw [g2.old b (by omega) (by omega), n1.old b hb]

abbrev lc_short_ok (a b c d e f g h i j k m n o p q r s t u v w : AV) : Env := [(0,a),(2,b),(3,c),(4,d),(5,e),(6,f),(7,g),(8,h),(9,i),(13,j),(19,k),(20,m),(21,n),(33,o),(34,p),(35,q),(38,r),(39,s),(40,t),(43,u),(44,v),(45,w)]
theorem short_ok (lim : Nat) (H : Heap) (t : List (List Int)) : ACall sig lim 24 [rowsAV t] H fun r H' => r = .tup [shAV t, AV.i (ctS t)] ∧ H' = H := by
 refine ACall_pure (fa := fa24) rfl rfl rfl rfl ?_
 have tr : ∀ a0 : AV, env0 fa24.keep [a0] = [(0,a0),(2,.any),(3,.any),(4,.any),(5,.any),(6,.any),(7,.any),(8,.any),(9,.any),(13,.any),(19,.any),(20,.any),(21,.any),(33,.any),(34,.any),(35,.any),(38,.any),(39,.any),(40,.any),(43,.any),(44,.any),(45,.any)] := fun a0 => rfl
 refine W_to (tr _) ?_; clear tr
 refine at_seq rfl ?_
 refine rg rfl ?_
 refine Rq ?_
 refine Rq ?_
 have tr : ∀ a b c d e f g h i j k m n o p q r s t u v w x y : AV, let l := lc_short_ok a b c d e f g h i j k m n o p q r s t u v w; trim ((3,y)::(2,x)::l) l = [(0,a),(2,x),(3,y),(4,d),(5,e),(6,f),(7,g),(8,h),(9,i),(13,j),(19,k),(20,m),(21,n),(33,o),(34,p),(35,q),(38,r),(39,s),(40,t),(43,u),(44,v),(45,w)] := by intros; rfl
 refine R_nil (tr ..) ?_; clear tr
 refine then_n ?_
 refine at_seq rfl ?_
 refine at_seq rfl ?_
 refine rg rfl ?_
 refine Rq ?_
 refine Rcall ?_
 refine ACall_eq (travel_ok _ _ _) ?_
 refine Rq ?_
 have tr : ∀ a b c d e f g h i j k m n o p q r s t u v w x y z : AV, let l := lc_short_ok a b c d e f g h i j k m n o p q r s t u v w; trim ((4,z)::(11,y)::(10,x)::l) l = [(0,a),(2,b),(3,c),(4,z),(5,e),(6,f),(7,g),(8,h),(9,i),(13,j),(19,k),(20,m),(21,n),(33,o),(34,p),(35,q),(38,r),(39,s),(40,t),(43,u),(44,v),(45,w)] := by intros; rfl
 refine R_nil (tr ..) ?_; clear tr
 refine then_n ?_
 refine at_seq rfl ?_
 refine rg rfl ?_
 refine Rq ?_
 refine Rq ?_
 have tr : ∀ a b c d e f g h i j k m n o p q r s t u v w x y : AV, let l := lc_short_ok a b c d e f g h i j k m n o p q r s t u v w; trim ((13,y)::(12,x)::l) l = [(0,a),(2,b),(3,c),(4,d),(5,e),(6,f),(7,g),(8,h),(9,i),(13,y),(19,k),(20,m),(21,n),(33,o),(34,p),(35,q),(38,r),(39,s),(40,t),(43,u),(44,v),(45,w)] := by intros; rfl
 refine R_nil (tr ..) ?_; clear tr
 refine then_n ?_
 refine cdd (fun h1 => ?_) (fun h1 => ?_)
 ·
  try simp only [decide_eq_true_eq, decide_eq_false_iff_not, Bool.not_eq_true', Bool.not_eq_false', beq_iff_eq, beq_eq_false_iff_ne, ne_eq] at h1
  refine at_seq rfl ?_
  refine rg rfl ?_
  refine Rq ?_
  refine Rq ?_
  refine Rq ?_
  have tr : ∀ a b c d e f g h i j k m n o p q r s t u v w x y z : AV, let l := lc_short_ok a b c d e f g h i j k m n o p q r s t u v w; trim ((3,z)::(2,y)::(14,x)::l) l = [(0,a),(2,y),(3,z),(4,d),(5,e),(6,f),(7,g),(8,h),(9,i),(13,j),(19,k),(20,m),(21,n),(33,o),(34,p),(35,q),(38,r),(39,s),(40,t),(43,u),(44,v),(45,w)] := by intros; rfl
  refine R_nil (tr ..) ?_; clear tr
  refine then_n ?_
  refine at_ret rfl ?_
  refine then_r ?_
  refine fpure ?_
  refine ⟨?_, rfl⟩
  rw [sh_no (by assumption)]
 ·
  try simp only [decide_eq_true_eq, decide_eq_false_iff_not, Bool.not_eq_true', Bool.not_eq_false', beq_iff_eq, beq_eq_false_iff_ne, ne_eq] at h1
  refine at_skip rfl ?_
  refine then_n ?_
  refine at_seq rfl ?_
  refine rg rfl ?_
  have hct : ctS t = 0 := by first | assumption | (exact Decidable.not_not.mp (by assumption)) | omega
  obtain ⟨ht0, ht20, hlen, htr⟩ := ct_of hct
  obtain ⟨gd0, sym0⟩ := ct_good hct
  refine Rq ?_
  refine Rq ?_
  refine A_makeSlice (ms40 _ _ t.length _ _ _ (br24 H.length) (by omega) (by simp (disch := first | omega | (simp only [List.length_map, List.length_append, List.length_set, List.length_cons, List.length_nil]; omega)) only [go_sem, ↓reduceIte, Nat.reduceEqDiff, reduceCtorEq]) (by simp (disch := first | omega | (simp only [List.length_map, List.length_append, List.length_set, List.length_cons, List.length_nil]; omega)) only [go_sem, ↓reduceIte, Nat.reduceEqDiff, reduceCtorEq])) ?_
  intro H0 n0
  have e0 := n0.len
  have q0 := n0.new
  refine Rq ?_
  have tr : ∀ a b c d e f g h i j k m n o p q r s t u v w x y z A : AV, let l := lc_short_ok a b c d e f g h i j k m n o p q r s t u v w; trim ((5,A)::(17,z)::(16,y)::(15,x)::l) l = [(0,a),(2,b),(3,c),(4,d),(5,A),(6,f),(7,g),(8,h),(9,i),(13,j),(19,k),(20,m),(21,n),(33,o),(34,p),(35,q),(38,r),(39,s),(40,t),(43,u),(44,v),(45,w)] := by intros; rfl
  refine R_nil (tr ..) ?_; clear tr
  refine then_n ?_
  refine at_seq rfl ?_
  refine at_seq rfl ?_
  refine rg rfl ?_
  refine Rq ?_
  refine Rq ?_
  refine Rq ?_
  have tr : ∀ a b c d e f g h i j k m n o p q r s t u v w x y z : AV, let l := lc_short_ok a b c d e f g h i j k m n o p q r s t u v w; trim ((20,z)::(19,y)::(18,x)::l) l = [(0,a),(2,b),(3,c),(4,d),(5,e),(6,f),(7,g),(8,h),(9,i),(13,j),(19,y),(20,z),(21,n),(33,o),(34,p),(35,q),(38,r),(39,s),(40,t),(43,u),(44,v),(45,w)] := by intros; rfl
  refine R_nil (tr ..) ?_; clear tr
  refine then_n ?_
  refine at_block rfl ?_
  refine loop_n rfl (fun mm kv H' => ∃ u : Nat, ∃ x6 x21 : AV, (kv = [(6, x6), (20, AV.i u), (21, x21)]) ∧ (mm = t.length - u) ∧ (u ≤ t.length) ∧ (H'.length = H.length + 1 + 2 * u) ∧ (hget H' H.length = some (outR t.length (br24 H.length) u)) ∧ (∀ i, i < u → hget H' (br24 H.length i) = some ((gt t i).map AV.i))) ⟨0, _, _, rfl, rfl, by omega, by omega, by exact q0, by intro i hi; omega⟩ (by rfl) ?_
  rintro mm kv H1 ⟨u, x6, x21, rfl, rfl, hu, eL, qo, rows⟩
  have tr : ∀ a b c d e f g h i j k m n o p q r s t u v w x y z : AV, upd [(0,a),(2,b),(3,c),(4,d),(5,e),(6,f),(7,g),(8,h),(9,i),(13,j),(19,k),(20,m),(21,n),(33,o),(34,p),(35,q),(38,r),(39,s),(40,t),(43,u),(44,v),(45,w)] [(6,x),(20,y),(21,z)] = [(0,a),(2,b),(3,c),(4,d),(5,e),(6,x),(7,g),(8,h),(9,i),(13,j),(19,k),(20,y),(21,z),(33,o),(34,p),(35,q),(38,r),(39,s),(40,t),(43,u),(44,v),(45,w)] := by intros; rfl
  refine W_to (tr ..) ?_; clear tr
  refine at_seq rfl ?_
  refine rg rfl ?_
  refine Rq ?_
  have tr : ∀ a b c d e f g h i j k m n o p q r s t u v w x : AV, let l := lc_short_ok a b c d e f g h i j k m n o p q r s t u v w; trim ((21,x)::l) l = [(0,a),(2,b),(3,c),(4,d),(5,e),(6,f),(7,g),(8,h),(9,i),(13,j),(19,k),(20,m),(21,x),(33,o),(34,p),(35,q),(38,r),(39,s),(40,t),(43,u),(44,v),(45,w)] := by intros; rfl
  refine R_nil (tr ..) ?_; clear tr
  refine then_n ?_
  refine at_seq rfl ?_
  refine cdd (fun h2 => ?_) (fun h2 => ?_)
  ·
   try simp only [decide_eq_true_eq, decide_eq_false_iff_not, Bool.not_eq_true', Bool.not_eq_false', beq_iff_eq, beq_eq_false_iff_ne, ne_eq] at h2
   refine at_skip rfl ?_
   refine then_n ?_
   refine at_seq rfl ?_
   refine at_block rfl ?_
   refine at_seq rfl ?_
   refine rg rfl ?_
   refine Rq ?_
   refine Rq ?_
   have tr : ∀ a b c d e f g h i j k m n o p q r s t u v w x y : AV, let l := lc_short_ok a b c d e f g h i j k m n o p q r s t u v w; trim ((6,y)::(22,x)::l) l = [(0,a),(2,b),(3,c),(4,d),(5,e),(6,y),(7,g),(8,h),(9,i),(13,j),(19,k),(20,m),(21,n),(33,o),(34,p),(35,q),(38,r),(39,s),(40,t),(43,u),(44,v),(45,w)] := by intros; rfl
   refine R_nil (tr ..) ?_; clear tr
   refine then_n ?_
   refine rg rfl ?_
   refine Rq ?_
   refine Rq ?_
   refine Rq ?_
   refine Rq ?_
   refine Rq ?_
   refine Rq ?_
   refine Rcall ?_
   refine ACall_mono (clone_ok _ _ (gt t u) (by have := hlen u (by omega); omega) (by have := hlen u (by omega); omega) (by omega)) ?_
   rintro r H2 ⟨hr, e2, q2, o2⟩
   obtain rfl : r = .own 1 (br24 H.length u) 0 t.length := by rw [hr, hlen u (by omega), show H1.length + 1 = br24 H.length u by (unfold br24; omega)]
   have q2 : hget H2 (br24 H.length u) = some ((gt t u).map AV.i) := by rw [show br24 H.length u = H1.length + 1 by (unfold br24; omega)]; exact q2
   have lq := hget_lt qo
   have qo2 := (o2 _ lq).trans qo
   have rows2 : ∀ i, i < u → hget H2 (br24 H.length i) = some ((gt t i).map AV.i) := fun i hi => (o2 _ (by unfold br24; omega)).trans (rows i hi)
   refine Rq ?_
   refine A_store ty37 (by simp (disch := first | omega | (simp only [List.length_map, List.length_append, List.length_set, List.length_cons, List.length_nil]; omega)) only [go_sem, ↓reduceIte, Nat.reduceEqDiff, reduceCtorEq] <;> rfl) (by simp (disch := first | omega | (simp only [List.length_map, List.length_append, List.length_set, List.length_cons, List.length_nil]; omega)) only [go_sem, ↓reduceIte, Nat.reduceEqDiff, reduceCtorEq] <;> rfl) qo2 ⟨by omega, rfl, by rw [outR_len]; first | omega | (simp; omega)⟩ (outR_set t.length (br24 H.length) u (by omega)) ?_
   intro H3 w3
   have e3 := w3.len
   have tr : ∀ a b c d e f g h i j k m n o p q r s t u v w x y z A B C D E : AV, let l := lc_short_ok a b c d e f g h i j k m n o p q r s t u v w; trim ((30,E)::(29,D)::(28,C)::(27,B)::(26,A)::(25,z)::(24,y)::(23,x)::l) l = [(0,a),(2,b),(3,c),(4,d),(5,e),(6,f),(7,g),(8,h),(9,i),(13,j),(19,k),(20,m),(21,n),(33,o),(34,p),(35,q),(38,r),(39,s),(40,t),(43,u),(44,v),(45,w)] := by intros; rfl
   refine R_nil (tr ..) ?_; clear tr
   refine blk_n ?_
   refine then_n ?_
   refine rg rfl ?_
   refine Rq ?_
   refine Rq ?_
   have tr : ∀ a b c d e f g h i j k m n o p q r s t u v w x y : AV, let l := lc_short_ok a b c d e f g h i j k m n o p q r s t u v w; trim ((20,y)::(31,x)::l) l = [(0,a),(2,b),(3,c),(4,d),(5,e),(6,f),(7,g),(8,h),(9,i),(13,j),(19,k),(20,y),(21,n),(33,o),(34,p),(35,q),(38,r),(39,s),(40,t),(43,u),(44,v),(45,w)] := by intros; rfl
   refine R_nil (tr ..) ?_; clear tr
   refine then_n ?_
   exact ⟨_, _, ⟨u + 1, _, _, rfl, rfl, by omega, by show H3.length = H.length + 1 + 2 * (u + 1); omega, by exact w3.new, by intro i hi; rw [w3.old _ (by unfold br24; omega)]; exact (Nat.lt_or_eq_of_le (Nat.le_of_lt_succ hi)).elim (rows2 i) (fun hh => hh ▸ q2)⟩, by rfl, by omega⟩
  ·
   try simp only [decide_eq_true_eq, decide_eq_false_iff_not, Bool.not_eq_true', Bool.not_eq_false', beq_iff_eq, beq_eq_false_iff_ne, ne_eq] at h2
   refine at_exit rfl ?_
   refine then_x ?_
   refine then_x ?_
   refine blk_x ?_
   refine then_n ?_
   refine at_seq rfl ?_
   refine at_seq rfl ?_
   refine rg rfl ?_
   have m0 := MatH.start (br := (br24 H.length)) (show u = t.length by omega) qo rows hlen
   refine Rq ?_
   refine Rq ?_
   refine Rq ?_
   have tr : ∀ a b c d e f g h i j k m n o p q r s t u v w x y z : AV, let l := lc_short_ok a b c d e f g h i j k m n o p q r s t u v w; trim ((34,z)::(33,y)::(32,x)::l) l = [(0,a),(2,b),(3,c),(4,d),(5,e),(6,f),(7,g),(8,h),(9,i),(13,j),(19,k),(20,m),(21,n),(33,y),(34,z),(35,q),(38,r),(39,s),(40,t),(43,u),(44,v),(45,w)] := by intros; rfl
   refine R_nil (tr ..) ?_; clear tr
   refine then_n ?_
   refine at_block rfl ?_
   refine loop_n rfl (fun mm kv H' => ∃ k : Nat, ∃ x7 x8 x9 x35 x38 x39 x40 x43 x44 x45 : AV, (kv = [(7, x7), (8, x8), (9, x9), (34, AV.i k), (35, x35), (38, x38), (39, x39), (40, x40), (43, x43), (44, x44), (45, x45)]) ∧ (mm = t.length - k) ∧ (k ≤ t.length) ∧ (MatH H' H.length (br24 H.length) t.length (fwK (tb t) t.length k))) ⟨0, _, _, _, _, _, _, _, _, _, _, rfl, rfl, by omega, by exact m0⟩ (by rfl) ?_
   rintro mm kv HK ⟨k, x7, x8, x9, x35, x38, x39, x40, x43, x44, x45, rfl, rfl, hk, mk⟩
   have tr : ∀ a b c d e f g h i j k m n o p q r s t u v w x y z A B C D E F G H : AV, upd [(0,a),(2,b),(3,c),(4,d),(5,e),(6,f),(7,g),(8,h),(9,i),(13,j),(19,k),(20,m),(21,n),(33,o),(34,p),(35,q),(38,r),(39,s),(40,t),(43,u),(44,v),(45,w)] [(7,x),(8,y),(9,z),(34,A),(35,B),(38,C),(39,D),(40,E),(43,F),(44,G),(45,H)] = [(0,a),(2,b),(3,c),(4,d),(5,e),(6,f),(7,x),(8,y),(9,z),(13,j),(19,k),(20,m),(21,n),(33,o),(34,A),(35,B),(38,C),(39,D),(40,E),(43,F),(44,G),(45,H)] := by intros; rfl
   refine W_to (tr ..) ?_; clear tr
   refine at_seq rfl ?_
   refine rg rfl ?_
   refine Rq ?_
   have tr : ∀ a b c d e f g h i j k m n o p q r s t u v w x : AV, let l := lc_short_ok a b c d e f g h i j k m n o p q r s t u v w; trim ((35,x)::l) l = [(0,a),(2,b),(3,c),(4,d),(5,e),(6,f),(7,g),(8,h),(9,i),(13,j),(19,k),(20,m),(21,n),(33,o),(34,p),(35,x),(38,r),(39,s),(40,t),(43,u),(44,v),(45,w)] := by intros; rfl
   refine R_nil (tr ..) ?_; clear tr
   refine then_n ?_
   refine at_seq rfl ?_
   refine cdd (fun h3 => ?_) (fun h3 => ?_)
   ·
    try simp only [decide_eq_true_eq, decide_eq_false_iff_not, Bool.not_eq_true', Bool.not_eq_false', beq_iff_eq, beq_eq_false_iff_ne, ne_eq] at h3
    refine at_skip rfl ?_
    refine then_n ?_
    refine at_seq rfl ?_
    refine at_block rfl ?_
    refine at_seq rfl ?_
    refine rg rfl ?_
    refine Rq ?_
    refine Rq ?_
    have tr : ∀ a b c d e f g h i j k m n o p q r s t u v w x y : AV, let l := lc_short_ok a b c d e f g h i j k m n o p q r s t u v w; trim ((7,y)::(36,x)::l) l = [(0,a),(2,b),(3,c),(4,d),(5,e),(6,f),(7,y),(8,h),(9,i),(13,j),(19,k),(20,m),(21,n),(33,o),(34,p),(35,q),(38,r),(39,s),(40,t),(43,u),(44,v),(45,w)] := by intros; rfl
    refine R_nil (tr ..) ?_; clear tr
    refine then_n ?_
    refine at_seq rfl ?_
    refine rg rfl ?_
    refine Rq ?_
    refine Rq ?_
    refine Rq ?_
    have tr : ∀ a b c d e f g h i j k m n o p q r s t u v w x y z : AV, let l := lc_short_ok a b c d e f g h i j k m n o p q r s t u v w; trim ((39,z)::(38,y)::(37,x)::l) l = [(0,a),(2,b),(3,c),(4,d),(5,e),(6,f),(7,g),(8,h),(9,i),(13,j),(19,k),(20,m),(21,n),(33,o),(34,p),(35,q),(38,y),(39,z),(40,t),(43,u),(44,v),(45,w)] := by intros; rfl
    refine R_nil (tr ..) ?_; clear tr
    refine then_n ?_
    refine at_block rfl ?_
    refine loop_n rfl (fun mm kv H' => ∃ i : Nat, ∃ x8 x9 x40 x43 x44 x45 : AV, (kv = [(8, x8), (9, x9), (39, AV.i i), (40, x40), (43, x43), (44, x44), (45, x45)]) ∧ (mm = t.length - i) ∧ (i ≤ t.length) ∧ (MatH H' H.length (br24 H.length) t.length (fwI (fwK (tb t) t.length k) t.length k i))) ⟨0, _, _, _, _, _, _, rfl, rfl, by omega, by exact mk⟩ (by rfl) ?_
    rintro mm kv HI ⟨i, x8, x9, x40, x43, x44, x45, rfl, rfl, hi, mi⟩
    have tr : ∀ a b c d e f g h i j k m n o p q r s t u v w x y z A B C D : AV, upd [(0,a),(2,b),(3,c),(4,d),(5,e),(6,f),(7,g),(8,h),(9,i),(13,j),(19,k),(20,m),(21,n),(33,o),(34,p),(35,q),(38,r),(39,s),(40,t),(43,u),(44,v),(45,w)] [(8,x),(9,y),(39,z),(40,A),(43,B),(44,C),(45,D)] = [(0,a),(2,b),(3,c),(4,d),(5,e),(6,f),(7,g),(8,x),(9,y),(13,j),(19,k),(20,m),(21,n),(33,o),(34,p),(35,q),(38,r),(39,z),(40,A),(43,B),(44,C),(45,D)] := by intros; rfl
    refine W_to (tr ..) ?_; clear tr
    refine at_seq rfl ?_
    refine rg rfl ?_
    refine Rq ?_
    have tr : ∀ a b c d e f g h i j k m n o p q r s t u v w x : AV, let l := lc_short_ok a b c d e f g h i j k m n o p q r s t u v w; trim ((40,x)::l) l = [(0,a),(2,b),(3,c),(4,d),(5,e),(6,f),(7,g),(8,h),(9,i),(13,j),(19,k),(20,m),(21,n),(33,o),(34,p),(35,q),(38,r),(39,s),(40,x),(43,u),(44,v),(45,w)] := by intros; rfl
    refine R_nil (tr ..) ?_; clear tr
    refine then_n ?_
    refine at_seq rfl ?_
    refine cdd (fun h4 => ?_) (fun h4 => ?_)
    ·
     try simp only [decide_eq_true_eq, decide_eq_false_iff_not, Bool.not_eq_true', Bool.not_eq_false', beq_iff_eq, beq_eq_false_iff_ne, ne_eq] at h4
     refine at_skip rfl ?_
     refine then_n ?_
     refine at_seq rfl ?_
     refine at_block rfl ?_
     refine at_seq rfl ?_
     refine rg rfl ?_
     refine Rq ?_
     refine Rq ?_
     have tr : ∀ a b c d e f g h i j k m n o p q r s t u v w x y : AV, let l := lc_short_ok a b c d e f g h i j k m n o p q r s t u v w; trim ((8,y)::(41,x)::l) l = [(0,a),(2,b),(3,c),(4,d),(5,e),(6,f),(7,g),(8,y),(9,i),(13,j),(19,k),(20,m),(21,n),(33,o),(34,p),(35,q),(38,r),(39,s),(40,t),(43,u),(44,v),(45,w)] := by intros; rfl
     refine R_nil (tr ..) ?_; clear tr
     refine then_n ?_
     refine at_seq rfl ?_
     refine rg rfl ?_
     refine Rq ?_
     refine Rq ?_
     refine Rq ?_
     have tr : ∀ a b c d e f g h i j k m n o p q r s t u v w x y z : AV, let l := lc_short_ok a b c d e f g h i j k m n o p q r s t u v w; trim ((44,z)::(43,y)::(42,x)::l) l = [(0,a),(2,b),(3,c),(4,d),(5,e),(6,f),(7,g),(8,h),(9,i),(13,j),(19,k),(20,m),(21,n),(33,o),(34,p),(35,q),(38,r),(39,s),(40,t),(43,y),(44,z),(45,w)] := by intros; rfl
     refine R_nil (tr ..) ?_; clear tr
     refine then_n ?_
     refine at_block rfl ?_
     refine loop_n rfl (fun mm kv H' => ∃ j : Nat, ∃ x9 x45 : AV, (kv = [(9, x9), (44, AV.i j), (45, x45)]) ∧ (mm = t.length - j) ∧ (j ≤ t.length) ∧ (MatH H' H.length (br24 H.length) t.length (fwJ (fwI (fwK (tb t) t.length k) t.length k i) k i j))) ⟨0, _, _, rfl, rfl, by omega, by exact mi⟩ (by rfl) ?_
     rintro mm kv HJ ⟨j, x9, x45, rfl, rfl, hj, mj⟩
     have tr : ∀ a b c d e f g h i j k m n o p q r s t u v w x y z : AV, upd [(0,a),(2,b),(3,c),(4,d),(5,e),(6,f),(7,g),(8,h),(9,i),(13,j),(19,k),(20,m),(21,n),(33,o),(34,p),(35,q),(38,r),(39,s),(40,t),(43,u),(44,v),(45,w)] [(9,x),(44,y),(45,z)] = [(0,a),(2,b),(3,c),(4,d),(5,e),(6,f),(7,g),(8,h),(9,x),(13,j),(19,k),(20,m),(21,n),(33,o),(34,p),(35,q),(38,r),(39,s),(40,t),(43,u),(44,y),(45,z)] := by intros; rfl
     refine W_to (tr ..) ?_; clear tr
     refine at_seq rfl ?_
     refine rg rfl ?_
     refine Rq ?_
     have tr : ∀ a b c d e f g h i j k m n o p q r s t u v w x : AV, let l := lc_short_ok a b c d e f g h i j k m n o p q r s t u v w; trim ((45,x)::l) l = [(0,a),(2,b),(3,c),(4,d),(5,e),(6,f),(7,g),(8,h),(9,i),(13,j),(19,k),(20,m),(21,n),(33,o),(34,p),(35,q),(38,r),(39,s),(40,t),(43,u),(44,v),(45,x)] := by intros; rfl
     refine R_nil (tr ..) ?_; clear tr
     refine then_n ?_
     refine at_seq rfl ?_
     refine cdd (fun h5 => ?_) (fun h5 => ?_)
     ·
      try simp only [decide_eq_true_eq, decide_eq_false_iff_not, Bool.not_eq_true', Bool.not_eq_false', beq_iff_eq, beq_eq_false_iff_ne, ne_eq] at h5
      refine at_skip rfl ?_
      refine then_n ?_
      refine at_seq rfl ?_
      refine at_block rfl ?_
      refine at_seq rfl ?_
      refine rg rfl ?_
      refine Rq ?_
      refine Rq ?_
      have tr : ∀ a b c d e f g h i j k m n o p q r s t u v w x y : AV, let l := lc_short_ok a b c d e f g h i j k m n o p q r s t u v w; trim ((9,y)::(46,x)::l) l = [(0,a),(2,b),(3,c),(4,d),(5,e),(6,f),(7,g),(8,h),(9,y),(13,j),(19,k),(20,m),(21,n),(33,o),(34,p),(35,q),(38,r),(39,s),(40,t),(43,u),(44,v),(45,w)] := by intros; rfl
      refine R_nil (tr ..) ?_; clear tr
      refine then_n ?_
      refine rd rfl rfl ?_
      obtain ⟨M, hM⟩ : ∃ M, M = (fwJ (fwI (fwK (tb t) t.length k) t.length k i) k i j) := ⟨_, rfl⟩
      have hR : RngM t.length M := by rw [hM]; exact ((gd0.rng.fwK (by omega)).fwI (by omega) (by omega)).fwJ (by omega) (by omega) (by omega)
      have mj1 := mj
      rw [← hM] at mj1
      have qo := mj1.out
      have r1 := mj1.row i (by omega)
      have r2 := mj1.row k (by omega)
      unfold rowC at r1 r2
      have hl1 : (rowM t.length M i).length = t.length := rowM_len _ _ _
      have hl2 : (rowM t.length M k).length = t.length := rowM_len _ _ _
      have g1 : 0 ≤ gt (rowM t.length M i) j ∧ gt (rowM t.length M i) j ≤ 30 := by rw [rowM_gt _ _ _ _ (by omega)]; exact hR _ _ (by omega) (by omega)
      have g2 : 0 ≤ gt (rowM t.length M i) k ∧ gt (rowM t.length M i) k ≤ 30 := by rw [rowM_gt _ _ _ _ (by omega)]; exact hR _ _ (by omega) (by omega)
      have g3 : 0 ≤ gt (rowM t.length M k) j ∧ gt (rowM t.length M k) j ≤ 30 := by rw [rowM_gt _ _ _ _ (by omega)]; exact hR _ _ (by omega) (by omega)
      refine Qq ?_
      refine Qq ?_
      refine Qq ?_
      refine Q_q rfl (by simp (disch := first | omega | (simp only [List.length_map, List.length_append, List.length_set, List.length_cons, List.length_nil]; omega)) only [go_sem, ↓reduceIte, Nat.reduceEqDiff, reduceCtorEq, qo, r1, r2]; rfl) ?_
      refine Qq ?_
      refine Qq ?_
      refine Qq ?_
      refine Qq ?_
      refine Q_q rfl (by simp (disch := first | omega | (simp only [List.length_map, List.length_append, List.length_set, List.length_cons, List.length_nil]; omega)) only [go_sem, ↓reduceIte, Nat.reduceEqDiff, reduceCtorEq, qo, r1, r2]; rfl) ?_
      refine Qq ?_
      refine Qq ?_
      refine Q_q rfl (by simp (disch := first | omega | (simp only [List.length_map, List.length_append, List.length_set, List.length_cons, List.length_nil]; omega)) only [go_sem, ↓reduceIte, Nat.reduceEqDiff, reduceCtorEq, qo, r1, r2]; rfl) ?_
      refine Qq ?_
      refine Qq ?_
      refine Qq ?_
      refine Q_q rfl (by simp (disch := first | omega | (simp only [List.length_map, List.length_append, List.length_set, List.length_cons, List.length_nil]; omega)) only [go_sem, ↓reduceIte, Nat.reduceEqDiff, reduceCtorEq, qo, r1, r2]; rfl) ?_
      refine Qq ?_
      refine Qq ?_
      refine Q_q rfl (by simp (disch := first | omega | (simp only [List.length_map, List.length_append, List.length_set, List.length_cons, List.length_nil]; omega)) only [go_sem, ↓reduceIte, Nat.reduceEqDiff, reduceCtorEq, qo, r1, r2]; rfl) ?_
      refine Qq ?_
      refine Qq ?_
      refine Qq ?_
      refine Q_q rfl (by simp (disch := first | omega | (simp only [List.length_map, List.length_append, List.length_set, List.length_cons, List.length_nil]; omega)) only [go_sem, ↓reduceIte, Nat.reduceEqDiff, reduceCtorEq, qo, r1, r2]; rfl) ?_
      refine Qq ?_
      refine Qq ?_
      refine Q_q rfl (by simp (disch := first | omega | (simp only [List.length_map, List.length_append, List.length_set, List.length_cons, List.length_nil]; omega)) only [go_sem, ↓reduceIte, Nat.reduceEqDiff, reduceCtorEq, qo, r1, r2]; rfl) ?_
      refine Qq ?_
      refine Qq ?_
      refine Qq ?_
      refine Q_nil ?_
      refine A_store ty2 (by simp (disch := first | omega | (simp only [List.length_map, List.length_append, List.length_set, List.length_cons, List.length_nil]; omega)) only [go_sem, ↓reduceIte, Nat.reduceEqDiff, reduceCtorEq] <;> rfl) (by simp (disch := first | omega | (simp only [List.length_map, List.length_append, List.length_set, List.length_cons, List.length_nil]; omega)) only [go_sem, ↓reduceIte, Nat.reduceEqDiff, reduceCtorEq] <;> rfl) r1 ⟨by unfold br24; omega, rfl, by simp only [List.length_map]; omega⟩ (setM t.length M k i j (by omega) (by omega)) ?_
      intro HW w9
      have mj2 : MatH HW H.length (br24 H.length) t.length (fwJ (fwI (fwK (tb t) t.length k) t.length k i) k i (j + 1)) := by
        show MatH HW H.length (br24 H.length) t.length (upM (fwJ (fwI (fwK (tb t) t.length k) t.length k i) k i j) k i j)
        rw [← hM]
        exact mj1.up (by omega) w9 (fun a ha hne => by unfold br24; omega) (by unfold br24; omega)
      have tr : ∀ a b c d e f g h i j k m n o p q r s t u v w x y z A B C D E F G H I J K L M N O P Q R S T U V W X Y Z : AV, let l := lc_short_ok a b c d e f g h i j k m n o p q r s t u v w; trim ((75,Z)::(74,Y)::(73,X)::(72,W)::(71,V)::(70,U)::(69,T)::(68,S)::(67,R)::(66,Q)::(65,P)::(64,O)::(63,N)::(62,M)::(61,L)::(60,K)::(59,J)::(58,I)::(57,H)::(56,G)::(55,F)::(54,E)::(53,D)::(52,C)::(51,B)::(50,A)::(49,z)::(48,y)::(47,x)::l) l = [(0,a),(2,b),(3,c),(4,d),(5,e),(6,f),(7,g),(8,h),(9,i),(13,j),(19,k),(20,m),(21,n),(33,o),(34,p),(35,q),(38,r),(39,s),(40,t),(43,u),(44,v),(45,w)] := by intros; rfl
      refine R_nil (tr ..) ?_; clear tr
      refine blk_n ?_
      refine then_n ?_
      refine rg rfl ?_
      refine Rq ?_
      refine Rq ?_
      have tr : ∀ a b c d e f g h i j k m n o p q r s t u v w x y : AV, let l := lc_short_ok a b c d e f g h i j k m n o p q r s t u v w; trim ((44,y)::(76,x)::l) l = [(0,a),(2,b),(3,c),(4,d),(5,e),(6,f),(7,g),(8,h),(9,i),(13,j),(19,k),(20,m),(21,n),(33,o),(34,p),(35,q),(38,r),(39,s),(40,t),(43,u),(44,y),(45,w)] := by intros; rfl
      refine R_nil (tr ..) ?_; clear tr
      refine then_n ?_
      exact ⟨_, _, ⟨j + 1, _, _, rfl, rfl, by omega, by exact mj2⟩, by rfl, by omega⟩
     ·
      try simp only [decide_eq_true_eq, decide_eq_false_iff_not, Bool.not_eq_true', Bool.not_eq_false', beq_iff_eq, beq_eq_false_iff_ne, ne_eq] at h5
      refine at_exit rfl ?_
      refine then_x ?_
      refine then_x ?_
      refine blk_x ?_
      refine blk_n ?_
      refine then_n ?_
      refine rg rfl ?_
      refine Rq ?_
      refine Rq ?_
      have tr : ∀ a b c d e f g h i j k m n o p q r s t u v w x y : AV, let l := lc_short_ok a b c d e f g h i j k m n o p q r s t u v w; trim ((39,y)::(77,x)::l) l = [(0,a),(2,b),(3,c),(4,d),(5,e),(6,f),(7,g),(8,h),(9,i),(13,j),(19,k),(20,m),(21,n),(33,o),(34,p),(35,q),(38,r),(39,y),(40,t),(43,u),(44,v),(45,w)] := by intros; rfl
      refine R_nil (tr ..) ?_; clear tr
      refine then_n ?_
      exact ⟨_, _, ⟨i + 1, _, _, _, _, _, _, rfl, rfl, by omega, by exact mj.nextI (by omega)⟩, by rfl, by omega⟩
    ·
     try simp only [decide_eq_true_eq, decide_eq_false_iff_not, Bool.not_eq_true', Bool.not_eq_false', beq_iff_eq, beq_eq_false_iff_ne, ne_eq] at h4
     refine at_exit rfl ?_
     refine then_x ?_
     refine then_x ?_
     refine blk_x ?_
     refine blk_n ?_
     refine then_n ?_
     refine rg rfl ?_
     refine Rq ?_
     refine Rq ?_
     have tr : ∀ a b c d e f g h i j k m n o p q r s t u v w x y : AV, let l := lc_short_ok a b c d e f g h i j k m n o p q r s t u v w; trim ((34,y)::(78,x)::l) l = [(0,a),(2,b),(3,c),(4,d),(5,e),(6,f),(7,g),(8,h),(9,i),(13,j),(19,k),(20,m),(21,n),(33,o),(34,y),(35,q),(38,r),(39,s),(40,t),(43,u),(44,v),(45,w)] := by intros; rfl
     refine R_nil (tr ..) ?_; clear tr
     refine then_n ?_
     exact ⟨_, _, ⟨k + 1, _, _, _, _, _, _, _, _, _, _, rfl, rfl, by omega, by exact mi.nextK (by omega)⟩, by rfl, by omega⟩
   ·
    try simp only [decide_eq_true_eq, decide_eq_false_iff_not, Bool.not_eq_true', Bool.not_eq_false', beq_iff_eq, beq_eq_false_iff_ne, ne_eq] at h3
    refine at_exit rfl ?_
    refine then_x ?_
    refine then_x ?_
    refine blk_x ?_
    refine then_n ?_
    refine at_seq rfl ?_
    refine rg rfl ?_
    refine Rq ?_
    refine Rq ?_
    refine Rq ?_
    have tr : ∀ a b c d e f g h i j k m n o p q r s t u v w x y z : AV, let l := lc_short_ok a b c d e f g h i j k m n o p q r s t u v w; trim ((3,z)::(2,y)::(79,x)::l) l = [(0,a),(2,y),(3,z),(4,d),(5,e),(6,f),(7,g),(8,h),(9,i),(13,j),(19,k),(20,m),(21,n),(33,o),(34,p),(35,q),(38,r),(39,s),(40,t),(43,u),(44,v),(45,w)] := by intros; rfl
    refine R_nil (tr ..) ?_; clear tr
    refine then_n ?_
    refine at_ret rfl ?_
    obtain rfl : k = t.length := by omega
    refine fpure ?_
    refine ⟨?_, rfl⟩
    rw [sh_yes hct, hct]
    exact congrArg (fun x => AV.tup [x, AV.i 0]) (frz_mat mk (by omega) (fun i hi => by unfold br24; omega))

end Go.Proofs.YtocmcdejkoejhaaDoor
