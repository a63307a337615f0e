/-
  Texts of AttackCosts, part 12 of 17. Walks of chapters 46, 43 and 42. The steps are written by program (walk.py).
-/
import Derived.Test.YtplockpopmaejaaKAttackCosts10
import Derived.Test.YtplockpopmaejaaKAttackCosts8
section
set_option linter.unusedSimpArgs false
set_option linter.unusedVariables false
set_option maxHeartbeats 40000000
set_option maxRecDepth 4000
namespace Go.Proofs.Ytplockpopmaejaa
open Go Go.Am

abbrev lc_shift_ok (a b c d e f g h i j k m n o p q r s t u v w : AV) : Env := [(0,a),(1,b),(4,c),(5,d),(6,e),(7,f),(9,g),(10,h),(11,i),(12,j),(13,k),(17,m),(24,n),(25,o),(26,p),(27,q),(28,r),(32,s),(52,t),(61,u),(64,v),(65,w)]
theorem shift_ok (lim : Nat) (H : Heap) (d : List Oc) (n : Int) (hc : chkD d = 0) (hn1 : -12 ≤ n) (hn2 : n ≤ 12) :
    ACall sig lim 27 [ocsAV d, AV.i n] H fun r H' => r = .tup [ocsAV (shS d n), AV.i 0] ∧ H' = H := by
 have q7 : True := trivial
 have q9 : True := trivial
 have qn : True := trivial
 refine ACall_pure (fa := fa27) rfl rfl rfl rfl ?_
 have tr : ∀ a0 a1 : AV, env0 fa27.keep [a0, a1] = [(0,a0),(1,a1),(4,.any),(5,.any),(6,.any),(7,.any),(9,.any),(10,.any),(11,.any),(12,.any),(13,.any),(17,.any),(24,.any),(25,.any),(26,.any),(27,.any),(28,.any),(32,.any),(52,.any),(61,.any),(64,.any),(65,.any)] := fun a0 a1 => rfl
 refine W_to (tr _ _) ?_; clear tr
 refine at_seq rfl ?_
 refine rg rfl ?_
 refine Rq ?_
 refine Rq ?_
 have tr : ∀ a b c d e f g h i j k m n o p q r s t u v w x y : AV, let l := lc_shift_ok a b c d e f g h i j k m n o p q r s t u v w; trim ((5,y)::(4,x)::l) l = [(0,a),(1,b),(4,x),(5,y),(6,e),(7,f),(9,g),(10,h),(11,i),(12,j),(13,k),(17,m),(24,n),(25,o),(26,p),(27,q),(28,r),(32,s),(52,t),(61,u),(64,v),(65,w)] := by intros; rfl
 refine R_nil (tr ..) ?_; clear tr
 refine then_n ?_
 refine at_seq rfl ?_
 refine at_seq rfl ?_
 refine rg rfl ?_
 refine Rq ?_
 refine Rcall ?_
 refine ACall_eq (chk25 _ _ d) ?_
 refine Rq ?_
 have tr : ∀ a b c d e f g h i j k m n o p q r s t u v w x y z : AV, let l := lc_shift_ok a b c d e f g h i j k m n o p q r s t u v w; trim ((6,z)::(15,y)::(14,x)::l) l = [(0,a),(1,b),(4,c),(5,d),(6,z),(7,f),(9,g),(10,h),(11,i),(12,j),(13,k),(17,m),(24,n),(25,o),(26,p),(27,q),(28,r),(32,s),(52,t),(61,u),(64,v),(65,w)] := by intros; rfl
 refine R_nil (tr ..) ?_; clear tr
 refine then_n ?_
 refine at_seq rfl ?_
 refine rg rfl ?_
 refine Rq ?_
 refine Rq ?_
 have tr : ∀ a b c d e f g h i j k m n o p q r s t u v w x y : AV, let l := lc_shift_ok a b c d e f g h i j k m n o p q r s t u v w; trim ((17,y)::(16,x)::l) l = [(0,a),(1,b),(4,c),(5,d),(6,e),(7,f),(9,g),(10,h),(11,i),(12,j),(13,k),(17,y),(24,n),(25,o),(26,p),(27,q),(28,r),(32,s),(52,t),(61,u),(64,v),(65,w)] := by intros; rfl
 refine R_nil (tr ..) ?_; clear tr
 refine then_n ?_
 refine cdd (fun h1 => ?_) (fun h1 => ?_)
 ·
  try simp only [decide_eq_true_eq, decide_eq_false_iff_not, Bool.not_eq_true', Bool.not_eq_false', beq_iff_eq, beq_eq_false_iff_ne, ne_eq] at h1
  first | exact absurd hc (by assumption) | omega
 ·
  try simp only [decide_eq_true_eq, decide_eq_false_iff_not, Bool.not_eq_true', Bool.not_eq_false', beq_iff_eq, beq_eq_false_iff_ne, ne_eq] at h1
  refine at_skip rfl ?_
  refine then_n ?_
  refine at_seq rfl ?_
  refine at_seq rfl ?_
  refine rg rfl ?_
  refine Rq ?_
  refine Rq ?_
  refine Rq ?_
  refine Rp_split (fun h2 => ?_) (fun h2 => ?_)
  ·
   try simp only [decide_eq_true_eq, decide_eq_false_iff_not, Bool.not_eq_true', Bool.not_eq_false', beq_iff_eq, beq_eq_false_iff_ne, ne_eq] at h2
   omega
  ·
   try simp only [decide_eq_true_eq, decide_eq_false_iff_not, Bool.not_eq_true', Bool.not_eq_false', beq_iff_eq, beq_eq_false_iff_ne, ne_eq] at h2
   refine Ry ?_
   refine Rq ?_
   refine Ry ?_
   refine Rq ?_
   refine Rq ?_
   have tr : ∀ a b c d e f g h i j k m n o p q r s t u v w x y z A B C : AV, let l := lc_shift_ok a b c d e f g h i j k m n o p q r s t u v w; trim ((24,C)::(23,B)::(22,A)::(21,z)::(20,y)::(19,x)::l) l = [(0,a),(1,b),(4,c),(5,d),(6,e),(7,f),(9,g),(10,h),(11,i),(12,j),(13,k),(17,m),(24,C),(25,o),(26,p),(27,q),(28,r),(32,s),(52,t),(61,u),(64,v),(65,w)] := by intros; rfl
   refine R_nil (tr ..) ?_; clear tr
   refine then_n ?_
   refine cdd (fun h3 => ?_) (fun h3 => ?_)
   ·
    try simp only [decide_eq_true_eq, decide_eq_false_iff_not, Bool.not_eq_true', Bool.not_eq_false', beq_iff_eq, beq_eq_false_iff_ne, ne_eq] at h3
    omega
   ·
    try simp only [decide_eq_true_eq, decide_eq_false_iff_not, Bool.not_eq_true', Bool.not_eq_false', beq_iff_eq, beq_eq_false_iff_ne, ne_eq] at h3
    refine at_skip rfl ?_
    refine then_n ?_
    refine at_seq rfl ?_
    refine rg rfl ?_
    refine A_alloc rfl ?_
    intro H1 n1
    have e1 := n1.len
    have q7 : hget H1 H.length = some (wC (inW d 0)) := n1.new
    have gl := gl_chk hc
    have gW := gl.gd
    have hd16 := (chkD_of hc).2.1
    have tr : ∀ a b c d e f g h i j k m n o p q r s t u v w x : AV, let l := lc_shift_ok a b c d e f g h i j k m n o p q r s t u v w; trim ((7,x)::l) l = [(0,a),(1,b),(4,c),(5,d),(6,e),(7,x),(9,g),(10,h),(11,i),(12,j),(13,k),(17,m),(24,n),(25,o),(26,p),(27,q),(28,r),(32,s),(52,t),(61,u),(64,v),(65,w)] := by intros; rfl
    refine R_nil (tr ..) ?_; clear tr
    refine then_n ?_
    refine at_seq rfl ?_
    refine at_seq rfl ?_
    refine rg rfl ?_
    refine Rq ?_
    refine Rq ?_
    refine Rq ?_
    have tr : ∀ a b c d e f g h i j k m n o p q r s t u v w x y z : AV, let l := lc_shift_ok a b c d e f g h i j k m n o p q r s t u v w; trim ((27,z)::(26,y)::(25,x)::l) l = [(0,a),(1,b),(4,c),(5,d),(6,e),(7,f),(9,g),(10,h),(11,i),(12,j),(13,k),(17,m),(24,n),(25,x),(26,y),(27,z),(28,r),(32,s),(52,t),(61,u),(64,v),(65,w)] := by intros; rfl
    refine R_nil (tr ..) ?_; clear tr
    refine then_n ?_
    refine at_block rfl ?_
    refine loop_n rfl (fun mm kv H' => ∃ u : Nat, ∃ x9 x28 x32 : AV, (kv = [(9, x9), (27, AV.i u), (28, x28), (32, x32)]) ∧ (mm = d.length - u) ∧ (u ≤ d.length) ∧ (hget H' H.length = some (wC (inW d u)))) ⟨0, _, _, _, rfl, rfl, by omega, by exact q7⟩ (by rfl) ?_
    rintro mm kv HL ⟨u, x9, x28, x32, rfl, rfl, hu, q7⟩
    have tr : ∀ a b c d e f g h i j k m n o p q r s t u v w x y z A : AV, upd [(0,a),(1,b),(4,c),(5,d),(6,e),(7,f),(9,g),(10,h),(11,i),(12,j),(13,k),(17,m),(24,n),(25,o),(26,p),(27,q),(28,r),(32,s),(52,t),(61,u),(64,v),(65,w)] [(9,x),(27,y),(28,z),(32,A)] = [(0,a),(1,b),(4,c),(5,d),(6,e),(7,f),(9,x),(10,h),(11,i),(12,j),(13,k),(17,m),(24,n),(25,o),(26,p),(27,y),(28,z),(32,A),(52,t),(61,u),(64,v),(65,w)] := by intros; rfl
    refine W_to (tr ..) ?_; clear tr
    have lq7 := hget_lt q7
    refine at_seq rfl ?_
    refine rg rfl ?_
    refine Rq ?_
    have tr : ∀ a b c d e f g h i j k m n o p q r s t u v w x : AV, let l := lc_shift_ok a b c d e f g h i j k m n o p q r s t u v w; trim ((28,x)::l) l = [(0,a),(1,b),(4,c),(5,d),(6,e),(7,f),(9,g),(10,h),(11,i),(12,j),(13,k),(17,m),(24,n),(25,o),(26,p),(27,q),(28,x),(32,s),(52,t),(61,u),(64,v),(65,w)] := by intros; rfl
    refine R_nil (tr ..) ?_; clear tr
    refine then_n ?_
    refine at_seq rfl ?_
    refine cdd (fun h4 => ?_) (fun h4 => ?_)
    ·
     try simp only [decide_eq_true_eq, decide_eq_false_iff_not, Bool.not_eq_true', Bool.not_eq_false', beq_iff_eq, beq_eq_false_iff_ne, ne_eq] at h4
     refine at_skip rfl ?_
     refine then_n ?_
     refine at_seq rfl ?_
     refine at_block rfl ?_
     refine at_seq rfl ?_
     refine rg rfl ?_
     refine Rq ?_
     refine R_q rfl (by simp (disch := first | omega | (simp only [List.length_map, List.length_append, List.length_set, List.length_cons, List.length_nil]; omega)) only [go_sem, ↓reduceIte, Nat.reduceEqDiff, reduceCtorEq, q7, q9, qn] <;> rfl) ?_
     refine A_alloc rfl ?_
     intro H2 n2
     have en2 := n2.len
     have q7 := (n2.old _ (hget_lt q7)).trans q7
     have q9 := n2.new
     have lq7 := hget_lt q7
     have lq9 := hget_lt q9
     refine A_store ty68 (by simp (disch := first | omega | (simp only [List.length_map, List.length_append, List.length_set, List.length_cons, List.length_nil]; omega)) only [go_sem, ↓reduceIte, Nat.reduceEqDiff, reduceCtorEq, q9] <;> rfl) (by simp (disch := first | omega | (simp only [List.length_map, List.length_append, List.length_set, List.length_cons, List.length_nil]; omega)) only [go_sem, ↓reduceIte, Nat.reduceEqDiff, reduceCtorEq, q9] <;> rfl) q9 ⟨by omega, rfl, by first | exact Nat.le_refl _ | simp⟩ (k' := ocC (gt d u)) rfl ?_
     intro H3 w3
     have ew3 := w3.len
     have q7 := (w3.old _ (by omega)).trans q7
     have q9 := w3.new
     have hrg := gl.rg u (by omega)
     have tr : ∀ a b c d e f g h i j k m n o p q r s t u v w x y z : AV, let l := lc_shift_ok a b c d e f g h i j k m n o p q r s t u v w; trim ((9,z)::(30,y)::(29,x)::l) l = [(0,a),(1,b),(4,c),(5,d),(6,e),(7,f),(9,z),(10,h),(11,i),(12,j),(13,k),(17,m),(24,n),(25,o),(26,p),(27,q),(28,r),(32,s),(52,t),(61,u),(64,v),(65,w)] := by intros; rfl
     refine R_nil (tr ..) ?_; clear tr
     refine then_n ?_
     refine at_seq rfl ?_
     refine rg rfl ?_
     refine Rq ?_
     refine R_q rfl (by simp (disch := first | omega | (simp only [List.length_map, List.length_append, List.length_set, List.length_cons, List.length_nil]; omega)) only [go_sem, ↓reduceIte, Nat.reduceEqDiff, reduceCtorEq, q7, q9, qn] <;> rfl) ?_
     have tr : ∀ a b c d e f g h i j k m n o p q r s t u v w x y : AV, let l := lc_shift_ok a b c d e f g h i j k m n o p q r s t u v w; trim ((32,y)::(31,x)::l) l = [(0,a),(1,b),(4,c),(5,d),(6,e),(7,f),(9,g),(10,h),(11,i),(12,j),(13,k),(17,m),(24,n),(25,o),(26,p),(27,q),(28,r),(32,y),(52,t),(61,u),(64,v),(65,w)] := by intros; rfl
     refine R_nil (tr ..) ?_; clear tr
     refine then_n ?_
     refine cdd (fun h5 => ?_) (fun h5 => ?_)
     ·
      try simp only [decide_eq_true_eq, decide_eq_false_iff_not, Bool.not_eq_true', Bool.not_eq_false', beq_iff_eq, beq_eq_false_iff_ne, ne_eq] at h5
      refine rg rfl ?_
      refine Rq ?_
      refine R_q rfl (by simp (disch := first | omega | (simp only [List.length_map, List.length_append, List.length_set, List.length_cons, List.length_nil]; omega)) only [go_sem, ↓reduceIte, Nat.reduceEqDiff, reduceCtorEq, q7, q9, qn] <;> rfl) ?_
      refine Rq ?_
      refine R_q rfl (by simp (disch := first | omega | (simp only [List.length_map, List.length_append, List.length_set, List.length_cons, List.length_nil]; omega)) only [go_sem, ↓reduceIte, Nat.reduceEqDiff, reduceCtorEq, q7, q9, qn] <;> rfl) ?_
      refine Rq ?_
      refine Rq ?_
      have lq7 := hget_lt q7
      have lq9 := hget_lt q9
      have hl16 := inW_len d u
      refine A_store ty2 (by simp (disch := first | omega | (simp only [List.length_map, List.length_append, List.length_set, List.length_cons, List.length_nil]; omega)) only [go_sem, ↓reduceIte, Nat.reduceEqDiff, reduceCtorEq, q7, q9] <;> rfl) (by simp (disch := first | omega | (simp only [List.length_map, List.length_append, List.length_set, List.length_cons, List.length_nil]; omega)) only [go_sem, ↓reduceIte, Nat.reduceEqDiff, reduceCtorEq, q7, q9] <;> rfl) q7 ⟨by omega, rfl, by simp only [List.length_map, inW_len]; first | omega | (show _ + 1 ≤ 16; omega)⟩ (k' := wC (inW d (u + 1))) (by first | exact (setW _ _ _).trans (by rw [inW_k1 (by assumption)]) | (rw [Nat.zero_add]; exact (setW _ _ _).trans (by rw [inW_k1 (by assumption)]))) ?_
      intro H4 w4
      have ew4 := w4.len
      have q7 := w4.new
      have tr : ∀ a b c d e f g h i j k m n o p q r s t u v w x y z A B C : AV, let l := lc_shift_ok a b c d e f g h i j k m n o p q r s t u v w; trim ((38,C)::(37,B)::(36,A)::(35,z)::(34,y)::(33,x)::l) l = [(0,a),(1,b),(4,c),(5,d),(6,e),(7,f),(9,g),(10,h),(11,i),(12,j),(13,k),(17,m),(24,n),(25,o),(26,p),(27,q),(28,r),(32,s),(52,t),(61,u),(64,v),(65,w)] := by intros; rfl
      refine R_nil (tr ..) ?_; clear tr
      refine blk_n ?_
      refine then_n ?_
      refine rg rfl ?_
      refine Rq ?_
      refine Rq ?_
      have tr : ∀ a b c d e f g h i j k m n o p q r s t u v w x y : AV, let l := lc_shift_ok a b c d e f g h i j k m n o p q r s t u v w; trim ((27,y)::(45,x)::l) l = [(0,a),(1,b),(4,c),(5,d),(6,e),(7,f),(9,g),(10,h),(11,i),(12,j),(13,k),(17,m),(24,n),(25,o),(26,p),(27,y),(28,r),(32,s),(52,t),(61,u),(64,v),(65,w)] := by intros; rfl
      refine R_nil (tr ..) ?_; clear tr
      refine then_n ?_
      exact ⟨_, _, ⟨u + 1, _, _, _, rfl, rfl, by omega, by exact q7⟩, by rfl, by omega⟩
     ·
      try simp only [decide_eq_true_eq, decide_eq_false_iff_not, Bool.not_eq_true', Bool.not_eq_false', beq_iff_eq, beq_eq_false_iff_ne, ne_eq] at h5
      refine rg rfl ?_
      refine Rq ?_
      refine R_q rfl (by simp (disch := first | omega | (simp only [List.length_map, List.length_append, List.length_set, List.length_cons, List.length_nil]; omega)) only [go_sem, ↓reduceIte, Nat.reduceEqDiff, reduceCtorEq, q7, q9, qn] <;> rfl) ?_
      refine Rq ?_
      refine R_q rfl (by simp (disch := first | omega | (simp only [List.length_map, List.length_append, List.length_set, List.length_cons, List.length_nil]; omega)) only [go_sem, ↓reduceIte, Nat.reduceEqDiff, reduceCtorEq, q7, q9, qn] <;> rfl) ?_
      refine Rq ?_
      refine Rq ?_
      have lq7 := hget_lt q7
      have lq9 := hget_lt q9
      have hl16 := inW_len d u
      refine A_store ty2 (by simp (disch := first | omega | (simp only [List.length_map, List.length_append, List.length_set, List.length_cons, List.length_nil]; omega)) only [go_sem, ↓reduceIte, Nat.reduceEqDiff, reduceCtorEq, q7, q9] <;> rfl) (by simp (disch := first | omega | (simp only [List.length_map, List.length_append, List.length_set, List.length_cons, List.length_nil]; omega)) only [go_sem, ↓reduceIte, Nat.reduceEqDiff, reduceCtorEq, q7, q9] <;> rfl) q7 ⟨by omega, rfl, by simp only [List.length_map, inW_len]; first | omega | (show _ + 1 ≤ 16; omega)⟩ (k' := wC (inW d (u + 1))) (by first | exact (setW _ _ _).trans (by rw [inW_k0 (by first | assumption | simp_all)]) | (rw [Nat.zero_add]; exact (setW _ _ _).trans (by rw [inW_k0 (by first | assumption | simp_all)]))) ?_
      intro H4 w4
      have ew4 := w4.len
      have q7 := w4.new
      have tr : ∀ a b c d e f g h i j k m n o p q r s t u v w x y z A B C : AV, let l := lc_shift_ok a b c d e f g h i j k m n o p q r s t u v w; trim ((44,C)::(43,B)::(42,A)::(41,z)::(40,y)::(39,x)::l) l = [(0,a),(1,b),(4,c),(5,d),(6,e),(7,f),(9,g),(10,h),(11,i),(12,j),(13,k),(17,m),(24,n),(25,o),(26,p),(27,q),(28,r),(32,s),(52,t),(61,u),(64,v),(65,w)] := by intros; rfl
      refine R_nil (tr ..) ?_; clear tr
      refine blk_n ?_
      refine then_n ?_
      refine rg rfl ?_
      refine Rq ?_
      refine Rq ?_
      have tr : ∀ a b c d e f g h i j k m n o p q r s t u v w x y : AV, let l := lc_shift_ok a b c d e f g h i j k m n o p q r s t u v w; trim ((27,y)::(45,x)::l) l = [(0,a),(1,b),(4,c),(5,d),(6,e),(7,f),(9,g),(10,h),(11,i),(12,j),(13,k),(17,m),(24,n),(25,o),(26,p),(27,y),(28,r),(32,s),(52,t),(61,u),(64,v),(65,w)] := by intros; rfl
      refine R_nil (tr ..) ?_; clear tr
      refine then_n ?_
      exact ⟨_, _, ⟨u + 1, _, _, _, rfl, rfl, by omega, by exact q7⟩, by rfl, by omega⟩
    ·
     try simp only [decide_eq_true_eq, decide_eq_false_iff_not, Bool.not_eq_true', Bool.not_eq_false', beq_iff_eq, beq_eq_false_iff_ne, ne_eq] at h4
     refine at_exit rfl ?_
     refine then_x ?_
     refine then_x ?_
     refine blk_x ?_
     refine then_n ?_
     refine at_seq rfl ?_
     refine at_seq rfl ?_
     refine rg rfl ?_
     have huD : u = d.length := (by omega)
     rewrite [huD, inW_wv gl] at q7
     refine Rq ?_
     have tr : ∀ a b c d e f g h i j k m n o p q r s t u v w x : AV, let l := lc_shift_ok a b c d e f g h i j k m n o p q r s t u v w; trim ((10,x)::l) l = [(0,a),(1,b),(4,c),(5,d),(6,e),(7,f),(9,g),(10,x),(11,i),(12,j),(13,k),(17,m),(24,n),(25,o),(26,p),(27,q),(28,r),(32,s),(52,t),(61,u),(64,v),(65,w)] := by intros; rfl
     refine R_nil (tr ..) ?_; clear tr
     refine then_n ?_
     refine at_block rfl ?_
     refine loop_n rfl (fun mm kv H' => ∃ i : Nat, ∃ x52 : AV, (kv = [(10, AV.i i), (52, x52)]) ∧ (mm = n.toNat - i) ∧ (i ≤ n.toNat) ∧ (hget H' H.length = some (wC (hst (wv d) i)))) ⟨0, _, rfl, rfl, by omega, by exact q7⟩ (by rfl) ?_
     rintro mm kv HM ⟨i, x52, rfl, rfl, hi, q7⟩
     have tr : ∀ a b c d e f g h i j k m n o p q r s t u v w x y : AV, upd [(0,a),(1,b),(4,c),(5,d),(6,e),(7,f),(9,g),(10,h),(11,i),(12,j),(13,k),(17,m),(24,n),(25,o),(26,p),(27,q),(28,r),(32,s),(52,t),(61,u),(64,v),(65,w)] [(10,x),(52,y)] = [(0,a),(1,b),(4,c),(5,d),(6,e),(7,f),(9,g),(10,x),(11,i),(12,j),(13,k),(17,m),(24,n),(25,o),(26,p),(27,q),(28,r),(32,s),(52,y),(61,u),(64,v),(65,w)] := by intros; rfl
     refine W_to (tr ..) ?_; clear tr
     have lq7 := hget_lt q7
     refine at_seq rfl ?_
     refine at_seq rfl ?_
     refine rg rfl ?_
     refine Rq ?_
     refine Rq ?_
     refine Rq ?_
     refine Rq ?_
     refine Rp_split (fun h6 => ?_) (fun h6 => ?_)
     ·
      try simp only [decide_eq_true_eq, decide_eq_false_iff_not, Bool.not_eq_true', Bool.not_eq_false', beq_iff_eq, beq_eq_false_iff_ne, ne_eq] at h6
      refine Ry ?_
      refine Rq ?_
      refine Ry ?_
      refine Rcall ?_
      refine ACall_mono (harder_ok _ _ (hst (wv d) i) H.length (i : Int) q7 (by omega) (hst_gd gW i)) ?_
      rintro r H5 ⟨rfl, hq, hlen5, hold5⟩
      have q7 : hget H5 H.length = some (wC (hst (wv d) (i + 1))) := hq
      refine Rq ?_
      have tr : ∀ a b c d e f g h i j k m n o p q r s t u v w x y z A B C D : AV, let l := lc_shift_ok a b c d e f g h i j k m n o p q r s t u v w; trim ((52,D)::(51,C)::(50,B)::(49,A)::(48,z)::(47,y)::(46,x)::l) l = [(0,a),(1,b),(4,c),(5,d),(6,e),(7,f),(9,g),(10,h),(11,i),(12,j),(13,k),(17,m),(24,n),(25,o),(26,p),(27,q),(28,r),(32,s),(52,D),(61,u),(64,v),(65,w)] := by intros; rfl
      refine R_nil (tr ..) ?_; clear tr
      refine then_n ?_
      refine cdd (fun h7 => ?_) (fun h7 => ?_)
      ·
       try simp only [decide_eq_true_eq, decide_eq_false_iff_not, Bool.not_eq_true', Bool.not_eq_false', beq_iff_eq, beq_eq_false_iff_ne, ne_eq] at h7
       refine at_skip rfl ?_
       refine then_n ?_
       refine at_seq rfl ?_
       refine at_block rfl ?_
       refine at_skip rfl ?_
       refine blk_n ?_
       refine then_n ?_
       refine rg rfl ?_
       refine Rq ?_
       refine Rq ?_
       refine Rq ?_
       have tr : ∀ a b c d e f g h i j k m n o p q r s t u v w x y z : AV, let l := lc_shift_ok a b c d e f g h i j k m n o p q r s t u v w; trim ((10,z)::(54,y)::(53,x)::l) l = [(0,a),(1,b),(4,c),(5,d),(6,e),(7,f),(9,g),(10,z),(11,i),(12,j),(13,k),(17,m),(24,n),(25,o),(26,p),(27,q),(28,r),(32,s),(52,t),(61,u),(64,v),(65,w)] := by intros; rfl
       refine R_nil (tr ..) ?_; clear tr
       refine then_n ?_
       exact ⟨_, _, ⟨i + 1, _, rfl, rfl, by omega, by exact q7⟩, by rfl, by omega⟩
      ·
       try simp only [decide_eq_true_eq, decide_eq_false_iff_not, Bool.not_eq_true', Bool.not_eq_false', beq_iff_eq, beq_eq_false_iff_ne, ne_eq] at h7
       refine at_exit rfl ?_
       refine then_x ?_
       refine then_x ?_
       refine blk_x ?_
       refine then_n ?_
       refine at_seq rfl ?_
       refine at_seq rfl ?_
       refine rg rfl ?_
       have q7 := q7.trans (congrArg (fun z => some (wC z)) (hst_e1 (w := wv d) (i := i) (n := n.toNat) (by first | assumption | omega | simp_all) (by omega)))
       refine Rq ?_
       have tr : ∀ a b c d e f g h i j k m n o p q r s t u v w x : AV, let l := lc_shift_ok a b c d e f g h i j k m n o p q r s t u v w; trim ((11,x)::l) l = [(0,a),(1,b),(4,c),(5,d),(6,e),(7,f),(9,g),(10,h),(11,x),(12,j),(13,k),(17,m),(24,n),(25,o),(26,p),(27,q),(28,r),(32,s),(52,t),(61,u),(64,v),(65,w)] := by intros; rfl
       refine R_nil (tr ..) ?_; clear tr
       refine then_n ?_
       refine at_block rfl ?_
       refine loop_n rfl (fun mm kv H' => ∃ j : Nat, ∃ x61 : AV, (kv = [(11, AV.i j), (61, x61)]) ∧ (mm = (-n).toNat - j) ∧ (j ≤ (-n).toNat) ∧ (hget H' H.length = some (wC (est (hst (wv d) n.toNat) j)))) ⟨0, _, rfl, rfl, by omega, by exact q7⟩ (by rfl) ?_
       rintro mm kv HN ⟨j, x61, rfl, rfl, hj, q7⟩
       have tr : ∀ a b c d e f g h i j k m n o p q r s t u v w x y : AV, upd [(0,a),(1,b),(4,c),(5,d),(6,e),(7,f),(9,g),(10,h),(11,i),(12,j),(13,k),(17,m),(24,n),(25,o),(26,p),(27,q),(28,r),(32,s),(52,t),(61,u),(64,v),(65,w)] [(11,x),(61,y)] = [(0,a),(1,b),(4,c),(5,d),(6,e),(7,f),(9,g),(10,h),(11,x),(12,j),(13,k),(17,m),(24,n),(25,o),(26,p),(27,q),(28,r),(32,s),(52,t),(61,y),(64,v),(65,w)] := by intros; rfl
       refine W_to (tr ..) ?_; clear tr
       have lq7 := hget_lt q7
       refine at_seq rfl ?_
       refine at_seq rfl ?_
       refine rg rfl ?_
       refine Rq ?_
       refine Rq ?_
       refine Rq ?_
       refine Rq ?_
       refine Rq ?_
       refine Rp_split (fun h8 => ?_) (fun h8 => ?_)
       ·
        try simp only [decide_eq_true_eq, decide_eq_false_iff_not, Bool.not_eq_true', Bool.not_eq_false', beq_iff_eq, beq_eq_false_iff_ne, ne_eq] at h8
        refine Ry ?_
        refine Rcall ?_
        refine ACall_mono (easier_ok _ _ (est (hst (wv d) n.toNat) j) H.length q7 (by omega) (est_gd (hst_gd gW _) j)) ?_
        rintro r H6 ⟨rfl, hq, hlen6, hold6⟩
        have q7 : hget H6 H.length = some (wC (est (hst (wv d) n.toNat) (j + 1))) := hq
        refine Rq ?_
        have tr : ∀ a b c d e f g h i j k m n o p q r s t u v w x y z A B C D : AV, let l := lc_shift_ok a b c d e f g h i j k m n o p q r s t u v w; trim ((61,D)::(60,C)::(59,B)::(58,A)::(57,z)::(56,y)::(55,x)::l) l = [(0,a),(1,b),(4,c),(5,d),(6,e),(7,f),(9,g),(10,h),(11,i),(12,j),(13,k),(17,m),(24,n),(25,o),(26,p),(27,q),(28,r),(32,s),(52,t),(61,D),(64,v),(65,w)] := by intros; rfl
        refine R_nil (tr ..) ?_; clear tr
        refine then_n ?_
        refine cdd (fun h9 => ?_) (fun h9 => ?_)
        ·
         try simp only [decide_eq_true_eq, decide_eq_false_iff_not, Bool.not_eq_true', Bool.not_eq_false', beq_iff_eq, beq_eq_false_iff_ne, ne_eq] at h9
         refine at_skip rfl ?_
         refine then_n ?_
         refine at_seq rfl ?_
         refine at_block rfl ?_
         refine at_skip rfl ?_
         refine blk_n ?_
         refine then_n ?_
         refine rg rfl ?_
         refine Rq ?_
         refine Rq ?_
         refine Rq ?_
         have tr : ∀ a b c d e f g h i j k m n o p q r s t u v w x y z : AV, let l := lc_shift_ok a b c d e f g h i j k m n o p q r s t u v w; trim ((11,z)::(63,y)::(62,x)::l) l = [(0,a),(1,b),(4,c),(5,d),(6,e),(7,f),(9,g),(10,h),(11,z),(12,j),(13,k),(17,m),(24,n),(25,o),(26,p),(27,q),(28,r),(32,s),(52,t),(61,u),(64,v),(65,w)] := by intros; rfl
         refine R_nil (tr ..) ?_; clear tr
         refine then_n ?_
         exact ⟨_, _, ⟨j + 1, _, rfl, rfl, by omega, by exact q7⟩, by rfl, by omega⟩
        ·
         try simp only [decide_eq_true_eq, decide_eq_false_iff_not, Bool.not_eq_true', Bool.not_eq_false', beq_iff_eq, beq_eq_false_iff_ne, ne_eq] at h9
         refine at_exit rfl ?_
         refine then_x ?_
         refine then_x ?_
         refine blk_x ?_
         refine then_n ?_
         refine at_seq rfl ?_
         refine rg rfl ?_
         have q7 := q7.trans (congrArg (fun z => some (wC z)) (show est (hst (wv d) n.toNat) (j + 1) = (finW d n) from est_e1 (by first | assumption | simp_all) (by omega)))
         have gF := fin_gd gl n
         have glen := gF.len
         refine Rq ?_
         have tr : ∀ a b c d e f g h i j k m n o p q r s t u v w x : AV, let l := lc_shift_ok a b c d e f g h i j k m n o p q r s t u v w; trim ((12,x)::l) l = [(0,a),(1,b),(4,c),(5,d),(6,e),(7,f),(9,g),(10,h),(11,i),(12,x),(13,k),(17,m),(24,n),(25,o),(26,p),(27,q),(28,r),(32,s),(52,t),(61,u),(64,v),(65,w)] := by intros; rfl
         refine R_nil (tr ..) ?_; clear tr
         refine then_n ?_
         refine at_seq rfl ?_
         refine at_seq rfl ?_
         refine rg rfl ?_
         refine Rq ?_
         have tr : ∀ a b c d e f g h i j k m n o p q r s t u v w x : AV, let l := lc_shift_ok a b c d e f g h i j k m n o p q r s t u v w; trim ((64,x)::l) l = [(0,a),(1,b),(4,c),(5,d),(6,e),(7,f),(9,g),(10,h),(11,i),(12,j),(13,k),(17,m),(24,n),(25,o),(26,p),(27,q),(28,r),(32,s),(52,t),(61,u),(64,x),(65,w)] := by intros; rfl
         refine R_nil (tr ..) ?_; clear tr
         refine then_n ?_
         refine at_block rfl ?_
         refine loop_n rfl (fun mm kv H' => ∃ v : Nat, ∃ o : AV, ∃ x13 x65 : AV, (kv = [(12, o), (13, x13), (64, AV.i v), (65, x65)]) ∧ (mm = 8 - v) ∧ (v ≤ 8) ∧ (hget H' H.length = some (wC (finW d n))) ∧ (OutO (H.length + 1) H' o ((outL (finW d n)).take (2 * v)))) ⟨0, nilO, _, _, rfl, rfl, by omega, by exact q7, by exact .inl ⟨rfl, rfl⟩⟩ (by rfl) ?_
         rintro mm kv HP ⟨v, o, x13, x65, rfl, rfl, hv, q7, hO⟩
         have tr : ∀ a b c d e f g h i j k m n o p q r s t u v w x y z A : AV, upd [(0,a),(1,b),(4,c),(5,d),(6,e),(7,f),(9,g),(10,h),(11,i),(12,j),(13,k),(17,m),(24,n),(25,o),(26,p),(27,q),(28,r),(32,s),(52,t),(61,u),(64,v),(65,w)] [(12,x),(13,y),(64,z),(65,A)] = [(0,a),(1,b),(4,c),(5,d),(6,e),(7,f),(9,g),(10,h),(11,i),(12,x),(13,y),(17,m),(24,n),(25,o),(26,p),(27,q),(28,r),(32,s),(52,t),(61,u),(64,z),(65,A)] := by intros; rfl
         refine W_to (tr ..) ?_; clear tr
         have lq7 := hget_lt q7
         have gv := fun hv8 : v < 8 => gF.le (i := v) (by omega)
         refine at_seq rfl ?_
         refine rg rfl ?_
         refine Rq ?_
         have tr : ∀ a b c d e f g h i j k m n o p q r s t u v w x : AV, let l := lc_shift_ok a b c d e f g h i j k m n o p q r s t u v w; trim ((65,x)::l) l = [(0,a),(1,b),(4,c),(5,d),(6,e),(7,f),(9,g),(10,h),(11,i),(12,j),(13,k),(17,m),(24,n),(25,o),(26,p),(27,q),(28,r),(32,s),(52,t),(61,u),(64,v),(65,x)] := by intros; rfl
         refine R_nil (tr ..) ?_; clear tr
         refine then_n ?_
         refine at_seq rfl ?_
         refine cdd (fun h10 => ?_) (fun h10 => ?_)
         ·
          try simp only [decide_eq_true_eq, decide_eq_false_iff_not, Bool.not_eq_true', Bool.not_eq_false', beq_iff_eq, beq_eq_false_iff_ne, ne_eq] at h10
          refine at_skip rfl ?_
          refine then_n ?_
          refine at_seq rfl ?_
          refine at_block rfl ?_
          refine at_seq rfl ?_
          refine rg rfl ?_
          refine Rq ?_
          refine Rq ?_
          have tr : ∀ a b c d e f g h i j k m n o p q r s t u v w x y : AV, let l := lc_shift_ok a b c d e f g h i j k m n o p q r s t u v w; trim ((13,y)::(66,x)::l) l = [(0,a),(1,b),(4,c),(5,d),(6,e),(7,f),(9,g),(10,h),(11,i),(12,j),(13,y),(17,m),(24,n),(25,o),(26,p),(27,q),(28,r),(32,s),(52,t),(61,u),(64,v),(65,w)] := by intros; rfl
          refine R_nil (tr ..) ?_; clear tr
          refine then_n ?_
          refine rl rfl rfl ?_
          refine Lq ?_
          refine Lq ?_
          refine Lq ?_
          refine Lq ?_
          refine Lq ?_
          refine L_q (r := AV.i (gt (finW d n) v)) rfl (by simp (disch := first | omega | (simp only [List.length_map, List.length_append, List.length_set, List.length_cons, List.length_nil]; omega)) only [go_sem, ↓reduceIte, Nat.reduceEqDiff, reduceCtorEq, q7] <;> first | rfl | exact wC_at _ _ (by omega)) rfl ?_
          refine L_q (r := .agg (ocC ⟨(v : Int), false, gt (finW d n) v⟩)) rfl (by simp (disch := first | omega | (simp only [List.length_map, List.length_append, List.length_set, List.length_cons, List.length_nil]; omega)) only [go_sem, ↓reduceIte, Nat.reduceEqDiff, reduceCtorEq] <;> exact bld68a _ _) rfl ?_
          refine Lq ?_
          refine Lq ?_
          refine Lq ?_
          refine Lq ?_
          refine L_q (r := AV.i (gt (finW d n) (8 + v))) rfl (by simp (disch := first | omega | (simp only [List.length_map, List.length_append, List.length_set, List.length_cons, List.length_nil]; omega)) only [go_sem, ↓reduceIte, Nat.reduceEqDiff, reduceCtorEq, q7] <;> first | rfl | exact wC_at _ _ (by omega)) rfl ?_
          refine L_q (r := .agg (ocC ⟨(v : Int), true, gt (finW d n) (8 + v)⟩)) rfl (by simp (disch := first | omega | (simp only [List.length_map, List.length_append, List.length_set, List.length_cons, List.length_nil]; omega)) only [go_sem, ↓reduceIte, Nat.reduceEqDiff, reduceCtorEq] <;> exact bld68 _ _ _) rfl ?_
          refine L_nil ?_
          refine Ms ?_
          refine A_buildSlice (bs29two _ _ _ _ _ ⟨(v : Int), false, gt (finW d n) v⟩ ⟨(v : Int), true, gt (finW d n) (8 + v)⟩ (by simp (disch := first | omega | (simp only [List.length_map, List.length_append, List.length_set, List.length_cons, List.length_nil]; omega)) only [go_sem, ↓reduceIte, Nat.reduceEqDiff, reduceCtorEq] <;> rfl) (by simp (disch := first | omega | (simp only [List.length_map, List.length_append, List.length_set, List.length_cons, List.length_nil]; omega)) only [go_sem, ↓reduceIte, Nat.reduceEqDiff, reduceCtorEq] <;> rfl)) ?_
          intro H8 n8
          have en8 := n8.len
          have q7 := (n8.old _ (hget_lt q7)).trans q7
          have qn := n8.new
          have hO := hO.mono fun b hb k hk => (n8.old _ (hget_lt hk)).trans hk
          refine R_end ?_
          refine M_nil ?_
          have lq7 := hget_lt q7
          obtain ⟨b8, hb8, H9, hap, hgr, hold9, hwh⟩ := outO_appG (lim := H.length) (m := 2) (u := [⟨(v : Int), false, gt (finW d n) v⟩, ⟨(v : Int), true, gt (finW d n) (8 + v)⟩]) hO (src_own (l := [⟨(v : Int), false, gt (finW d n) v⟩, ⟨(v : Int), true, gt (finW d n) (8 + v)⟩]) qn rfl) (by omega) (by omega) (by omega) (by have := List.length_take_le (2 * v) (outL (finW d n)); omega)
          refine A_append ⟨H9, by simp (disch := first | omega | (simp only [List.length_map, List.length_append, List.length_set, List.length_cons, List.length_nil]; omega)) only [go_sem, ↓reduceIte, Nat.reduceEqDiff, reduceCtorEq]; exact hap, hgr⟩ ?_
          intro H10 g9
          have eg9 := g9.len
          have q7 := (g9.old _ (by omega) (by omega)).trans q7
          refine Rq ?_
          have tr : ∀ a b c d e f g h i j k m n o p q r s t u v w x y z A B C D E F G H I J K L M : AV, let l := lc_shift_ok a b c d e f g h i j k m n o p q r s t u v w; trim ((12,M)::(81,L)::(80,K)::(79,J)::(78,I)::(77,H)::(76,G)::(75,F)::(74,E)::(73,D)::(72,C)::(71,B)::(70,A)::(69,z)::(68,y)::(67,x)::l) l = [(0,a),(1,b),(4,c),(5,d),(6,e),(7,f),(9,g),(10,h),(11,i),(12,M),(13,k),(17,m),(24,n),(25,o),(26,p),(27,q),(28,r),(32,s),(52,t),(61,u),(64,v),(65,w)] := by intros; rfl
          refine R_nil (tr ..) ?_; clear tr
          refine blk_n ?_
          refine then_n ?_
          refine rg rfl ?_
          refine Rq ?_
          refine Rq ?_
          have tr : ∀ a b c d e f g h i j k m n o p q r s t u v w x y : AV, let l := lc_shift_ok a b c d e f g h i j k m n o p q r s t u v w; trim ((64,y)::(82,x)::l) l = [(0,a),(1,b),(4,c),(5,d),(6,e),(7,f),(9,g),(10,h),(11,i),(12,j),(13,k),(17,m),(24,n),(25,o),(26,p),(27,q),(28,r),(32,s),(52,t),(61,u),(64,y),(65,w)] := by intros; rfl
          refine R_nil (tr ..) ?_; clear tr
          refine then_n ?_
          exact ⟨_, _, ⟨v + 1, (.own 3 H8.length 0 (((outL (finW d n)).take (2 * v)).length + 2)), _, _, rfl, rfl, by omega, by exact q7, by rw [outL_two (by omega)]; exact .inr ⟨by simp, H8.length, by simp, by omega, g9.new⟩⟩, by rfl, by omega⟩
         ·
          try simp only [decide_eq_true_eq, decide_eq_false_iff_not, Bool.not_eq_true', Bool.not_eq_false', beq_iff_eq, beq_eq_false_iff_ne, ne_eq] at h10
          refine at_exit rfl ?_
          refine then_x ?_
          refine then_x ?_
          refine blk_x ?_
          refine then_n ?_
          refine at_seq rfl ?_
          refine rg rfl ?_
          have e16 : ((outL (finW d n)).take (2 * v)) = outL (finW d n) := List.take_of_length_le (by rw [outL_len]; omega)
          rewrite [e16] at hO
          obtain ⟨h0, bo, rfl, hbo, qo⟩ := hO.resolve_left (fun hh => by have h7 := congrArg List.length hh.1; rw [outL_len] at h7; cases h7)
          rewrite [outL_len]
          refine Rq ?_
          refine Rcall ?_
          refine ACall_eq (norm_ok _ _ (finW d n) bo qo gF) ?_
          refine Rq ?_
          refine Rq ?_
          refine Rq ?_
          refine Rq ?_
          have tr : ∀ a b c d e f g h i j k m n o p q r s t u v w x y z A B C : AV, let l := lc_shift_ok a b c d e f g h i j k m n o p q r s t u v w; trim ((5,C)::(4,B)::(86,A)::(85,z)::(84,y)::(83,x)::l) l = [(0,a),(1,b),(4,B),(5,C),(6,e),(7,f),(9,g),(10,h),(11,i),(12,j),(13,k),(17,m),(24,n),(25,o),(26,p),(27,q),(28,r),(32,s),(52,t),(61,u),(64,v),(65,w)] := by intros; rfl
          refine R_nil (tr ..) ?_; clear tr
          refine then_n ?_
          refine at_ret rfl ?_
          first | (refine fpure ?_; refine ⟨?_, rfl⟩; exact congrArg (fun z => AV.tup [z, AV.i 0]) (frz_stops _ _ _ _))
       ·
        try simp only [decide_eq_true_eq, decide_eq_false_iff_not, Bool.not_eq_true', Bool.not_eq_false', beq_iff_eq, beq_eq_false_iff_ne, ne_eq] at h8
        refine Rn ?_
        refine Rq ?_
        have tr : ∀ a b c d e f g h i j k m n o p q r s t u v w x y z A B C D : AV, let l := lc_shift_ok a b c d e f g h i j k m n o p q r s t u v w; trim ((61,D)::(60,C)::(59,B)::(58,A)::(57,z)::(56,y)::(55,x)::l) l = [(0,a),(1,b),(4,c),(5,d),(6,e),(7,f),(9,g),(10,h),(11,i),(12,j),(13,k),(17,m),(24,n),(25,o),(26,p),(27,q),(28,r),(32,s),(52,t),(61,D),(64,v),(65,w)] := by intros; rfl
        refine R_nil (tr ..) ?_; clear tr
        refine then_n ?_
        refine cdf ?_
        refine at_exit rfl ?_
        refine then_x ?_
        refine then_x ?_
        refine blk_x ?_
        refine then_n ?_
        refine at_seq rfl ?_
        refine rg rfl ?_
        have q7 := q7.trans (congrArg (fun z => some (wC z)) (show est (hst (wv d) n.toNat) j = (finW d n) by rw [show j = (-n).toNat by omega]; rfl))
        have gF := fin_gd gl n
        have glen := gF.len
        refine Rq ?_
        have tr : ∀ a b c d e f g h i j k m n o p q r s t u v w x : AV, let l := lc_shift_ok a b c d e f g h i j k m n o p q r s t u v w; trim ((12,x)::l) l = [(0,a),(1,b),(4,c),(5,d),(6,e),(7,f),(9,g),(10,h),(11,i),(12,x),(13,k),(17,m),(24,n),(25,o),(26,p),(27,q),(28,r),(32,s),(52,t),(61,u),(64,v),(65,w)] := by intros; rfl
        refine R_nil (tr ..) ?_; clear tr
        refine then_n ?_
        refine at_seq rfl ?_
        refine at_seq rfl ?_
        refine rg rfl ?_
        refine Rq ?_
        have tr : ∀ a b c d e f g h i j k m n o p q r s t u v w x : AV, let l := lc_shift_ok a b c d e f g h i j k m n o p q r s t u v w; trim ((64,x)::l) l = [(0,a),(1,b),(4,c),(5,d),(6,e),(7,f),(9,g),(10,h),(11,i),(12,j),(13,k),(17,m),(24,n),(25,o),(26,p),(27,q),(28,r),(32,s),(52,t),(61,u),(64,x),(65,w)] := by intros; rfl
        refine R_nil (tr ..) ?_; clear tr
        refine then_n ?_
        refine at_block rfl ?_
        refine loop_n rfl (fun mm kv H' => ∃ v : Nat, ∃ o : AV, ∃ x13 x65 : AV, (kv = [(12, o), (13, x13), (64, AV.i v), (65, x65)]) ∧ (mm = 8 - v) ∧ (v ≤ 8) ∧ (hget H' H.length = some (wC (finW d n))) ∧ (OutO (H.length + 1) H' o ((outL (finW d n)).take (2 * v)))) ⟨0, nilO, _, _, rfl, rfl, by omega, by exact q7, by exact .inl ⟨rfl, rfl⟩⟩ (by rfl) ?_
        rintro mm kv HP ⟨v, o, x13, x65, rfl, rfl, hv, q7, hO⟩
        have tr : ∀ a b c d e f g h i j k m n o p q r s t u v w x y z A : AV, upd [(0,a),(1,b),(4,c),(5,d),(6,e),(7,f),(9,g),(10,h),(11,i),(12,j),(13,k),(17,m),(24,n),(25,o),(26,p),(27,q),(28,r),(32,s),(52,t),(61,u),(64,v),(65,w)] [(12,x),(13,y),(64,z),(65,A)] = [(0,a),(1,b),(4,c),(5,d),(6,e),(7,f),(9,g),(10,h),(11,i),(12,x),(13,y),(17,m),(24,n),(25,o),(26,p),(27,q),(28,r),(32,s),(52,t),(61,u),(64,z),(65,A)] := by intros; rfl
        refine W_to (tr ..) ?_; clear tr
        have lq7 := hget_lt q7
        have gv := fun hv8 : v < 8 => gF.le (i := v) (by omega)
        refine at_seq rfl ?_
        refine rg rfl ?_
        refine Rq ?_
        have tr : ∀ a b c d e f g h i j k m n o p q r s t u v w x : AV, let l := lc_shift_ok a b c d e f g h i j k m n o p q r s t u v w; trim ((65,x)::l) l = [(0,a),(1,b),(4,c),(5,d),(6,e),(7,f),(9,g),(10,h),(11,i),(12,j),(13,k),(17,m),(24,n),(25,o),(26,p),(27,q),(28,r),(32,s),(52,t),(61,u),(64,v),(65,x)] := by intros; rfl
        refine R_nil (tr ..) ?_; clear tr
        refine then_n ?_
        refine at_seq rfl ?_
        refine cdd (fun h11 => ?_) (fun h11 => ?_)
        ·
         try simp only [decide_eq_true_eq, decide_eq_false_iff_not, Bool.not_eq_true', Bool.not_eq_false', beq_iff_eq, beq_eq_false_iff_ne, ne_eq] at h11
         refine at_skip rfl ?_
         refine then_n ?_
         refine at_seq rfl ?_
         refine at_block rfl ?_
         refine at_seq rfl ?_
         refine rg rfl ?_
         refine Rq ?_
         refine Rq ?_
         have tr : ∀ a b c d e f g h i j k m n o p q r s t u v w x y : AV, let l := lc_shift_ok a b c d e f g h i j k m n o p q r s t u v w; trim ((13,y)::(66,x)::l) l = [(0,a),(1,b),(4,c),(5,d),(6,e),(7,f),(9,g),(10,h),(11,i),(12,j),(13,y),(17,m),(24,n),(25,o),(26,p),(27,q),(28,r),(32,s),(52,t),(61,u),(64,v),(65,w)] := by intros; rfl
         refine R_nil (tr ..) ?_; clear tr
         refine then_n ?_
         refine rl rfl rfl ?_
         refine Lq ?_
         refine Lq ?_
         refine Lq ?_
         refine Lq ?_
         refine Lq ?_
         refine L_q (r := AV.i (gt (finW d n) v)) rfl (by simp (disch := first | omega | (simp only [List.length_map, List.length_append, List.length_set, List.length_cons, List.length_nil]; omega)) only [go_sem, ↓reduceIte, Nat.reduceEqDiff, reduceCtorEq, q7] <;> first | rfl | exact wC_at _ _ (by omega)) rfl ?_
         refine L_q (r := .agg (ocC ⟨(v : Int), false, gt (finW d n) v⟩)) rfl (by simp (disch := first | omega | (simp only [List.length_map, List.length_append, List.length_set, List.length_cons, List.length_nil]; omega)) only [go_sem, ↓reduceIte, Nat.reduceEqDiff, reduceCtorEq] <;> exact bld68a _ _) rfl ?_
         refine Lq ?_
         refine Lq ?_
         refine Lq ?_
         refine Lq ?_
         refine L_q (r := AV.i (gt (finW d n) (8 + v))) rfl (by simp (disch := first | omega | (simp only [List.length_map, List.length_append, List.length_set, List.length_cons, List.length_nil]; omega)) only [go_sem, ↓reduceIte, Nat.reduceEqDiff, reduceCtorEq, q7] <;> first | rfl | exact wC_at _ _ (by omega)) rfl ?_
         refine L_q (r := .agg (ocC ⟨(v : Int), true, gt (finW d n) (8 + v)⟩)) rfl (by simp (disch := first | omega | (simp only [List.length_map, List.length_append, List.length_set, List.length_cons, List.length_nil]; omega)) only [go_sem, ↓reduceIte, Nat.reduceEqDiff, reduceCtorEq] <;> exact bld68 _ _ _) rfl ?_
         refine L_nil ?_
         refine Ms ?_
         refine A_buildSlice (bs29two _ _ _ _ _ ⟨(v : Int), false, gt (finW d n) v⟩ ⟨(v : Int), true, gt (finW d n) (8 + v)⟩ (by simp (disch := first | omega | (simp only [List.length_map, List.length_append, List.length_set, List.length_cons, List.length_nil]; omega)) only [go_sem, ↓reduceIte, Nat.reduceEqDiff, reduceCtorEq] <;> rfl) (by simp (disch := first | omega | (simp only [List.length_map, List.length_append, List.length_set, List.length_cons, List.length_nil]; omega)) only [go_sem, ↓reduceIte, Nat.reduceEqDiff, reduceCtorEq] <;> rfl)) ?_
         intro H8 n8
         have en8 := n8.len
         have q7 := (n8.old _ (hget_lt q7)).trans q7
         have qn := n8.new
         have hO := hO.mono fun b hb k hk => (n8.old _ (hget_lt hk)).trans hk
         refine R_end ?_
         refine M_nil ?_
         have lq7 := hget_lt q7
         obtain ⟨b8, hb8, H9, hap, hgr, hold9, hwh⟩ := outO_appG (lim := H.length) (m := 2) (u := [⟨(v : Int), false, gt (finW d n) v⟩, ⟨(v : Int), true, gt (finW d n) (8 + v)⟩]) hO (src_own (l := [⟨(v : Int), false, gt (finW d n) v⟩, ⟨(v : Int), true, gt (finW d n) (8 + v)⟩]) qn rfl) (by omega) (by omega) (by omega) (by have := List.length_take_le (2 * v) (outL (finW d n)); omega)
         refine A_append ⟨H9, by simp (disch := first | omega | (simp only [List.length_map, List.length_append, List.length_set, List.length_cons, List.length_nil]; omega)) only [go_sem, ↓reduceIte, Nat.reduceEqDiff, reduceCtorEq]; exact hap, hgr⟩ ?_
         intro H10 g9
         have eg9 := g9.len
         have q7 := (g9.old _ (by omega) (by omega)).trans q7
         refine Rq ?_
         have tr : ∀ a b c d e f g h i j k m n o p q r s t u v w x y z A B C D E F G H I J K L M : AV, let l := lc_shift_ok a b c d e f g h i j k m n o p q r s t u v w; trim ((12,M)::(81,L)::(80,K)::(79,J)::(78,I)::(77,H)::(76,G)::(75,F)::(74,E)::(73,D)::(72,C)::(71,B)::(70,A)::(69,z)::(68,y)::(67,x)::l) l = [(0,a),(1,b),(4,c),(5,d),(6,e),(7,f),(9,g),(10,h),(11,i),(12,M),(13,k),(17,m),(24,n),(25,o),(26,p),(27,q),(28,r),(32,s),(52,t),(61,u),(64,v),(65,w)] := by intros; rfl
         refine R_nil (tr ..) ?_; clear tr
         refine blk_n ?_
         refine then_n ?_
         refine rg rfl ?_
         refine Rq ?_
         refine Rq ?_
         have tr : ∀ a b c d e f g h i j k m n o p q r s t u v w x y : AV, let l := lc_shift_ok a b c d e f g h i j k m n o p q r s t u v w; trim ((64,y)::(82,x)::l) l = [(0,a),(1,b),(4,c),(5,d),(6,e),(7,f),(9,g),(10,h),(11,i),(12,j),(13,k),(17,m),(24,n),(25,o),(26,p),(27,q),(28,r),(32,s),(52,t),(61,u),(64,y),(65,w)] := by intros; rfl
         refine R_nil (tr ..) ?_; clear tr
         refine then_n ?_
         exact ⟨_, _, ⟨v + 1, (.own 3 H8.length 0 (((outL (finW d n)).take (2 * v)).length + 2)), _, _, rfl, rfl, by omega, by exact q7, by rw [outL_two (by omega)]; exact .inr ⟨by simp, H8.length, by simp, by omega, g9.new⟩⟩, by rfl, by omega⟩
        ·
         try simp only [decide_eq_true_eq, decide_eq_false_iff_not, Bool.not_eq_true', Bool.not_eq_false', beq_iff_eq, beq_eq_false_iff_ne, ne_eq] at h11
         refine at_exit rfl ?_
         refine then_x ?_
         refine then_x ?_
         refine blk_x ?_
         refine then_n ?_
         refine at_seq rfl ?_
         refine rg rfl ?_
         have e16 : ((outL (finW d n)).take (2 * v)) = outL (finW d n) := List.take_of_length_le (by rw [outL_len]; omega)
         rewrite [e16] at hO
         obtain ⟨h0, bo, rfl, hbo, qo⟩ := hO.resolve_left (fun hh => by have h7 := congrArg List.length hh.1; rw [outL_len] at h7; cases h7)
         rewrite [outL_len]
         refine Rq ?_
         refine Rcall ?_
         refine ACall_eq (norm_ok _ _ (finW d n) bo qo gF) ?_
         refine Rq ?_
         refine Rq ?_
         refine Rq ?_
         refine Rq ?_
         have tr : ∀ a b c d e f g h i j k m n o p q r s t u v w x y z A B C : AV, let l := lc_shift_ok a b c d e f g h i j k m n o p q r s t u v w; trim ((5,C)::(4,B)::(86,A)::(85,z)::(84,y)::(83,x)::l) l = [(0,a),(1,b),(4,B),(5,C),(6,e),(7,f),(9,g),(10,h),(11,i),(12,j),(13,k),(17,m),(24,n),(25,o),(26,p),(27,q),(28,r),(32,s),(52,t),(61,u),(64,v),(65,w)] := by intros; rfl
         refine R_nil (tr ..) ?_; clear tr
         refine then_n ?_
         refine at_ret rfl ?_
         first | (refine fpure ?_; refine ⟨?_, rfl⟩; exact congrArg (fun z => AV.tup [z, AV.i 0]) (frz_stops _ _ _ _))
     ·
      try simp only [decide_eq_true_eq, decide_eq_false_iff_not, Bool.not_eq_true', Bool.not_eq_false', beq_iff_eq, beq_eq_false_iff_ne, ne_eq] at h6
      refine Rn ?_
      refine Rn ?_
      refine Rq ?_
      have tr : ∀ a b c d e f g h i j k m n o p q r s t u v w x y z A B C D : AV, let l := lc_shift_ok a b c d e f g h i j k m n o p q r s t u v w; trim ((52,D)::(51,C)::(50,B)::(49,A)::(48,z)::(47,y)::(46,x)::l) l = [(0,a),(1,b),(4,c),(5,d),(6,e),(7,f),(9,g),(10,h),(11,i),(12,j),(13,k),(17,m),(24,n),(25,o),(26,p),(27,q),(28,r),(32,s),(52,D),(61,u),(64,v),(65,w)] := by intros; rfl
      refine R_nil (tr ..) ?_; clear tr
      refine then_n ?_
      refine cdf ?_
      refine at_exit rfl ?_
      refine then_x ?_
      refine then_x ?_
      refine blk_x ?_
      refine then_n ?_
      refine at_seq rfl ?_
      refine at_seq rfl ?_
      refine rg rfl ?_
      have q7 := q7.trans (congrArg (fun z => some (wC z)) (show hst (wv d) i = hst (wv d) n.toNat by rw [show i = n.toNat by omega]))
      refine Rq ?_
      have tr : ∀ a b c d e f g h i j k m n o p q r s t u v w x : AV, let l := lc_shift_ok a b c d e f g h i j k m n o p q r s t u v w; trim ((11,x)::l) l = [(0,a),(1,b),(4,c),(5,d),(6,e),(7,f),(9,g),(10,h),(11,x),(12,j),(13,k),(17,m),(24,n),(25,o),(26,p),(27,q),(28,r),(32,s),(52,t),(61,u),(64,v),(65,w)] := by intros; rfl
      refine R_nil (tr ..) ?_; clear tr
      refine then_n ?_
      refine at_block rfl ?_
      refine loop_n rfl (fun mm kv H' => ∃ j : Nat, ∃ x61 : AV, (kv = [(11, AV.i j), (61, x61)]) ∧ (mm = (-n).toNat - j) ∧ (j ≤ (-n).toNat) ∧ (hget H' H.length = some (wC (est (hst (wv d) n.toNat) j)))) ⟨0, _, rfl, rfl, by omega, by exact q7⟩ (by rfl) ?_
      rintro mm kv HN ⟨j, x61, rfl, rfl, hj, q7⟩
      have tr : ∀ a b c d e f g h i j k m n o p q r s t u v w x y : AV, upd [(0,a),(1,b),(4,c),(5,d),(6,e),(7,f),(9,g),(10,h),(11,i),(12,j),(13,k),(17,m),(24,n),(25,o),(26,p),(27,q),(28,r),(32,s),(52,t),(61,u),(64,v),(65,w)] [(11,x),(61,y)] = [(0,a),(1,b),(4,c),(5,d),(6,e),(7,f),(9,g),(10,h),(11,x),(12,j),(13,k),(17,m),(24,n),(25,o),(26,p),(27,q),(28,r),(32,s),(52,t),(61,y),(64,v),(65,w)] := by intros; rfl
      refine W_to (tr ..) ?_; clear tr
      have lq7 := hget_lt q7
      refine at_seq rfl ?_
      refine at_seq rfl ?_
      refine rg rfl ?_
      refine Rq ?_
      refine Rq ?_
      refine Rq ?_
      refine Rq ?_
      refine Rq ?_
      refine Rp_split (fun h12 => ?_) (fun h12 => ?_)
      ·
       try simp only [decide_eq_true_eq, decide_eq_false_iff_not, Bool.not_eq_true', Bool.not_eq_false', beq_iff_eq, beq_eq_false_iff_ne, ne_eq] at h12
       refine Ry ?_
       refine Rcall ?_
       refine ACall_mono (easier_ok _ _ (est (hst (wv d) n.toNat) j) H.length q7 (by omega) (est_gd (hst_gd gW _) j)) ?_
       rintro r H6 ⟨rfl, hq, hlen6, hold6⟩
       have q7 : hget H6 H.length = some (wC (est (hst (wv d) n.toNat) (j + 1))) := hq
       refine Rq ?_
       have tr : ∀ a b c d e f g h i j k m n o p q r s t u v w x y z A B C D : AV, let l := lc_shift_ok a b c d e f g h i j k m n o p q r s t u v w; trim ((61,D)::(60,C)::(59,B)::(58,A)::(57,z)::(56,y)::(55,x)::l) l = [(0,a),(1,b),(4,c),(5,d),(6,e),(7,f),(9,g),(10,h),(11,i),(12,j),(13,k),(17,m),(24,n),(25,o),(26,p),(27,q),(28,r),(32,s),(52,t),(61,D),(64,v),(65,w)] := by intros; rfl
       refine R_nil (tr ..) ?_; clear tr
       refine then_n ?_
       refine cdd (fun h13 => ?_) (fun h13 => ?_)
       ·
        try simp only [decide_eq_true_eq, decide_eq_false_iff_not, Bool.not_eq_true', Bool.not_eq_false', beq_iff_eq, beq_eq_false_iff_ne, ne_eq] at h13
        refine at_skip rfl ?_
        refine then_n ?_
        refine at_seq rfl ?_
        refine at_block rfl ?_
        refine at_skip rfl ?_
        refine blk_n ?_
        refine then_n ?_
        refine rg rfl ?_
        refine Rq ?_
        refine Rq ?_
        refine Rq ?_
        have tr : ∀ a b c d e f g h i j k m n o p q r s t u v w x y z : AV, let l := lc_shift_ok a b c d e f g h i j k m n o p q r s t u v w; trim ((11,z)::(63,y)::(62,x)::l) l = [(0,a),(1,b),(4,c),(5,d),(6,e),(7,f),(9,g),(10,h),(11,z),(12,j),(13,k),(17,m),(24,n),(25,o),(26,p),(27,q),(28,r),(32,s),(52,t),(61,u),(64,v),(65,w)] := by intros; rfl
        refine R_nil (tr ..) ?_; clear tr
        refine then_n ?_
        exact ⟨_, _, ⟨j + 1, _, rfl, rfl, by omega, by exact q7⟩, by rfl, by omega⟩
       ·
        try simp only [decide_eq_true_eq, decide_eq_false_iff_not, Bool.not_eq_true', Bool.not_eq_false', beq_iff_eq, beq_eq_false_iff_ne, ne_eq] at h13
        refine at_exit rfl ?_
        refine then_x ?_
        refine then_x ?_
        refine blk_x ?_
        refine then_n ?_
        refine at_seq rfl ?_
        refine rg rfl ?_
        have q7 := q7.trans (congrArg (fun z => some (wC z)) (show est (hst (wv d) n.toNat) (j + 1) = (finW d n) from est_e1 (by first | assumption | simp_all) (by omega)))
        have gF := fin_gd gl n
        have glen := gF.len
        refine Rq ?_
        have tr : ∀ a b c d e f g h i j k m n o p q r s t u v w x : AV, let l := lc_shift_ok a b c d e f g h i j k m n o p q r s t u v w; trim ((12,x)::l) l = [(0,a),(1,b),(4,c),(5,d),(6,e),(7,f),(9,g),(10,h),(11,i),(12,x),(13,k),(17,m),(24,n),(25,o),(26,p),(27,q),(28,r),(32,s),(52,t),(61,u),(64,v),(65,w)] := by intros; rfl
        refine R_nil (tr ..) ?_; clear tr
        refine then_n ?_
        refine at_seq rfl ?_
        refine at_seq rfl ?_
        refine rg rfl ?_
        refine Rq ?_
        have tr : ∀ a b c d e f g h i j k m n o p q r s t u v w x : AV, let l := lc_shift_ok a b c d e f g h i j k m n o p q r s t u v w; trim ((64,x)::l) l = [(0,a),(1,b),(4,c),(5,d),(6,e),(7,f),(9,g),(10,h),(11,i),(12,j),(13,k),(17,m),(24,n),(25,o),(26,p),(27,q),(28,r),(32,s),(52,t),(61,u),(64,x),(65,w)] := by intros; rfl
        refine R_nil (tr ..) ?_; clear tr
        refine then_n ?_
        refine at_block rfl ?_
        refine loop_n rfl (fun mm kv H' => ∃ v : Nat, ∃ o : AV, ∃ x13 x65 : AV, (kv = [(12, o), (13, x13), (64, AV.i v), (65, x65)]) ∧ (mm = 8 - v) ∧ (v ≤ 8) ∧ (hget H' H.length = some (wC (finW d n))) ∧ (OutO (H.length + 1) H' o ((outL (finW d n)).take (2 * v)))) ⟨0, nilO, _, _, rfl, rfl, by omega, by exact q7, by exact .inl ⟨rfl, rfl⟩⟩ (by rfl) ?_
        rintro mm kv HP ⟨v, o, x13, x65, rfl, rfl, hv, q7, hO⟩
        have tr : ∀ a b c d e f g h i j k m n o p q r s t u v w x y z A : AV, upd [(0,a),(1,b),(4,c),(5,d),(6,e),(7,f),(9,g),(10,h),(11,i),(12,j),(13,k),(17,m),(24,n),(25,o),(26,p),(27,q),(28,r),(32,s),(52,t),(61,u),(64,v),(65,w)] [(12,x),(13,y),(64,z),(65,A)] = [(0,a),(1,b),(4,c),(5,d),(6,e),(7,f),(9,g),(10,h),(11,i),(12,x),(13,y),(17,m),(24,n),(25,o),(26,p),(27,q),(28,r),(32,s),(52,t),(61,u),(64,z),(65,A)] := by intros; rfl
        refine W_to (tr ..) ?_; clear tr
        have lq7 := hget_lt q7
        have gv := fun hv8 : v < 8 => gF.le (i := v) (by omega)
        refine at_seq rfl ?_
        refine rg rfl ?_
        refine Rq ?_
        have tr : ∀ a b c d e f g h i j k m n o p q r s t u v w x : AV, let l := lc_shift_ok a b c d e f g h i j k m n o p q r s t u v w; trim ((65,x)::l) l = [(0,a),(1,b),(4,c),(5,d),(6,e),(7,f),(9,g),(10,h),(11,i),(12,j),(13,k),(17,m),(24,n),(25,o),(26,p),(27,q),(28,r),(32,s),(52,t),(61,u),(64,v),(65,x)] := by intros; rfl
        refine R_nil (tr ..) ?_; clear tr
        refine then_n ?_
        refine at_seq rfl ?_
        refine cdd (fun h14 => ?_) (fun h14 => ?_)
        ·
         try simp only [decide_eq_true_eq, decide_eq_false_iff_not, Bool.not_eq_true', Bool.not_eq_false', beq_iff_eq, beq_eq_false_iff_ne, ne_eq] at h14
         refine at_skip rfl ?_
         refine then_n ?_
         refine at_seq rfl ?_
         refine at_block rfl ?_
         refine at_seq rfl ?_
         refine rg rfl ?_
         refine Rq ?_
         refine Rq ?_
         have tr : ∀ a b c d e f g h i j k m n o p q r s t u v w x y : AV, let l := lc_shift_ok a b c d e f g h i j k m n o p q r s t u v w; trim ((13,y)::(66,x)::l) l = [(0,a),(1,b),(4,c),(5,d),(6,e),(7,f),(9,g),(10,h),(11,i),(12,j),(13,y),(17,m),(24,n),(25,o),(26,p),(27,q),(28,r),(32,s),(52,t),(61,u),(64,v),(65,w)] := by intros; rfl
         refine R_nil (tr ..) ?_; clear tr
         refine then_n ?_
         refine rl rfl rfl ?_
         refine Lq ?_
         refine Lq ?_
         refine Lq ?_
         refine Lq ?_
         refine Lq ?_
         refine L_q (r := AV.i (gt (finW d n) v)) rfl (by simp (disch := first | omega | (simp only [List.length_map, List.length_append, List.length_set, List.length_cons, List.length_nil]; omega)) only [go_sem, ↓reduceIte, Nat.reduceEqDiff, reduceCtorEq, q7] <;> first | rfl | exact wC_at _ _ (by omega)) rfl ?_
         refine L_q (r := .agg (ocC ⟨(v : Int), false, gt (finW d n) v⟩)) rfl (by simp (disch := first | omega | (simp only [List.length_map, List.length_append, List.length_set, List.length_cons, List.length_nil]; omega)) only [go_sem, ↓reduceIte, Nat.reduceEqDiff, reduceCtorEq] <;> exact bld68a _ _) rfl ?_
         refine Lq ?_
         refine Lq ?_
         refine Lq ?_
         refine Lq ?_
         refine L_q (r := AV.i (gt (finW d n) (8 + v))) rfl (by simp (disch := first | omega | (simp only [List.length_map, List.length_append, List.length_set, List.length_cons, List.length_nil]; omega)) only [go_sem, ↓reduceIte, Nat.reduceEqDiff, reduceCtorEq, q7] <;> first | rfl | exact wC_at _ _ (by omega)) rfl ?_
         refine L_q (r := .agg (ocC ⟨(v : Int), true, gt (finW d n) (8 + v)⟩)) rfl (by simp (disch := first | omega | (simp only [List.length_map, List.length_append, List.length_set, List.length_cons, List.length_nil]; omega)) only [go_sem, ↓reduceIte, Nat.reduceEqDiff, reduceCtorEq] <;> exact bld68 _ _ _) rfl ?_
         refine L_nil ?_
         refine Ms ?_
         refine A_buildSlice (bs29two _ _ _ _ _ ⟨(v : Int), false, gt (finW d n) v⟩ ⟨(v : Int), true, gt (finW d n) (8 + v)⟩ (by simp (disch := first | omega | (simp only [List.length_map, List.length_append, List.length_set, List.length_cons, List.length_nil]; omega)) only [go_sem, ↓reduceIte, Nat.reduceEqDiff, reduceCtorEq] <;> rfl) (by simp (disch := first | omega | (simp only [List.length_map, List.length_append, List.length_set, List.length_cons, List.length_nil]; omega)) only [go_sem, ↓reduceIte, Nat.reduceEqDiff, reduceCtorEq] <;> rfl)) ?_
         intro H8 n8
         have en8 := n8.len
         have q7 := (n8.old _ (hget_lt q7)).trans q7
         have qn := n8.new
         have hO := hO.mono fun b hb k hk => (n8.old _ (hget_lt hk)).trans hk
         refine R_end ?_
         refine M_nil ?_
         have lq7 := hget_lt q7
         obtain ⟨b8, hb8, H9, hap, hgr, hold9, hwh⟩ := outO_appG (lim := H.length) (m := 2) (u := [⟨(v : Int), false, gt (finW d n) v⟩, ⟨(v : Int), true, gt (finW d n) (8 + v)⟩]) hO (src_own (l := [⟨(v : Int), false, gt (finW d n) v⟩, ⟨(v : Int), true, gt (finW d n) (8 + v)⟩]) qn rfl) (by omega) (by omega) (by omega) (by have := List.length_take_le (2 * v) (outL (finW d n)); omega)
         refine A_append ⟨H9, by simp (disch := first | omega | (simp only [List.length_map, List.length_append, List.length_set, List.length_cons, List.length_nil]; omega)) only [go_sem, ↓reduceIte, Nat.reduceEqDiff, reduceCtorEq]; exact hap, hgr⟩ ?_
         intro H10 g9
         have eg9 := g9.len
         have q7 := (g9.old _ (by omega) (by omega)).trans q7
         refine Rq ?_
         have tr : ∀ a b c d e f g h i j k m n o p q r s t u v w x y z A B C D E F G H I J K L M : AV, let l := lc_shift_ok a b c d e f g h i j k m n o p q r s t u v w; trim ((12,M)::(81,L)::(80,K)::(79,J)::(78,I)::(77,H)::(76,G)::(75,F)::(74,E)::(73,D)::(72,C)::(71,B)::(70,A)::(69,z)::(68,y)::(67,x)::l) l = [(0,a),(1,b),(4,c),(5,d),(6,e),(7,f),(9,g),(10,h),(11,i),(12,M),(13,k),(17,m),(24,n),(25,o),(26,p),(27,q),(28,r),(32,s),(52,t),(61,u),(64,v),(65,w)] := by intros; rfl
         refine R_nil (tr ..) ?_; clear tr
         refine blk_n ?_
         refine then_n ?_
         refine rg rfl ?_
         refine Rq ?_
         refine Rq ?_
         have tr : ∀ a b c d e f g h i j k m n o p q r s t u v w x y : AV, let l := lc_shift_ok a b c d e f g h i j k m n o p q r s t u v w; trim ((64,y)::(82,x)::l) l = [(0,a),(1,b),(4,c),(5,d),(6,e),(7,f),(9,g),(10,h),(11,i),(12,j),(13,k),(17,m),(24,n),(25,o),(26,p),(27,q),(28,r),(32,s),(52,t),(61,u),(64,y),(65,w)] := by intros; rfl
         refine R_nil (tr ..) ?_; clear tr
         refine then_n ?_
         exact ⟨_, _, ⟨v + 1, (.own 3 H8.length 0 (((outL (finW d n)).take (2 * v)).length + 2)), _, _, rfl, rfl, by omega, by exact q7, by rw [outL_two (by omega)]; exact .inr ⟨by simp, H8.length, by simp, by omega, g9.new⟩⟩, by rfl, by omega⟩
        ·
         try simp only [decide_eq_true_eq, decide_eq_false_iff_not, Bool.not_eq_true', Bool.not_eq_false', beq_iff_eq, beq_eq_false_iff_ne, ne_eq] at h14
         refine at_exit rfl ?_
         refine then_x ?_
         refine then_x ?_
         refine blk_x ?_
         refine then_n ?_
         refine at_seq rfl ?_
         refine rg rfl ?_
         have e16 : ((outL (finW d n)).take (2 * v)) = outL (finW d n) := List.take_of_length_le (by rw [outL_len]; omega)
         rewrite [e16] at hO
         obtain ⟨h0, bo, rfl, hbo, qo⟩ := hO.resolve_left (fun hh => by have h7 := congrArg List.length hh.1; rw [outL_len] at h7; cases h7)
         rewrite [outL_len]
         refine Rq ?_
         refine Rcall ?_
         refine ACall_eq (norm_ok _ _ (finW d n) bo qo gF) ?_
         refine Rq ?_
         refine Rq ?_
         refine Rq ?_
         refine Rq ?_
         have tr : ∀ a b c d e f g h i j k m n o p q r s t u v w x y z A B C : AV, let l := lc_shift_ok a b c d e f g h i j k m n o p q r s t u v w; trim ((5,C)::(4,B)::(86,A)::(85,z)::(84,y)::(83,x)::l) l = [(0,a),(1,b),(4,B),(5,C),(6,e),(7,f),(9,g),(10,h),(11,i),(12,j),(13,k),(17,m),(24,n),(25,o),(26,p),(27,q),(28,r),(32,s),(52,t),(61,u),(64,v),(65,w)] := by intros; rfl
         refine R_nil (tr ..) ?_; clear tr
         refine then_n ?_
         refine at_ret rfl ?_
         first | (refine fpure ?_; refine ⟨?_, rfl⟩; exact congrArg (fun z => AV.tup [z, AV.i 0]) (frz_stops _ _ _ _))
      ·
       try simp only [decide_eq_true_eq, decide_eq_false_iff_not, Bool.not_eq_true', Bool.not_eq_false', beq_iff_eq, beq_eq_false_iff_ne, ne_eq] at h12
       refine Rn ?_
       refine Rq ?_
       have tr : ∀ a b c d e f g h i j k m n o p q r s t u v w x y z A B C D : AV, let l := lc_shift_ok a b c d e f g h i j k m n o p q r s t u v w; trim ((61,D)::(60,C)::(59,B)::(58,A)::(57,z)::(56,y)::(55,x)::l) l = [(0,a),(1,b),(4,c),(5,d),(6,e),(7,f),(9,g),(10,h),(11,i),(12,j),(13,k),(17,m),(24,n),(25,o),(26,p),(27,q),(28,r),(32,s),(52,t),(61,D),(64,v),(65,w)] := by intros; rfl
       refine R_nil (tr ..) ?_; clear tr
       refine then_n ?_
       refine cdf ?_
       refine at_exit rfl ?_
       refine then_x ?_
       refine then_x ?_
       refine blk_x ?_
       refine then_n ?_
       refine at_seq rfl ?_
       refine rg rfl ?_
       have q7 := q7.trans (congrArg (fun z => some (wC z)) (show est (hst (wv d) n.toNat) j = (finW d n) by rw [show j = (-n).toNat by omega]; rfl))
       have gF := fin_gd gl n
       have glen := gF.len
       refine Rq ?_
       have tr : ∀ a b c d e f g h i j k m n o p q r s t u v w x : AV, let l := lc_shift_ok a b c d e f g h i j k m n o p q r s t u v w; trim ((12,x)::l) l = [(0,a),(1,b),(4,c),(5,d),(6,e),(7,f),(9,g),(10,h),(11,i),(12,x),(13,k),(17,m),(24,n),(25,o),(26,p),(27,q),(28,r),(32,s),(52,t),(61,u),(64,v),(65,w)] := by intros; rfl
       refine R_nil (tr ..) ?_; clear tr
       refine then_n ?_
       refine at_seq rfl ?_
       refine at_seq rfl ?_
       refine rg rfl ?_
       refine Rq ?_
       have tr : ∀ a b c d e f g h i j k m n o p q r s t u v w x : AV, let l := lc_shift_ok a b c d e f g h i j k m n o p q r s t u v w; trim ((64,x)::l) l = [(0,a),(1,b),(4,c),(5,d),(6,e),(7,f),(9,g),(10,h),(11,i),(12,j),(13,k),(17,m),(24,n),(25,o),(26,p),(27,q),(28,r),(32,s),(52,t),(61,u),(64,x),(65,w)] := by intros; rfl
       refine R_nil (tr ..) ?_; clear tr
       refine then_n ?_
       refine at_block rfl ?_
       refine loop_n rfl (fun mm kv H' => ∃ v : Nat, ∃ o : AV, ∃ x13 x65 : AV, (kv = [(12, o), (13, x13), (64, AV.i v), (65, x65)]) ∧ (mm = 8 - v) ∧ (v ≤ 8) ∧ (hget H' H.length = some (wC (finW d n))) ∧ (OutO (H.length + 1) H' o ((outL (finW d n)).take (2 * v)))) ⟨0, nilO, _, _, rfl, rfl, by omega, by exact q7, by exact .inl ⟨rfl, rfl⟩⟩ (by rfl) ?_
       rintro mm kv HP ⟨v, o, x13, x65, rfl, rfl, hv, q7, hO⟩
       have tr : ∀ a b c d e f g h i j k m n o p q r s t u v w x y z A : AV, upd [(0,a),(1,b),(4,c),(5,d),(6,e),(7,f),(9,g),(10,h),(11,i),(12,j),(13,k),(17,m),(24,n),(25,o),(26,p),(27,q),(28,r),(32,s),(52,t),(61,u),(64,v),(65,w)] [(12,x),(13,y),(64,z),(65,A)] = [(0,a),(1,b),(4,c),(5,d),(6,e),(7,f),(9,g),(10,h),(11,i),(12,x),(13,y),(17,m),(24,n),(25,o),(26,p),(27,q),(28,r),(32,s),(52,t),(61,u),(64,z),(65,A)] := by intros; rfl
       refine W_to (tr ..) ?_; clear tr
       have lq7 := hget_lt q7
       have gv := fun hv8 : v < 8 => gF.le (i := v) (by omega)
       refine at_seq rfl ?_
       refine rg rfl ?_
       refine Rq ?_
       have tr : ∀ a b c d e f g h i j k m n o p q r s t u v w x : AV, let l := lc_shift_ok a b c d e f g h i j k m n o p q r s t u v w; trim ((65,x)::l) l = [(0,a),(1,b),(4,c),(5,d),(6,e),(7,f),(9,g),(10,h),(11,i),(12,j),(13,k),(17,m),(24,n),(25,o),(26,p),(27,q),(28,r),(32,s),(52,t),(61,u),(64,v),(65,x)] := by intros; rfl
       refine R_nil (tr ..) ?_; clear tr
       refine then_n ?_
       refine at_seq rfl ?_
       refine cdd (fun h15 => ?_) (fun h15 => ?_)
       ·
        try simp only [decide_eq_true_eq, decide_eq_false_iff_not, Bool.not_eq_true', Bool.not_eq_false', beq_iff_eq, beq_eq_false_iff_ne, ne_eq] at h15
        refine at_skip rfl ?_
        refine then_n ?_
        refine at_seq rfl ?_
        refine at_block rfl ?_
        refine at_seq rfl ?_
        refine rg rfl ?_
        refine Rq ?_
        refine Rq ?_
        have tr : ∀ a b c d e f g h i j k m n o p q r s t u v w x y : AV, let l := lc_shift_ok a b c d e f g h i j k m n o p q r s t u v w; trim ((13,y)::(66,x)::l) l = [(0,a),(1,b),(4,c),(5,d),(6,e),(7,f),(9,g),(10,h),(11,i),(12,j),(13,y),(17,m),(24,n),(25,o),(26,p),(27,q),(28,r),(32,s),(52,t),(61,u),(64,v),(65,w)] := by intros; rfl
        refine R_nil (tr ..) ?_; clear tr
        refine then_n ?_
        refine rl rfl rfl ?_
        refine Lq ?_
        refine Lq ?_
        refine Lq ?_
        refine Lq ?_
        refine Lq ?_
        refine L_q (r := AV.i (gt (finW d n) v)) rfl (by simp (disch := first | omega | (simp only [List.length_map, List.length_append, List.length_set, List.length_cons, List.length_nil]; omega)) only [go_sem, ↓reduceIte, Nat.reduceEqDiff, reduceCtorEq, q7] <;> first | rfl | exact wC_at _ _ (by omega)) rfl ?_
        refine L_q (r := .agg (ocC ⟨(v : Int), false, gt (finW d n) v⟩)) rfl (by simp (disch := first | omega | (simp only [List.length_map, List.length_append, List.length_set, List.length_cons, List.length_nil]; omega)) only [go_sem, ↓reduceIte, Nat.reduceEqDiff, reduceCtorEq] <;> exact bld68a _ _) rfl ?_
        refine Lq ?_
        refine Lq ?_
        refine Lq ?_
        refine Lq ?_
        refine L_q (r := AV.i (gt (finW d n) (8 + v))) rfl (by simp (disch := first | omega | (simp only [List.length_map, List.length_append, List.length_set, List.length_cons, List.length_nil]; omega)) only [go_sem, ↓reduceIte, Nat.reduceEqDiff, reduceCtorEq, q7] <;> first | rfl | exact wC_at _ _ (by omega)) rfl ?_
        refine L_q (r := .agg (ocC ⟨(v : Int), true, gt (finW d n) (8 + v)⟩)) rfl (by simp (disch := first | omega | (simp only [List.length_map, List.length_append, List.length_set, List.length_cons, List.length_nil]; omega)) only [go_sem, ↓reduceIte, Nat.reduceEqDiff, reduceCtorEq] <;> exact bld68 _ _ _) rfl ?_
        refine L_nil ?_
        refine Ms ?_
        refine A_buildSlice (bs29two _ _ _ _ _ ⟨(v : Int), false, gt (finW d n) v⟩ ⟨(v : Int), true, gt (finW d n) (8 + v)⟩ (by simp (disch := first | omega | (simp only [List.length_map, List.length_append, List.length_set, List.length_cons, List.length_nil]; omega)) only [go_sem, ↓reduceIte, Nat.reduceEqDiff, reduceCtorEq] <;> rfl) (by simp (disch := first | omega | (simp only [List.length_map, List.length_append, List.length_set, List.length_cons, List.length_nil]; omega)) only [go_sem, ↓reduceIte, Nat.reduceEqDiff, reduceCtorEq] <;> rfl)) ?_
        intro H8 n8
        have en8 := n8.len
        have q7 := (n8.old _ (hget_lt q7)).trans q7
        have qn := n8.new
        have hO := hO.mono fun b hb k hk => (n8.old _ (hget_lt hk)).trans hk
        refine R_end ?_
        refine M_nil ?_
        have lq7 := hget_lt q7
        obtain ⟨b8, hb8, H9, hap, hgr, hold9, hwh⟩ := outO_appG (lim := H.length) (m := 2) (u := [⟨(v : Int), false, gt (finW d n) v⟩, ⟨(v : Int), true, gt (finW d n) (8 + v)⟩]) hO (src_own (l := [⟨(v : Int), false, gt (finW d n) v⟩, ⟨(v : Int), true, gt (finW d n) (8 + v)⟩]) qn rfl) (by omega) (by omega) (by omega) (by have := List.length_take_le (2 * v) (outL (finW d n)); omega)
        refine A_append ⟨H9, by simp (disch := first | omega | (simp only [List.length_map, List.length_append, List.length_set, List.length_cons, List.length_nil]; omega)) only [go_sem, ↓reduceIte, Nat.reduceEqDiff, reduceCtorEq]; exact hap, hgr⟩ ?_
        intro H10 g9
        have eg9 := g9.len
        have q7 := (g9.old _ (by omega) (by omega)).trans q7
        refine Rq ?_
        have tr : ∀ a b c d e f g h i j k m n o p q r s t u v w x y z A B C D E F G H I J K L M : AV, let l := lc_shift_ok a b c d e f g h i j k m n o p q r s t u v w; trim ((12,M)::(81,L)::(80,K)::(79,J)::(78,I)::(77,H)::(76,G)::(75,F)::(74,E)::(73,D)::(72,C)::(71,B)::(70,A)::(69,z)::(68,y)::(67,x)::l) l = [(0,a),(1,b),(4,c),(5,d),(6,e),(7,f),(9,g),(10,h),(11,i),(12,M),(13,k),(17,m),(24,n),(25,o),(26,p),(27,q),(28,r),(32,s),(52,t),(61,u),(64,v),(65,w)] := by intros; rfl
        refine R_nil (tr ..) ?_; clear tr
        refine blk_n ?_
        refine then_n ?_
        refine rg rfl ?_
        refine Rq ?_
        refine Rq ?_
        have tr : ∀ a b c d e f g h i j k m n o p q r s t u v w x y : AV, let l := lc_shift_ok a b c d e f g h i j k m n o p q r s t u v w; trim ((64,y)::(82,x)::l) l = [(0,a),(1,b),(4,c),(5,d),(6,e),(7,f),(9,g),(10,h),(11,i),(12,j),(13,k),(17,m),(24,n),(25,o),(26,p),(27,q),(28,r),(32,s),(52,t),(61,u),(64,y),(65,w)] := by intros; rfl
        refine R_nil (tr ..) ?_; clear tr
        refine then_n ?_
        exact ⟨_, _, ⟨v + 1, (.own 3 H8.length 0 (((outL (finW d n)).take (2 * v)).length + 2)), _, _, rfl, rfl, by omega, by exact q7, by rw [outL_two (by omega)]; exact .inr ⟨by simp, H8.length, by simp, by omega, g9.new⟩⟩, by rfl, by omega⟩
       ·
        try simp only [decide_eq_true_eq, decide_eq_false_iff_not, Bool.not_eq_true', Bool.not_eq_false', beq_iff_eq, beq_eq_false_iff_ne, ne_eq] at h15
        refine at_exit rfl ?_
        refine then_x ?_
        refine then_x ?_
        refine blk_x ?_
        refine then_n ?_
        refine at_seq rfl ?_
        refine rg rfl ?_
        have e16 : ((outL (finW d n)).take (2 * v)) = outL (finW d n) := List.take_of_length_le (by rw [outL_len]; omega)
        rewrite [e16] at hO
        obtain ⟨h0, bo, rfl, hbo, qo⟩ := hO.resolve_left (fun hh => by have h7 := congrArg List.length hh.1; rw [outL_len] at h7; cases h7)
        rewrite [outL_len]
        refine Rq ?_
        refine Rcall ?_
        refine ACall_eq (norm_ok _ _ (finW d n) bo qo gF) ?_
        refine Rq ?_
        refine Rq ?_
        refine Rq ?_
        refine Rq ?_
        have tr : ∀ a b c d e f g h i j k m n o p q r s t u v w x y z A B C : AV, let l := lc_shift_ok a b c d e f g h i j k m n o p q r s t u v w; trim ((5,C)::(4,B)::(86,A)::(85,z)::(84,y)::(83,x)::l) l = [(0,a),(1,b),(4,B),(5,C),(6,e),(7,f),(9,g),(10,h),(11,i),(12,j),(13,k),(17,m),(24,n),(25,o),(26,p),(27,q),(28,r),(32,s),(52,t),(61,u),(64,v),(65,w)] := by intros; rfl
        refine R_nil (tr ..) ?_; clear tr
        refine then_n ?_
        refine at_ret rfl ?_
        first | (refine fpure ?_; refine ⟨?_, rfl⟩; exact congrArg (fun z => AV.tup [z, AV.i 0]) (frz_stops _ _ _ _))

end Go.Proofs.Ytplockpopmaejaa
end
