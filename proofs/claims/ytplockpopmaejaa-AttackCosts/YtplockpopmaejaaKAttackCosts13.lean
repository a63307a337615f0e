/-
  Texts of AttackCosts, part 14 of 17. Walks of chapters 46, 43 and 42. The steps are written by program (walk.py).
-/
import Derived.Test.YtplockpopmaejaaKAttackCosts8
import Derived.Test.YtplockpopmaejaaKAttackCosts12
import Derived.Test.YtplockpopmaejaaKAttackCosts9
import Derived.Test.YtplockpopmaejaaKAttackCosts11
import Derived.Test.YtplockpopmaejaaKAttackCosts6
section
set_option linter.unusedSimpArgs false
set_option linter.unusedVariables false
set_option maxHeartbeats 40000000
set_option maxRecDepth 4000
namespace Go.Proofs.Ytplockpopmaejaa
open Go Go.Am

abbrev lc_rshift_ok (a b c d e f g h i j k m n o p q : AV) : Env := [(0,a),(1,b),(4,c),(5,d),(6,e),(7,f),(8,g),(9,h),(10,i),(14,j),(21,k),(24,m),(30,n),(41,o),(47,p),(51,q)]
theorem rshift_ok (lim : Nat) (H : Heap) (d : List Oc) (n : Int) (hc : chkD d = 0) (hn1 : -12 ≤ n) (hn2 : n ≤ 12) :
    ACall sig lim 32 [ocsAV d, AV.i n] H fun r H' => r = .tup [ocsAV (shS d n), AV.i 0] ∧ H' = H := by
 refine ACall_pure (fa := fa32) rfl rfl rfl rfl ?_
 have tr : ∀ a0 a1 : AV, env0 fa32.keep [a0, a1] = [(0,a0),(1,a1),(4,.any),(5,.any),(6,.any),(7,.any),(8,.any),(9,.any),(10,.any),(14,.any),(21,.any),(24,.any),(30,.any),(41,.any),(47,.any),(51,.any)] := fun a0 a1 => rfl
 refine W_to (tr _ _) ?_; clear tr
 refine at_seq rfl ?_
 refine rg rfl ?_
 refine Rq ?_
 refine Rq ?_
 have tr : ∀ a b c d e f g h i j k m n o p q r s : AV, let l := lc_rshift_ok a b c d e f g h i j k m n o p q; trim ((5,s)::(4,r)::l) l = [(0,a),(1,b),(4,r),(5,s),(6,e),(7,f),(8,g),(9,h),(10,i),(14,j),(21,k),(24,m),(30,n),(41,o),(47,p),(51,q)] := by intros; rfl
 refine R_nil (tr ..) ?_; clear tr
 refine then_n ?_
 refine at_seq rfl ?_
 refine at_seq rfl ?_
 refine rg rfl ?_
 refine Rq ?_
 refine Rcall ?_
 refine ACall_eq (chk30 _ _ d) ?_
 refine Rq ?_
 have tr : ∀ a b c d e f g h i j k m n o p q r s t : AV, let l := lc_rshift_ok a b c d e f g h i j k m n o p q; trim ((6,t)::(12,s)::(11,r)::l) l = [(0,a),(1,b),(4,c),(5,d),(6,t),(7,f),(8,g),(9,h),(10,i),(14,j),(21,k),(24,m),(30,n),(41,o),(47,p),(51,q)] := by intros; rfl
 refine R_nil (tr ..) ?_; clear tr
 refine then_n ?_
 refine at_seq rfl ?_
 refine rg rfl ?_
 refine Rq ?_
 refine Rq ?_
 have tr : ∀ a b c d e f g h i j k m n o p q r s : AV, let l := lc_rshift_ok a b c d e f g h i j k m n o p q; trim ((14,s)::(13,r)::l) l = [(0,a),(1,b),(4,c),(5,d),(6,e),(7,f),(8,g),(9,h),(10,i),(14,s),(21,k),(24,m),(30,n),(41,o),(47,p),(51,q)] := by intros; rfl
 refine R_nil (tr ..) ?_; clear tr
 refine then_n ?_
 refine cdd (fun h1 => ?_) (fun h1 => ?_)
 ·
  try simp only [decide_eq_true_eq, decide_eq_false_iff_not, Bool.not_eq_true', Bool.not_eq_false', beq_iff_eq, beq_eq_false_iff_ne, ne_eq] at h1
  first | exact absurd hc (by assumption) | omega
 ·
  try simp only [decide_eq_true_eq, decide_eq_false_iff_not, Bool.not_eq_true', Bool.not_eq_false', beq_iff_eq, beq_eq_false_iff_ne, ne_eq] at h1
  refine at_skip rfl ?_
  refine then_n ?_
  refine at_seq rfl ?_
  refine at_seq rfl ?_
  refine rg rfl ?_
  refine Rq ?_
  refine Rq ?_
  refine Rq ?_
  refine Rp_split (fun h2 => ?_) (fun h2 => ?_)
  ·
   try simp only [decide_eq_true_eq, decide_eq_false_iff_not, Bool.not_eq_true', Bool.not_eq_false', beq_iff_eq, beq_eq_false_iff_ne, ne_eq] at h2
   omega
  ·
   try simp only [decide_eq_true_eq, decide_eq_false_iff_not, Bool.not_eq_true', Bool.not_eq_false', beq_iff_eq, beq_eq_false_iff_ne, ne_eq] at h2
   refine Ry ?_
   refine Rq ?_
   refine Ry ?_
   refine Rq ?_
   refine Rq ?_
   have tr : ∀ a b c d e f g h i j k m n o p q r s t u v w : AV, let l := lc_rshift_ok a b c d e f g h i j k m n o p q; trim ((21,w)::(20,v)::(19,u)::(18,t)::(17,s)::(16,r)::l) l = [(0,a),(1,b),(4,c),(5,d),(6,e),(7,f),(8,g),(9,h),(10,i),(14,j),(21,w),(24,m),(30,n),(41,o),(47,p),(51,q)] := by intros; rfl
   refine R_nil (tr ..) ?_; clear tr
   refine then_n ?_
   refine cdd (fun h3 => ?_) (fun h3 => ?_)
   ·
    try simp only [decide_eq_true_eq, decide_eq_false_iff_not, Bool.not_eq_true', Bool.not_eq_false', beq_iff_eq, beq_eq_false_iff_ne, ne_eq] at h3
    omega
   ·
    try simp only [decide_eq_true_eq, decide_eq_false_iff_not, Bool.not_eq_true', Bool.not_eq_false', beq_iff_eq, beq_eq_false_iff_ne, ne_eq] at h3
    refine at_skip rfl ?_
    refine then_n ?_
    refine at_seq rfl ?_
    refine at_seq rfl ?_
    refine rg rfl ?_
    have gl := gl_chk hc
    have hd16 := (chkD_of hc).2.1
    refine Rq ?_
    have tr : ∀ a b c d e f g h i j k m n o p q r : AV, let l := lc_rshift_ok a b c d e f g h i j k m n o p q; trim ((7,r)::l) l = [(0,a),(1,b),(4,c),(5,d),(6,e),(7,r),(8,g),(9,h),(10,i),(14,j),(21,k),(24,m),(30,n),(41,o),(47,p),(51,q)] := by intros; rfl
    refine R_nil (tr ..) ?_; clear tr
    refine then_n ?_
    refine at_block rfl ?_
    refine loop_n rfl (fun mm kv H' => ∃ k : Nat, ∃ e : List Oc, ∃ x8 x24 x30 : AV, (kv = [(0, ocsAV e), (7, AV.i k), (8, x8), (24, x24), (30, x30)]) ∧ (mm = n.toNat - k) ∧ (H = H') ∧ (k ≤ n.toNat) ∧ (e = rst d k)) ⟨0, d, _, _, _, rfl, rfl, by rfl, by omega, by rfl⟩ (by rfl) ?_
    rintro mm kv H1 ⟨k, e, x8, x24, x30, rfl, rfl, hH1, hk, he⟩
    have tr : ∀ a b c d e f g h i j k m n o p q r s t u v : AV, upd [(0,a),(1,b),(4,c),(5,d),(6,e),(7,f),(8,g),(9,h),(10,i),(14,j),(21,k),(24,m),(30,n),(41,o),(47,p),(51,q)] [(0,r),(7,s),(8,t),(24,u),(30,v)] = [(0,r),(1,b),(4,c),(5,d),(6,e),(7,s),(8,t),(9,h),(10,i),(14,j),(21,k),(24,u),(30,v),(41,o),(47,p),(51,q)] := by intros; rfl
    refine W_to (tr ..) ?_; clear tr
    subst hH1
    subst he
    obtain ⟨gk, wk, lk⟩ := rst_ok gl k
    have hbx := most_box (rst d k) (rst d k).length
    refine at_seq rfl ?_
    refine at_seq rfl ?_
    refine rg rfl ?_
    refine Rq ?_
    refine Rq ?_
    refine Rq ?_
    have tr : ∀ a b c d e f g h i j k m n o p q r s t : AV, let l := lc_rshift_ok a b c d e f g h i j k m n o p q; trim ((24,t)::(23,s)::(22,r)::l) l = [(0,a),(1,b),(4,c),(5,d),(6,e),(7,f),(8,g),(9,h),(10,i),(14,j),(21,k),(24,t),(30,n),(41,o),(47,p),(51,q)] := by intros; rfl
    refine R_nil (tr ..) ?_; clear tr
    refine then_n ?_
    refine cdd (fun h4 => ?_) (fun h4 => ?_)
    ·
     try simp only [decide_eq_true_eq, decide_eq_false_iff_not, Bool.not_eq_true', Bool.not_eq_false', beq_iff_eq, beq_eq_false_iff_ne, ne_eq] at h4
     refine at_skip rfl ?_
     refine then_n ?_
     refine at_seq rfl ?_
     refine at_block rfl ?_
     refine at_seq rfl ?_
     refine rg rfl ?_
     refine Rq ?_
     refine Rcall ?_
     refine ACall_eq (most_ok43 _ _ (rst d k) (by omega)) ?_
     refine Rq ?_
     have tr : ∀ a b c d e f g h i j k m n o p q r s t : AV, let l := lc_rshift_ok a b c d e f g h i j k m n o p q; trim ((8,t)::(28,s)::(27,r)::l) l = [(0,a),(1,b),(4,c),(5,d),(6,e),(7,f),(8,t),(9,h),(10,i),(14,j),(21,k),(24,m),(30,n),(41,o),(47,p),(51,q)] := by intros; rfl
     refine R_nil (tr ..) ?_; clear tr
     refine then_n ?_
     refine at_seq rfl ?_
     refine rg rfl ?_
     refine Rq ?_
     refine Rq ?_
     have tr : ∀ a b c d e f g h i j k m n o p q r s : AV, let l := lc_rshift_ok a b c d e f g h i j k m n o p q; trim ((30,s)::(29,r)::l) l = [(0,a),(1,b),(4,c),(5,d),(6,e),(7,f),(8,g),(9,h),(10,i),(14,j),(21,k),(24,m),(30,s),(41,o),(47,p),(51,q)] := by intros; rfl
     refine R_nil (tr ..) ?_; clear tr
     refine then_n ?_
     refine cdd (fun h5 => ?_) (fun h5 => ?_)
     ·
      try simp only [decide_eq_true_eq, decide_eq_false_iff_not, Bool.not_eq_true', Bool.not_eq_false', beq_iff_eq, beq_eq_false_iff_ne, ne_eq] at h5
      refine rg rfl ?_
      refine Rq ?_
      refine Rq ?_
      refine Rq ?_
      refine Rq ?_
      refine Rq ?_
      refine R_q (r := .agg (ocC ⟨0, decide ((k : Int).tmod 2 = 1), 0⟩)) rfl (by simp (disch := first | omega | (simp only [List.length_map, List.length_append, List.length_set, List.length_cons, List.length_nil]; omega)) only [go_sem, ↓reduceIte, Nat.reduceEqDiff, reduceCtorEq] <;> exact bld68c _) ?_
      refine Rcall ?_
      refine ACall_eq (move_ok _ _ (rst d k) _ ⟨0, decide ((k : Int).tmod 2 = 1), 0⟩ gk (by omega) (by omega) (by omega)) ?_
      refine Rq ?_
      have tr : ∀ a b c d e f g h i j k m n o p q r s t u v w x y : AV, let l := lc_rshift_ok a b c d e f g h i j k m n o p q; trim ((0,y)::(37,x)::(36,w)::(35,v)::(34,u)::(33,t)::(32,s)::(31,r)::l) l = [(0,y),(1,b),(4,c),(5,d),(6,e),(7,f),(8,g),(9,h),(10,i),(14,j),(21,k),(24,m),(30,n),(41,o),(47,p),(51,q)] := by intros; rfl
      refine R_nil (tr ..) ?_; clear tr
      refine blk_n ?_
      refine then_n ?_
      refine rg rfl ?_
      refine Rq ?_
      refine Rq ?_
      refine Rq ?_
      have tr : ∀ a b c d e f g h i j k m n o p q r s t : AV, let l := lc_rshift_ok a b c d e f g h i j k m n o p q; trim ((7,t)::(26,s)::(25,r)::l) l = [(0,a),(1,b),(4,c),(5,d),(6,e),(7,t),(8,g),(9,h),(10,i),(14,j),(21,k),(24,m),(30,n),(41,o),(47,p),(51,q)] := by intros; rfl
      refine R_nil (tr ..) ?_; clear tr
      refine then_n ?_
      exact ⟨_, _, ⟨k + 1, _, _, _, _, rfl, rfl, by rfl, by omega, by first | (rw [rst, rs1, if_pos (by assumption)]; done) | (rw [rst, rs1, if_neg (by assumption)]; done)⟩, by rfl, by omega⟩
     ·
      try simp only [decide_eq_true_eq, decide_eq_false_iff_not, Bool.not_eq_true', Bool.not_eq_false', beq_iff_eq, beq_eq_false_iff_ne, ne_eq] at h5
      refine at_skip rfl ?_
      refine blk_n ?_
      refine then_n ?_
      refine rg rfl ?_
      refine Rq ?_
      refine Rq ?_
      refine Rq ?_
      have tr : ∀ a b c d e f g h i j k m n o p q r s t : AV, let l := lc_rshift_ok a b c d e f g h i j k m n o p q; trim ((7,t)::(26,s)::(25,r)::l) l = [(0,a),(1,b),(4,c),(5,d),(6,e),(7,t),(8,g),(9,h),(10,i),(14,j),(21,k),(24,m),(30,n),(41,o),(47,p),(51,q)] := by intros; rfl
      refine R_nil (tr ..) ?_; clear tr
      refine then_n ?_
      exact ⟨_, _, ⟨k + 1, _, _, _, _, rfl, rfl, by rfl, by omega, by first | (rw [rst, rs1, if_pos (by assumption)]; done) | (rw [rst, rs1, if_neg (by assumption)]; done)⟩, by rfl, by omega⟩
    ·
     try simp only [decide_eq_true_eq, decide_eq_false_iff_not, Bool.not_eq_true', Bool.not_eq_false', beq_iff_eq, beq_eq_false_iff_ne, ne_eq] at h4
     refine at_exit rfl ?_
     refine then_x ?_
     refine then_x ?_
     refine blk_x ?_
     refine then_n ?_
     refine at_seq rfl ?_
     refine at_seq rfl ?_
     refine rg rfl ?_
     obtain ⟨g1, w1, l1⟩ := rst_ok gl n.toNat
     refine Rq ?_
     have tr : ∀ a b c d e f g h i j k m n o p q r : AV, let l := lc_rshift_ok a b c d e f g h i j k m n o p q; trim ((9,r)::l) l = [(0,a),(1,b),(4,c),(5,d),(6,e),(7,f),(8,g),(9,r),(10,i),(14,j),(21,k),(24,m),(30,n),(41,o),(47,p),(51,q)] := by intros; rfl
     refine R_nil (tr ..) ?_; clear tr
     refine then_n ?_
     refine at_block rfl ?_
     refine loop_n rfl (fun mm kv H' => ∃ j : Nat, ∃ e2 : List Oc, ∃ x10 x41 x47 x51 : AV, (kv = [(0, ocsAV e2), (9, AV.i j), (10, x10), (41, x41), (47, x47), (51, x51)]) ∧ (mm = (-n).toNat - j) ∧ (H = H') ∧ (j ≤ (-n).toNat) ∧ (e2 = ret (rst d n.toNat) j)) ⟨0, (rst d k), _, _, _, _, rfl, rfl, by rfl, by omega, by rw [show k = n.toNat by omega]; rfl⟩ (by rfl) ?_
     rintro mm kv H2 ⟨j, e2, x10, x41, x47, x51, rfl, rfl, hH2, hj, he2⟩
     have tr : ∀ a b c d e f g h i j k m n o p q r s t u v w : AV, upd [(0,a),(1,b),(4,c),(5,d),(6,e),(7,f),(8,g),(9,h),(10,i),(14,j),(21,k),(24,m),(30,n),(41,o),(47,p),(51,q)] [(0,r),(9,s),(10,t),(41,u),(47,v),(51,w)] = [(0,r),(1,b),(4,c),(5,d),(6,e),(7,f),(8,g),(9,s),(10,t),(14,j),(21,k),(24,m),(30,n),(41,u),(47,v),(51,w)] := by intros; rfl
     refine W_to (tr ..) ?_; clear tr
     subst hH2
     subst he2
     obtain ⟨gj, wj, lj⟩ := ret_ok g1 j
     have hbr := rs2I_box gj
     have hdt := dot_box (ret (rst d n.toNat) j) true
     have hdf := dot_box (ret (rst d n.toNat) j) false
     refine at_seq rfl ?_
     refine at_seq rfl ?_
     refine rg rfl ?_
     refine Rq ?_
     refine Rq ?_
     refine Rq ?_
     refine Rq ?_
     have tr : ∀ a b c d e f g h i j k m n o p q r s t u : AV, let l := lc_rshift_ok a b c d e f g h i j k m n o p q; trim ((41,u)::(40,t)::(39,s)::(38,r)::l) l = [(0,a),(1,b),(4,c),(5,d),(6,e),(7,f),(8,g),(9,h),(10,i),(14,j),(21,k),(24,m),(30,n),(41,u),(47,p),(51,q)] := by intros; rfl
     refine R_nil (tr ..) ?_; clear tr
     refine then_n ?_
     refine cdd (fun h6 => ?_) (fun h6 => ?_)
     ·
      try simp only [decide_eq_true_eq, decide_eq_false_iff_not, Bool.not_eq_true', Bool.not_eq_false', beq_iff_eq, beq_eq_false_iff_ne, ne_eq] at h6
      refine at_skip rfl ?_
      refine then_n ?_
      refine at_seq rfl ?_
      refine at_block rfl ?_
      refine at_seq rfl ?_
      refine rg rfl ?_
      refine Rq ?_
      refine Rcall ?_
      refine ACall_eq (dot_ok45 _ _ (ret (rst d n.toNat) j) true (by omega)) ?_
      refine Rq ?_
      have tr : ∀ a b c d e f g h i j k m n o p q r s t : AV, let l := lc_rshift_ok a b c d e f g h i j k m n o p q; trim ((10,t)::(45,s)::(44,r)::l) l = [(0,a),(1,b),(4,c),(5,d),(6,e),(7,f),(8,g),(9,h),(10,t),(14,j),(21,k),(24,m),(30,n),(41,o),(47,p),(51,q)] := by intros; rfl
      refine R_nil (tr ..) ?_; clear tr
      refine then_n ?_
      refine at_seq rfl ?_
      refine at_seq rfl ?_
      refine rg rfl ?_
      refine Rq ?_
      refine Rq ?_
      have tr : ∀ a b c d e f g h i j k m n o p q r s : AV, let l := lc_rshift_ok a b c d e f g h i j k m n o p q; trim ((47,s)::(46,r)::l) l = [(0,a),(1,b),(4,c),(5,d),(6,e),(7,f),(8,g),(9,h),(10,i),(14,j),(21,k),(24,m),(30,n),(41,o),(47,s),(51,q)] := by intros; rfl
      refine R_nil (tr ..) ?_; clear tr
      refine then_n ?_
      refine cdd (fun h7 => ?_) (fun h7 => ?_)
      ·
       try simp only [decide_eq_true_eq, decide_eq_false_iff_not, Bool.not_eq_true', Bool.not_eq_false', beq_iff_eq, beq_eq_false_iff_ne, ne_eq] at h7
       refine rg rfl ?_
       refine Rq ?_
       refine Rcall ?_
       refine ACall_eq (dot_ok45 _ _ (ret (rst d n.toNat) j) false (by omega)) ?_
       refine Rq ?_
       have tr : ∀ a b c d e f g h i j k m n o p q r s t : AV, let l := lc_rshift_ok a b c d e f g h i j k m n o p q; trim ((10,t)::(49,s)::(48,r)::l) l = [(0,a),(1,b),(4,c),(5,d),(6,e),(7,f),(8,g),(9,h),(10,t),(14,j),(21,k),(24,m),(30,n),(41,o),(47,p),(51,q)] := by intros; rfl
       refine R_nil (tr ..) ?_; clear tr
       refine then_n ?_
       refine at_seq rfl ?_
       refine rg rfl ?_
       refine Rq ?_
       refine Rq ?_
       have tr : ∀ a b c d e f g h i j k m n o p q r s : AV, let l := lc_rshift_ok a b c d e f g h i j k m n o p q; trim ((51,s)::(50,r)::l) l = [(0,a),(1,b),(4,c),(5,d),(6,e),(7,f),(8,g),(9,h),(10,i),(14,j),(21,k),(24,m),(30,n),(41,o),(47,p),(51,s)] := by intros; rfl
       refine R_nil (tr ..) ?_; clear tr
       refine then_n ?_
       refine cdd (fun h8 => ?_) (fun h8 => ?_)
       ·
        try simp only [decide_eq_true_eq, decide_eq_false_iff_not, Bool.not_eq_true', Bool.not_eq_false', beq_iff_eq, beq_eq_false_iff_ne, ne_eq] at h8
        refine rg rfl ?_
        refine Rq ?_
        refine Rq ?_
        refine R_q (r := .agg (ocC ⟨1, false, 0⟩)) rfl (by simp (disch := first | omega | (simp only [List.length_map, List.length_append, List.length_set, List.length_cons, List.length_nil]; omega)) only [go_sem, ↓reduceIte, Nat.reduceEqDiff, reduceCtorEq] <;> exact bld68d _) ?_
        refine Rcall ?_
        refine ACall_eq (move_ok _ _ (ret (rst d n.toNat) j) _ ⟨1, false, 0⟩ gj (by omega) (by omega) (by omega)) ?_
        refine Rq ?_
        have tr : ∀ a b c d e f g h i j k m n o p q r s t u v : AV, let l := lc_rshift_ok a b c d e f g h i j k m n o p q; trim ((0,v)::(55,u)::(54,t)::(53,s)::(52,r)::l) l = [(0,v),(1,b),(4,c),(5,d),(6,e),(7,f),(8,g),(9,h),(10,i),(14,j),(21,k),(24,m),(30,n),(41,o),(47,p),(51,q)] := by intros; rfl
        refine R_nil (tr ..) ?_; clear tr
        refine blk_n ?_
        refine then_n ?_
        refine rg rfl ?_
        refine Rq ?_
        refine Rq ?_
        refine Rq ?_
        have tr : ∀ a b c d e f g h i j k m n o p q r s t : AV, let l := lc_rshift_ok a b c d e f g h i j k m n o p q; trim ((9,t)::(43,s)::(42,r)::l) l = [(0,a),(1,b),(4,c),(5,d),(6,e),(7,f),(8,g),(9,t),(10,i),(14,j),(21,k),(24,m),(30,n),(41,o),(47,p),(51,q)] := by intros; rfl
        refine R_nil (tr ..) ?_; clear tr
        refine then_n ?_
        exact ⟨_, _, ⟨j + 1, _, _, _, _, _, rfl, rfl, by rfl, by omega, by first | (rw [ret, rs2, show rs2I (ret (rst d n.toNat) j) = dotI (ret (rst d n.toNat) j) false by rw [rs2I, if_pos (by assumption)], if_pos (by assumption)]; done) | (rw [ret, rs2, show rs2I (ret (rst d n.toNat) j) = dotI (ret (rst d n.toNat) j) false by rw [rs2I, if_pos (by assumption)], if_neg (by assumption)]; done) | (rw [ret, rs2, show rs2I (ret (rst d n.toNat) j) = dotI (ret (rst d n.toNat) j) true by rw [rs2I, if_neg (by assumption)], if_pos (by assumption)]; done) | (rw [ret, rs2, show rs2I (ret (rst d n.toNat) j) = dotI (ret (rst d n.toNat) j) true by rw [rs2I, if_neg (by assumption)], if_neg (by assumption)]; done)⟩, by rfl, by omega⟩
       ·
        try simp only [decide_eq_true_eq, decide_eq_false_iff_not, Bool.not_eq_true', Bool.not_eq_false', beq_iff_eq, beq_eq_false_iff_ne, ne_eq] at h8
        refine at_skip rfl ?_
        refine blk_n ?_
        refine then_n ?_
        refine rg rfl ?_
        refine Rq ?_
        refine Rq ?_
        refine Rq ?_
        have tr : ∀ a b c d e f g h i j k m n o p q r s t : AV, let l := lc_rshift_ok a b c d e f g h i j k m n o p q; trim ((9,t)::(43,s)::(42,r)::l) l = [(0,a),(1,b),(4,c),(5,d),(6,e),(7,f),(8,g),(9,t),(10,i),(14,j),(21,k),(24,m),(30,n),(41,o),(47,p),(51,q)] := by intros; rfl
        refine R_nil (tr ..) ?_; clear tr
        refine then_n ?_
        exact ⟨_, _, ⟨j + 1, _, _, _, _, _, rfl, rfl, by rfl, by omega, by first | (rw [ret, rs2, show rs2I (ret (rst d n.toNat) j) = dotI (ret (rst d n.toNat) j) false by rw [rs2I, if_pos (by assumption)], if_pos (by assumption)]; done) | (rw [ret, rs2, show rs2I (ret (rst d n.toNat) j) = dotI (ret (rst d n.toNat) j) false by rw [rs2I, if_pos (by assumption)], if_neg (by assumption)]; done) | (rw [ret, rs2, show rs2I (ret (rst d n.toNat) j) = dotI (ret (rst d n.toNat) j) true by rw [rs2I, if_neg (by assumption)], if_pos (by assumption)]; done) | (rw [ret, rs2, show rs2I (ret (rst d n.toNat) j) = dotI (ret (rst d n.toNat) j) true by rw [rs2I, if_neg (by assumption)], if_neg (by assumption)]; done)⟩, by rfl, by omega⟩
      ·
       try simp only [decide_eq_true_eq, decide_eq_false_iff_not, Bool.not_eq_true', Bool.not_eq_false', beq_iff_eq, beq_eq_false_iff_ne, ne_eq] at h7
       refine at_skip rfl ?_
       refine then_n ?_
       refine at_seq rfl ?_
       refine rg rfl ?_
       refine Rq ?_
       refine Rq ?_
       have tr : ∀ a b c d e f g h i j k m n o p q r s : AV, let l := lc_rshift_ok a b c d e f g h i j k m n o p q; trim ((51,s)::(50,r)::l) l = [(0,a),(1,b),(4,c),(5,d),(6,e),(7,f),(8,g),(9,h),(10,i),(14,j),(21,k),(24,m),(30,n),(41,o),(47,p),(51,s)] := by intros; rfl
       refine R_nil (tr ..) ?_; clear tr
       refine then_n ?_
       refine cdd (fun h9 => ?_) (fun h9 => ?_)
       ·
        try simp only [decide_eq_true_eq, decide_eq_false_iff_not, Bool.not_eq_true', Bool.not_eq_false', beq_iff_eq, beq_eq_false_iff_ne, ne_eq] at h9
        refine rg rfl ?_
        refine Rq ?_
        refine Rq ?_
        refine R_q (r := .agg (ocC ⟨1, false, 0⟩)) rfl (by simp (disch := first | omega | (simp only [List.length_map, List.length_append, List.length_set, List.length_cons, List.length_nil]; omega)) only [go_sem, ↓reduceIte, Nat.reduceEqDiff, reduceCtorEq] <;> exact bld68d _) ?_
        refine Rcall ?_
        refine ACall_eq (move_ok _ _ (ret (rst d n.toNat) j) _ ⟨1, false, 0⟩ gj (by omega) (by omega) (by omega)) ?_
        refine Rq ?_
        have tr : ∀ a b c d e f g h i j k m n o p q r s t u v : AV, let l := lc_rshift_ok a b c d e f g h i j k m n o p q; trim ((0,v)::(55,u)::(54,t)::(53,s)::(52,r)::l) l = [(0,v),(1,b),(4,c),(5,d),(6,e),(7,f),(8,g),(9,h),(10,i),(14,j),(21,k),(24,m),(30,n),(41,o),(47,p),(51,q)] := by intros; rfl
        refine R_nil (tr ..) ?_; clear tr
        refine blk_n ?_
        refine then_n ?_
        refine rg rfl ?_
        refine Rq ?_
        refine Rq ?_
        refine Rq ?_
        have tr : ∀ a b c d e f g h i j k m n o p q r s t : AV, let l := lc_rshift_ok a b c d e f g h i j k m n o p q; trim ((9,t)::(43,s)::(42,r)::l) l = [(0,a),(1,b),(4,c),(5,d),(6,e),(7,f),(8,g),(9,t),(10,i),(14,j),(21,k),(24,m),(30,n),(41,o),(47,p),(51,q)] := by intros; rfl
        refine R_nil (tr ..) ?_; clear tr
        refine then_n ?_
        exact ⟨_, _, ⟨j + 1, _, _, _, _, _, rfl, rfl, by rfl, by omega, by first | (rw [ret, rs2, show rs2I (ret (rst d n.toNat) j) = dotI (ret (rst d n.toNat) j) false by rw [rs2I, if_pos (by assumption)], if_pos (by assumption)]; done) | (rw [ret, rs2, show rs2I (ret (rst d n.toNat) j) = dotI (ret (rst d n.toNat) j) false by rw [rs2I, if_pos (by assumption)], if_neg (by assumption)]; done) | (rw [ret, rs2, show rs2I (ret (rst d n.toNat) j) = dotI (ret (rst d n.toNat) j) true by rw [rs2I, if_neg (by assumption)], if_pos (by assumption)]; done) | (rw [ret, rs2, show rs2I (ret (rst d n.toNat) j) = dotI (ret (rst d n.toNat) j) true by rw [rs2I, if_neg (by assumption)], if_neg (by assumption)]; done)⟩, by rfl, by omega⟩
       ·
        try simp only [decide_eq_true_eq, decide_eq_false_iff_not, Bool.not_eq_true', Bool.not_eq_false', beq_iff_eq, beq_eq_false_iff_ne, ne_eq] at h9
        refine at_skip rfl ?_
        refine blk_n ?_
        refine then_n ?_
        refine rg rfl ?_
        refine Rq ?_
        refine Rq ?_
        refine Rq ?_
        have tr : ∀ a b c d e f g h i j k m n o p q r s t : AV, let l := lc_rshift_ok a b c d e f g h i j k m n o p q; trim ((9,t)::(43,s)::(42,r)::l) l = [(0,a),(1,b),(4,c),(5,d),(6,e),(7,f),(8,g),(9,t),(10,i),(14,j),(21,k),(24,m),(30,n),(41,o),(47,p),(51,q)] := by intros; rfl
        refine R_nil (tr ..) ?_; clear tr
        refine then_n ?_
        exact ⟨_, _, ⟨j + 1, _, _, _, _, _, rfl, rfl, by rfl, by omega, by first | (rw [ret, rs2, show rs2I (ret (rst d n.toNat) j) = dotI (ret (rst d n.toNat) j) false by rw [rs2I, if_pos (by assumption)], if_pos (by assumption)]; done) | (rw [ret, rs2, show rs2I (ret (rst d n.toNat) j) = dotI (ret (rst d n.toNat) j) false by rw [rs2I, if_pos (by assumption)], if_neg (by assumption)]; done) | (rw [ret, rs2, show rs2I (ret (rst d n.toNat) j) = dotI (ret (rst d n.toNat) j) true by rw [rs2I, if_neg (by assumption)], if_pos (by assumption)]; done) | (rw [ret, rs2, show rs2I (ret (rst d n.toNat) j) = dotI (ret (rst d n.toNat) j) true by rw [rs2I, if_neg (by assumption)], if_neg (by assumption)]; done)⟩, by rfl, by omega⟩
     ·
      try simp only [decide_eq_true_eq, decide_eq_false_iff_not, Bool.not_eq_true', Bool.not_eq_false', beq_iff_eq, beq_eq_false_iff_ne, ne_eq] at h6
      refine at_exit rfl ?_
      refine then_x ?_
      refine then_x ?_
      refine blk_x ?_
      refine then_n ?_
      refine at_seq rfl ?_
      refine rg rfl ?_
      refine Rq ?_
      refine Rcall ?_
      have hgF := ret_ok g1 (-n).toNat
      rewrite [show j = (-n).toNat by omega]
      refine ACall_eq (rnorm_ok _ _ (ret (rst d n.toNat) (-n).toNat) hgF.1 (by have := hgF.2.2; omega)) ?_
      refine Rq ?_
      refine Rq ?_
      refine Rq ?_
      refine Rq ?_
      have tr : ∀ a b c d e f g h i j k m n o p q r s t u v w : AV, let l := lc_rshift_ok a b c d e f g h i j k m n o p q; trim ((5,w)::(4,v)::(59,u)::(58,t)::(57,s)::(56,r)::l) l = [(0,a),(1,b),(4,v),(5,w),(6,e),(7,f),(8,g),(9,h),(10,i),(14,j),(21,k),(24,m),(30,n),(41,o),(47,p),(51,q)] := by intros; rfl
      refine R_nil (tr ..) ?_; clear tr
      refine then_n ?_
      refine at_ret rfl ?_
      first | (refine fpure ?_; refine ⟨?_, rfl⟩; have ew : wv (ret (rst d n.toNat) (-n).toNat) = finW d n := (by rw [hgF.2.1, w1]; rfl); rw [ew]; exact congrArg (fun z => AV.tup [z, AV.i 0]) (frz_stops _ _ _ _))

end Go.Proofs.Ytplockpopmaejaa
end
section
set_option linter.unusedSimpArgs false
set_option linter.unusedVariables false
set_option maxHeartbeats 40000000
set_option maxRecDepth 4000
namespace Go.Proofs.Ytplockpopmaejaa
open Go Go.Am

abbrev lc_ball11 (a b c d e f g h i : AV) : Env := [(0,a),(1,b),(2,c),(3,d),(6,e),(7,f),(8,g),(12,h),(33,i)]
theorem ball11 (lim : Nat) (H : Heap) (l : List Bt) (m : List Bw) (hL : ∀ u, u < l.length → (gt l u).nm.size ≤ 9223372036854775807) (hM : ∀ u, u < m.length → (gt m u).nm.size ≤ 9223372036854775807) (hc : chkM l m = 0) (i j : Int) (hi0 : 0 ≤ i) (hi1 : i < l.length) (hj0 : 0 ≤ j) (hj1 : j < m.length) :
    ACall sig lim 11 [.agg [btsAV l, bwsAV m], AV.i i, AV.i j] H fun r H' => r = .tup [ocsAV (shS (gt l i.toNat).ds (gt m j.toNat).sh), AV.i 0] ∧ H' = H := by
 obtain ⟨hl0, hm0, hl11, hm11, hds, hsh⟩ := chkM_of hc
 have hsj := hsh j.toNat (by omega)
 refine ACall_pure (fa := fa11) rfl rfl rfl rfl ?_
 have tr : ∀ a0 a1 a2 : AV, env0 fa11.keep [a0, a1, a2] = [(0,a0),(1,a1),(2,a2),(3,.any),(6,.any),(7,.any),(8,.any),(12,.any),(33,.any)] := fun a0 a1 a2 => rfl
 refine W_to (tr _ _ _) ?_; clear tr
 refine at_seq rfl ?_
 refine rg rfl ?_
 refine R_box rfl (by simp (disch := first | omega | (simp only [List.length_map, List.length_append, List.length_set, List.length_cons, List.length_nil]; omega)) only [go_sem, ↓reduceIte, Nat.reduceEqDiff, reduceCtorEq] <;> rfl) rfl rfl ?_
 refine Rq ?_
 refine Rq ?_
 have tr : ∀ a b c d e f g h i j k m : AV, let l := lc_ball11 a b c d e f g h i; trim ((7,m)::(6,k)::(3,j)::l) l = [(0,a),(1,b),(2,c),(3,j),(6,k),(7,m),(8,g),(12,h),(33,i)] := by intros; rfl
 refine R_nil (tr ..) ?_; clear tr
 refine then_n ?_
 refine at_seq rfl ?_
 refine at_seq rfl ?_
 refine rg rfl ?_
 refine Rq ?_
 refine Rcall ?_
 refine ACall_eq (chkm10 _ _ l m hL hM (by omega) (by omega)) ?_
 refine Rq ?_
 have tr : ∀ a b c d e f g h i j k m : AV, let l := lc_ball11 a b c d e f g h i; trim ((8,m)::(10,k)::(9,j)::l) l = [(0,a),(1,b),(2,c),(3,d),(6,e),(7,f),(8,m),(12,h),(33,i)] := by intros; rfl
 refine R_nil (tr ..) ?_; clear tr
 refine then_n ?_
 refine at_seq rfl ?_
 refine rg rfl ?_
 refine Rq ?_
 refine Rq ?_
 have tr : ∀ a b c d e f g h i j k : AV, let l := lc_ball11 a b c d e f g h i; trim ((12,k)::(11,j)::l) l = [(0,a),(1,b),(2,c),(3,d),(6,e),(7,f),(8,g),(12,k),(33,i)] := by intros; rfl
 refine R_nil (tr ..) ?_; clear tr
 refine then_n ?_
 refine cdd (fun h1 => ?_) (fun h1 => ?_)
 ·
  try simp only [decide_eq_true_eq, decide_eq_false_iff_not, Bool.not_eq_true', Bool.not_eq_false', beq_iff_eq, beq_eq_false_iff_ne, ne_eq] at h1
  first | exact absurd hc (by assumption) | omega
 ·
  try simp only [decide_eq_true_eq, decide_eq_false_iff_not, Bool.not_eq_true', Bool.not_eq_false', beq_iff_eq, beq_eq_false_iff_ne, ne_eq] at h1
  refine at_skip rfl ?_
  refine then_n ?_
  refine at_seq rfl ?_
  refine at_seq rfl ?_
  refine rg rfl ?_
  refine Rq ?_
  refine Rq ?_
  refine Rq ?_
  refine Rp_split (fun h2 => ?_) (fun h2 => ?_)
  ·
   try simp only [decide_eq_true_eq, decide_eq_false_iff_not, Bool.not_eq_true', Bool.not_eq_false', beq_iff_eq, beq_eq_false_iff_ne, ne_eq] at h2
   omega
  ·
   try simp only [decide_eq_true_eq, decide_eq_false_iff_not, Bool.not_eq_true', Bool.not_eq_false', beq_iff_eq, beq_eq_false_iff_ne, ne_eq] at h2
   refine Ry ?_
   refine Rq ?_
   refine Ry ?_
   refine Rq ?_
   refine Ry ?_
   refine Rq ?_
   refine Ry ?_
   refine Rq ?_
   refine Ry ?_
   refine Rq ?_
   refine Rq ?_
   refine Rq ?_
   refine Rp_split (fun h3 => ?_) (fun h3 => ?_)
   ·
    try simp only [decide_eq_true_eq, decide_eq_false_iff_not, Bool.not_eq_true', Bool.not_eq_false', beq_iff_eq, beq_eq_false_iff_ne, ne_eq] at h3
    omega
   ·
    try simp only [decide_eq_true_eq, decide_eq_false_iff_not, Bool.not_eq_true', Bool.not_eq_false', beq_iff_eq, beq_eq_false_iff_ne, ne_eq] at h3
    refine Ry ?_
    refine Rq ?_
    refine Ry ?_
    refine Rq ?_
    refine Rq ?_
    refine Rq ?_
    refine Rp_split (fun h4 => ?_) (fun h4 => ?_)
    ·
     try simp only [decide_eq_true_eq, decide_eq_false_iff_not, Bool.not_eq_true', Bool.not_eq_false', beq_iff_eq, beq_eq_false_iff_ne, ne_eq] at h4
     omega
    ·
     try simp only [decide_eq_true_eq, decide_eq_false_iff_not, Bool.not_eq_true', Bool.not_eq_false', beq_iff_eq, beq_eq_false_iff_ne, ne_eq] at h4
     refine Ry ?_
     refine Rq ?_
     refine Ry ?_
     refine Rq ?_
     refine Ry ?_
     refine Rq ?_
     refine Ry ?_
     refine Rq ?_
     refine Ry ?_
     refine Rq ?_
     refine Rq ?_
     have tr : ∀ a b c d e f g h i j k m n o p q r s t u v w x y z A B C D : AV, let l := lc_ball11 a b c d e f g h i; trim ((33,D)::(32,C)::(31,B)::(30,A)::(29,z)::(28,y)::(27,x)::(26,w)::(25,v)::(24,u)::(23,t)::(22,s)::(21,r)::(20,q)::(19,p)::(18,o)::(17,n)::(16,m)::(15,k)::(14,j)::l) l = [(0,a),(1,b),(2,c),(3,d),(6,e),(7,f),(8,g),(12,h),(33,D)] := by intros; rfl
     refine R_nil (tr ..) ?_; clear tr
     refine then_n ?_
     refine cdd (fun h5 => ?_) (fun h5 => ?_)
     ·
      try simp only [decide_eq_true_eq, decide_eq_false_iff_not, Bool.not_eq_true', Bool.not_eq_false', beq_iff_eq, beq_eq_false_iff_ne, ne_eq] at h5
      omega
     ·
      try simp only [decide_eq_true_eq, decide_eq_false_iff_not, Bool.not_eq_true', Bool.not_eq_false', beq_iff_eq, beq_eq_false_iff_ne, ne_eq] at h5
      refine at_skip rfl ?_
      refine then_n ?_
      refine at_seq rfl ?_
      refine rls2 rfl rfl ?_
      refine Lq ?_
      refine Lq ?_
      refine Lq ?_
      refine Lq ?_
      refine Lq ?_
      refine Lq ?_
      refine Lq ?_
      refine Lq ?_
      refine Lq ?_
      refine Lq ?_
      refine Lq ?_
      refine Lq ?_
      refine L_nil ?_
      refine Rcall ?_
      refine ACall_eq (shift_ok _ _ (gt l i.toNat).ds (gt m j.toNat).sh (hds _ (by omega)) (by omega) (by omega)) ?_
      refine Rq ?_
      refine Rq ?_
      refine R_end ⟨?_, ?_⟩
      ·
       refine ⟨?_, ?_⟩
       ·
        refine Rcall ?_
        refine ACall_eq (shift_ok _ _ (gt l i.toNat).ds (gt m j.toNat).sh (hds _ (by omega)) (by omega) (by omega)) ?_
        refine Rq ?_
        refine Rq ?_
        refine R_end ?_
        refine same_H ?_
        intro t2 ht
        simp only [List.mem_cons, List.not_mem_nil, or_false] at ht
        rcases ht with rfl | rfl <;> (simp only [get_cons, put_some, ↓reduceIte, Nat.reduceEqDiff]; first | rfl | exact ren_stops _ _ _)
       exact trivial
      rewrite [keep_all (fun i hi => .inl hi)]
      refine Rp_env (e' := [(47, _), (48, _), (34, .any), (35, .any), (36, .any), (37, .any), (38, .any), (39, .any), (40, .any), (41, .any), (42, .any), (43, .any), (44, .any), (45, .any), (46, .any), (47, .any), (48, .any), (6, .any), (7, .any), (0, _), (1, _), (2, _), (3, _), (6, _), (7, _), (8, _), (12, _), (33, _)]) rfl ?_
      simp only [put_some, get_cons, ↓reduceIte, Nat.reduceEqDiff]
      refine Rq ?_
      refine Rq ?_
      have tr : ∀ a b c d e f g h i j k m n o p q r s t u v w x y z A B C D E : AV, let l := lc_ball11 a b c d e f g h i; trim ((7,E)::(6,D)::(47,C)::(48,B)::(34,A)::(35,z)::(36,y)::(37,x)::(38,w)::(39,v)::(40,u)::(41,t)::(42,s)::(43,r)::(44,q)::(45,p)::(46,o)::(47,n)::(48,m)::(6,k)::(7,j)::l) l = [(0,a),(1,b),(2,c),(3,d),(6,D),(7,E),(8,g),(12,h),(33,i)] := by intros; rfl
      refine R_nil (tr ..) ?_; clear tr
      refine then_n ?_
      refine at_ret rfl ?_
      first | (refine fpure ?_; refine ⟨?_, rfl⟩; exact congrArg (fun z => AV.tup [z, AV.i 0]) (frz_stops _ _ _ _))

abbrev lc_ball14 (a b c d e f g h i : AV) : Env := [(0,a),(1,b),(2,c),(3,d),(6,e),(7,f),(8,g),(12,h),(33,i)]
theorem ball14 (lim : Nat) (H : Heap) (l : List Bt) (m : List Bw) (hL : ∀ u, u < l.length → (gt l u).nm.size ≤ 9223372036854775807) (hM : ∀ u, u < m.length → (gt m u).nm.size ≤ 9223372036854775807) (hc : chkM l m = 0) (i j : Int) (hi0 : 0 ≤ i) (hi1 : i < l.length) (hj0 : 0 ≤ j) (hj1 : j < m.length) :
    ACall sig lim 14 [.agg [btsAV l, bwsAV m], AV.i i, AV.i j] H fun r H' => r = .tup [ocsAV (shS (gt l i.toNat).ds (gt m j.toNat).sh), AV.i 0] ∧ H' = H := by
 obtain ⟨hl0, hm0, hl11, hm11, hds, hsh⟩ := chkM_of hc
 have hsj := hsh j.toNat (by omega)
 refine ACall_pure (fa := fa14) rfl rfl rfl rfl ?_
 have tr : ∀ a0 a1 a2 : AV, env0 fa14.keep [a0, a1, a2] = [(0,a0),(1,a1),(2,a2),(3,.any),(6,.any),(7,.any),(8,.any),(12,.any),(33,.any)] := fun a0 a1 a2 => rfl
 refine W_to (tr _ _ _) ?_; clear tr
 refine at_seq rfl ?_
 refine rg rfl ?_
 refine R_box rfl (by simp (disch := first | omega | (simp only [List.length_map, List.length_append, List.length_set, List.length_cons, List.length_nil]; omega)) only [go_sem, ↓reduceIte, Nat.reduceEqDiff, reduceCtorEq] <;> rfl) rfl rfl ?_
 refine Rq ?_
 refine Rq ?_
 have tr : ∀ a b c d e f g h i j k m : AV, let l := lc_ball14 a b c d e f g h i; trim ((7,m)::(6,k)::(3,j)::l) l = [(0,a),(1,b),(2,c),(3,j),(6,k),(7,m),(8,g),(12,h),(33,i)] := by intros; rfl
 refine R_nil (tr ..) ?_; clear tr
 refine then_n ?_
 refine at_seq rfl ?_
 refine at_seq rfl ?_
 refine rg rfl ?_
 refine Rq ?_
 refine Rcall ?_
 refine ACall_eq (chkm13 _ _ l m hL hM (by omega) (by omega)) ?_
 refine Rq ?_
 have tr : ∀ a b c d e f g h i j k m : AV, let l := lc_ball14 a b c d e f g h i; trim ((8,m)::(10,k)::(9,j)::l) l = [(0,a),(1,b),(2,c),(3,d),(6,e),(7,f),(8,m),(12,h),(33,i)] := by intros; rfl
 refine R_nil (tr ..) ?_; clear tr
 refine then_n ?_
 refine at_seq rfl ?_
 refine rg rfl ?_
 refine Rq ?_
 refine Rq ?_
 have tr : ∀ a b c d e f g h i j k : AV, let l := lc_ball14 a b c d e f g h i; trim ((12,k)::(11,j)::l) l = [(0,a),(1,b),(2,c),(3,d),(6,e),(7,f),(8,g),(12,k),(33,i)] := by intros; rfl
 refine R_nil (tr ..) ?_; clear tr
 refine then_n ?_
 refine cdd (fun h1 => ?_) (fun h1 => ?_)
 ·
  try simp only [decide_eq_true_eq, decide_eq_false_iff_not, Bool.not_eq_true', Bool.not_eq_false', beq_iff_eq, beq_eq_false_iff_ne, ne_eq] at h1
  first | exact absurd hc (by assumption) | omega
 ·
  try simp only [decide_eq_true_eq, decide_eq_false_iff_not, Bool.not_eq_true', Bool.not_eq_false', beq_iff_eq, beq_eq_false_iff_ne, ne_eq] at h1
  refine at_skip rfl ?_
  refine then_n ?_
  refine at_seq rfl ?_
  refine at_seq rfl ?_
  refine rg rfl ?_
  refine Rq ?_
  refine Rq ?_
  refine Rq ?_
  refine Rp_split (fun h2 => ?_) (fun h2 => ?_)
  ·
   try simp only [decide_eq_true_eq, decide_eq_false_iff_not, Bool.not_eq_true', Bool.not_eq_false', beq_iff_eq, beq_eq_false_iff_ne, ne_eq] at h2
   omega
  ·
   try simp only [decide_eq_true_eq, decide_eq_false_iff_not, Bool.not_eq_true', Bool.not_eq_false', beq_iff_eq, beq_eq_false_iff_ne, ne_eq] at h2
   refine Ry ?_
   refine Rq ?_
   refine Ry ?_
   refine Rq ?_
   refine Ry ?_
   refine Rq ?_
   refine Ry ?_
   refine Rq ?_
   refine Ry ?_
   refine Rq ?_
   refine Rq ?_
   refine Rq ?_
   refine Rp_split (fun h3 => ?_) (fun h3 => ?_)
   ·
    try simp only [decide_eq_true_eq, decide_eq_false_iff_not, Bool.not_eq_true', Bool.not_eq_false', beq_iff_eq, beq_eq_false_iff_ne, ne_eq] at h3
    omega
   ·
    try simp only [decide_eq_true_eq, decide_eq_false_iff_not, Bool.not_eq_true', Bool.not_eq_false', beq_iff_eq, beq_eq_false_iff_ne, ne_eq] at h3
    refine Ry ?_
    refine Rq ?_
    refine Ry ?_
    refine Rq ?_
    refine Rq ?_
    refine Rq ?_
    refine Rp_split (fun h4 => ?_) (fun h4 => ?_)
    ·
     try simp only [decide_eq_true_eq, decide_eq_false_iff_not, Bool.not_eq_true', Bool.not_eq_false', beq_iff_eq, beq_eq_false_iff_ne, ne_eq] at h4
     omega
    ·
     try simp only [decide_eq_true_eq, decide_eq_false_iff_not, Bool.not_eq_true', Bool.not_eq_false', beq_iff_eq, beq_eq_false_iff_ne, ne_eq] at h4
     refine Ry ?_
     refine Rq ?_
     refine Ry ?_
     refine Rq ?_
     refine Ry ?_
     refine Rq ?_
     refine Ry ?_
     refine Rq ?_
     refine Ry ?_
     refine Rq ?_
     refine Rq ?_
     have tr : ∀ a b c d e f g h i j k m n o p q r s t u v w x y z A B C D : AV, let l := lc_ball14 a b c d e f g h i; trim ((33,D)::(32,C)::(31,B)::(30,A)::(29,z)::(28,y)::(27,x)::(26,w)::(25,v)::(24,u)::(23,t)::(22,s)::(21,r)::(20,q)::(19,p)::(18,o)::(17,n)::(16,m)::(15,k)::(14,j)::l) l = [(0,a),(1,b),(2,c),(3,d),(6,e),(7,f),(8,g),(12,h),(33,D)] := by intros; rfl
     refine R_nil (tr ..) ?_; clear tr
     refine then_n ?_
     refine cdd (fun h5 => ?_) (fun h5 => ?_)
     ·
      try simp only [decide_eq_true_eq, decide_eq_false_iff_not, Bool.not_eq_true', Bool.not_eq_false', beq_iff_eq, beq_eq_false_iff_ne, ne_eq] at h5
      omega
     ·
      try simp only [decide_eq_true_eq, decide_eq_false_iff_not, Bool.not_eq_true', Bool.not_eq_false', beq_iff_eq, beq_eq_false_iff_ne, ne_eq] at h5
      refine at_skip rfl ?_
      refine then_n ?_
      refine at_seq rfl ?_
      refine rls2 rfl rfl ?_
      refine Lq ?_
      refine Lq ?_
      refine Lq ?_
      refine Lq ?_
      refine Lq ?_
      refine Lq ?_
      refine Lq ?_
      refine Lq ?_
      refine Lq ?_
      refine Lq ?_
      refine Lq ?_
      refine Lq ?_
      refine L_nil ?_
      refine Rcall ?_
      refine ACall_eq (rshift_ok _ _ (gt l i.toNat).ds (gt m j.toNat).sh (hds _ (by omega)) (by omega) (by omega)) ?_
      refine Rq ?_
      refine Rq ?_
      refine R_end ⟨?_, ?_⟩
      ·
       refine ⟨?_, ?_⟩
       ·
        refine Rcall ?_
        refine ACall_eq (rshift_ok _ _ (gt l i.toNat).ds (gt m j.toNat).sh (hds _ (by omega)) (by omega) (by omega)) ?_
        refine Rq ?_
        refine Rq ?_
        refine R_end ?_
        refine same_H ?_
        intro t2 ht
        simp only [List.mem_cons, List.not_mem_nil, or_false] at ht
        rcases ht with rfl | rfl <;> (simp only [get_cons, put_some, ↓reduceIte, Nat.reduceEqDiff]; first | rfl | exact ren_stops _ _ _)
       exact trivial
      rewrite [keep_all (fun i hi => .inl hi)]
      refine Rp_env (e' := [(47, _), (48, _), (34, .any), (35, .any), (36, .any), (37, .any), (38, .any), (39, .any), (40, .any), (41, .any), (42, .any), (43, .any), (44, .any), (45, .any), (46, .any), (47, .any), (48, .any), (6, .any), (7, .any), (0, _), (1, _), (2, _), (3, _), (6, _), (7, _), (8, _), (12, _), (33, _)]) rfl ?_
      simp only [put_some, get_cons, ↓reduceIte, Nat.reduceEqDiff]
      refine Rq ?_
      refine Rq ?_
      have tr : ∀ a b c d e f g h i j k m n o p q r s t u v w x y z A B C D E : AV, let l := lc_ball14 a b c d e f g h i; trim ((7,E)::(6,D)::(47,C)::(48,B)::(34,A)::(35,z)::(36,y)::(37,x)::(38,w)::(39,v)::(40,u)::(41,t)::(42,s)::(43,r)::(44,q)::(45,p)::(46,o)::(47,n)::(48,m)::(6,k)::(7,j)::l) l = [(0,a),(1,b),(2,c),(3,d),(6,D),(7,E),(8,g),(12,h),(33,i)] := by intros; rfl
      refine R_nil (tr ..) ?_; clear tr
      refine then_n ?_
      refine at_ret rfl ?_
      first | (refine fpure ?_; refine ⟨?_, rfl⟩; exact congrArg (fun z => AV.tup [z, AV.i 0]) (frz_stops _ _ _ _))

end Go.Proofs.Ytplockpopmaejaa
end
section
set_option linter.unusedSimpArgs false
set_option linter.unusedVariables false
set_option maxHeartbeats 40000000
set_option maxRecDepth 4000
namespace Go.Proofs.Ytplockpopmaejaa
open Go Go.Am

abbrev lc_costs5 (a b c d e f g h i j k m n o p q r s t u v w x y z A B C D E F G H I J K L M : AV) : Env := [(0,a),(1,b),(2,c),(3,d),(4,e),(8,f),(9,g),(10,h),(12,i),(14,j),(15,k),(17,m),(18,n),(20,o),(21,p),(23,q),(28,r),(30,s),(39,t),(48,u),(49,v),(50,w),(51,x),(62,y),(64,z),(65,A),(66,B),(67,C),(78,D),(85,E),(86,F),(87,G),(88,H),(89,I),(92,J),(93,K),(94,L),(95,M)]
theorem costs5 (lim : Nat) (H : Heap) (l : List Bt) (m : List Bw) (bs ws : List Int) (balls : Int) (hL : ∀ u, u < l.length → (gt l u).nm.size ≤ 9223372036854775807) (hM : ∀ u, u < m.length → (gt m u).nm.size ≤ 9223372036854775807) (h1 : l.length ≤ 100000) (h2 : m.length ≤ 100000) (h3 : bs.length ≤ 100000) (h4 : ws.length ≤ 100000) :
    ACall sig lim 5 [.agg [btsAV l, bwsAV m], intsAV bs, intsAV ws, AV.i balls] H fun r H' => r = .tup [coA l m bs ws balls, AV.i (coE l m bs ws balls)] ∧ H' = H := by
 have q4 : True := trivial
 refine ACall_pure (fa := fa5) rfl rfl rfl rfl ?_
 have tr : ∀ a0 a1 a2 a3 : AV, env0 fa5.keep [a0, a1, a2, a3] = [(0,a0),(1,a1),(2,a2),(3,a3),(4,.any),(8,.any),(9,.any),(10,.any),(12,.any),(14,.any),(15,.any),(17,.any),(18,.any),(20,.any),(21,.any),(23,.any),(28,.any),(30,.any),(39,.any),(48,.any),(49,.any),(50,.any),(51,.any),(62,.any),(64,.any),(65,.any),(66,.any),(67,.any),(78,.any),(85,.any),(86,.any),(87,.any),(88,.any),(89,.any),(92,.any),(93,.any),(94,.any),(95,.any)] := fun a0 a1 a2 a3 => rfl
 refine W_to (tr _ _ _ _) ?_; clear tr
 refine at_seq rfl ?_
 refine rg rfl ?_
 refine A_box rfl (by simp (disch := first | omega | (simp only [List.length_map, List.length_append, List.length_set, List.length_cons, List.length_nil]; omega)) only [go_sem, ↓reduceIte, Nat.reduceEqDiff, reduceCtorEq] <;> rfl) ?_
 intro H1 n1
 have en1 := n1.len
 have q4 := n1.new
 refine Rq ?_
 refine Rq ?_
 have tr : ∀ a b c d e f g h i j k m n o p q r s t u v w x y z A B C D E F G H I J K L M N O P : AV, let l := lc_costs5 a b c d e f g h i j k m n o p q r s t u v w x y z A B C D E F G H I J K L M; trim ((9,P)::(8,O)::(4,N)::l) l = [(0,a),(1,b),(2,c),(3,d),(4,N),(8,O),(9,P),(10,h),(12,i),(14,j),(15,k),(17,m),(18,n),(20,o),(21,p),(23,q),(28,r),(30,s),(39,t),(48,u),(49,v),(50,w),(51,x),(62,y),(64,z),(65,A),(66,B),(67,C),(78,D),(85,E),(86,F),(87,G),(88,H),(89,I),(92,J),(93,K),(94,L),(95,M)] := by intros; rfl
 refine R_nil (tr ..) ?_; clear tr
 refine then_n ?_
 refine at_seq rfl ?_
 refine at_seq rfl ?_
 refine rg rfl ?_
 refine R_q rfl (by simp (disch := first | omega | (simp only [List.length_map, List.length_append, List.length_set, List.length_cons, List.length_nil]; omega)) only [go_sem, ↓reduceIte, Nat.reduceEqDiff, reduceCtorEq, q4] <;> rfl) ?_
 refine Rcall ?_
 refine ACall_eq (chkm10 _ _ l m hL hM h1 h2) ?_
 refine Rq ?_
 have tr : ∀ a b c d e f g h i j k m n o p q r s t u v w x y z A B C D E F G H I J K L M N O P : AV, let l := lc_costs5 a b c d e f g h i j k m n o p q r s t u v w x y z A B C D E F G H I J K L M; trim ((10,P)::(26,O)::(25,N)::l) l = [(0,a),(1,b),(2,c),(3,d),(4,e),(8,f),(9,g),(10,P),(12,i),(14,j),(15,k),(17,m),(18,n),(20,o),(21,p),(23,q),(28,r),(30,s),(39,t),(48,u),(49,v),(50,w),(51,x),(62,y),(64,z),(65,A),(66,B),(67,C),(78,D),(85,E),(86,F),(87,G),(88,H),(89,I),(92,J),(93,K),(94,L),(95,M)] := by intros; rfl
 refine R_nil (tr ..) ?_; clear tr
 refine then_n ?_
 refine at_seq rfl ?_
 refine rg rfl ?_
 refine Rq ?_
 refine Rq ?_
 have tr : ∀ a b c d e f g h i j k m n o p q r s t u v w x y z A B C D E F G H I J K L M N O : AV, let l := lc_costs5 a b c d e f g h i j k m n o p q r s t u v w x y z A B C D E F G H I J K L M; trim ((28,O)::(27,N)::l) l = [(0,a),(1,b),(2,c),(3,d),(4,e),(8,f),(9,g),(10,h),(12,i),(14,j),(15,k),(17,m),(18,n),(20,o),(21,p),(23,q),(28,O),(30,s),(39,t),(48,u),(49,v),(50,w),(51,x),(62,y),(64,z),(65,A),(66,B),(67,C),(78,D),(85,E),(86,F),(87,G),(88,H),(89,I),(92,J),(93,K),(94,L),(95,M)] := by intros; rfl
 refine R_nil (tr ..) ?_; clear tr
 refine then_n ?_
 refine cdd (fun h1 => ?_) (fun h1 => ?_)
 ·
  try simp only [decide_eq_true_eq, decide_eq_false_iff_not, Bool.not_eq_true', Bool.not_eq_false', beq_iff_eq, beq_eq_false_iff_ne, ne_eq] at h1
  refine at_seq rfl ?_
  refine rg rfl ?_
  refine Rq ?_
  refine Rq ?_
  refine Rq ?_
  have tr : ∀ a b c d e f g h i j k m n o p q r s t u v w x y z A B C D E F G H I J K L M N O P : AV, let l := lc_costs5 a b c d e f g h i j k m n o p q r s t u v w x y z A B C D E F G H I J K L M; trim ((9,P)::(8,O)::(29,N)::l) l = [(0,a),(1,b),(2,c),(3,d),(4,e),(8,O),(9,P),(10,h),(12,i),(14,j),(15,k),(17,m),(18,n),(20,o),(21,p),(23,q),(28,r),(30,s),(39,t),(48,u),(49,v),(50,w),(51,x),(62,y),(64,z),(65,A),(66,B),(67,C),(78,D),(85,E),(86,F),(87,G),(88,H),(89,I),(92,J),(93,K),(94,L),(95,M)] := by intros; rfl
  refine R_nil (tr ..) ?_; clear tr
  refine then_n ?_
  refine at_ret rfl ?_
  refine then_r ?_
  refine fpure ?_
  refine ⟨?_, rfl⟩
  have he : coE l m bs ws balls = chkM l m := (by rw [coE, if_pos (by assumption)])
  have hne : coE l m bs ws balls ≠ 0 := (by rw [he]; first | decide | assumption)
  rw [coA, if_pos hne, he]
 ·
  try simp only [decide_eq_true_eq, decide_eq_false_iff_not, Bool.not_eq_true', Bool.not_eq_false', beq_iff_eq, beq_eq_false_iff_ne, ne_eq] at h1
  refine at_skip rfl ?_
  refine then_n ?_
  refine at_seq rfl ?_
  refine at_block rfl ?_
  refine at_seq rfl ?_
  refine rg rfl ?_
  have hc : chkM l m = 0 := by assumption
  refine Rq ?_
  refine Rq ?_
  refine Rq ?_
  refine Rq ?_
  refine Rp_split (fun h2 => ?_) (fun h2 => ?_)
  ·
   try simp only [decide_eq_true_eq, decide_eq_false_iff_not, Bool.not_eq_true', Bool.not_eq_false', beq_iff_eq, beq_eq_false_iff_ne, ne_eq] at h2
   refine Rn ?_
   refine Rn ?_
   refine Rn ?_
   refine Rq ?_
   refine Rq ?_
   have tr : ∀ a b c d e f g h i j k m n o p q r s t u v w x y z A B C D E F G H I J K L M N O P Q R S T U V : AV, let l := lc_costs5 a b c d e f g h i j k m n o p q r s t u v w x y z A B C D E F G H I J K L M; trim ((30,V)::(38,U)::(37,T)::(36,S)::(35,R)::(34,Q)::(33,P)::(32,O)::(31,N)::l) l = [(0,a),(1,b),(2,c),(3,d),(4,e),(8,f),(9,g),(10,h),(12,i),(14,j),(15,k),(17,m),(18,n),(20,o),(21,p),(23,q),(28,r),(30,V),(39,t),(48,u),(49,v),(50,w),(51,x),(62,y),(64,z),(65,A),(66,B),(67,C),(78,D),(85,E),(86,F),(87,G),(88,H),(89,I),(92,J),(93,K),(94,L),(95,M)] := by intros; rfl
   refine R_nil (tr ..) ?_; clear tr
   refine then_n ?_
   refine cdt ?_
   refine at_seq rfl ?_
   refine rg rfl ?_
   refine Rq ?_
   refine Rq ?_
   have tr : ∀ a b c d e f g h i j k m n o p q r s t u v w x y z A B C D E F G H I J K L M N O : AV, let l := lc_costs5 a b c d e f g h i j k m n o p q r s t u v w x y z A B C D E F G H I J K L M; trim ((9,O)::(8,N)::l) l = [(0,a),(1,b),(2,c),(3,d),(4,e),(8,N),(9,O),(10,h),(12,i),(14,j),(15,k),(17,m),(18,n),(20,o),(21,p),(23,q),(28,r),(30,s),(39,t),(48,u),(49,v),(50,w),(51,x),(62,y),(64,z),(65,A),(66,B),(67,C),(78,D),(85,E),(86,F),(87,G),(88,H),(89,I),(92,J),(93,K),(94,L),(95,M)] := by intros; rfl
   refine R_nil (tr ..) ?_; clear tr
   refine then_n ?_
   refine at_ret rfl ?_
   refine blk_r ?_
   refine then_r ?_
   refine fpure ?_
   refine ⟨?_, rfl⟩
   have he : coE l m bs ws balls = 6 := (by rw [coE, if_neg (fun hh => hh hc), if_pos (by omega)])
   have hne : coE l m bs ws balls ≠ 0 := (by rw [he]; first | decide | assumption)
   rw [coA, if_pos hne, he]
  ·
   try simp only [decide_eq_true_eq, decide_eq_false_iff_not, Bool.not_eq_true', Bool.not_eq_false', beq_iff_eq, beq_eq_false_iff_ne, ne_eq] at h2
   refine Ry ?_
   refine Rq ?_
   refine Ry ?_
   refine Rq ?_
   refine Ry ?_
   refine Rq ?_
   refine Rq ?_
   refine Rq ?_
   have tr : ∀ a b c d e f g h i j k m n o p q r s t u v w x y z A B C D E F G H I J K L M N O P Q R S T U V : AV, let l := lc_costs5 a b c d e f g h i j k m n o p q r s t u v w x y z A B C D E F G H I J K L M; trim ((30,V)::(38,U)::(37,T)::(36,S)::(35,R)::(34,Q)::(33,P)::(32,O)::(31,N)::l) l = [(0,a),(1,b),(2,c),(3,d),(4,e),(8,f),(9,g),(10,h),(12,i),(14,j),(15,k),(17,m),(18,n),(20,o),(21,p),(23,q),(28,r),(30,V),(39,t),(48,u),(49,v),(50,w),(51,x),(62,y),(64,z),(65,A),(66,B),(67,C),(78,D),(85,E),(86,F),(87,G),(88,H),(89,I),(92,J),(93,K),(94,L),(95,M)] := by intros; rfl
   refine R_nil (tr ..) ?_; clear tr
   refine then_n ?_
   refine cdd (fun h3 => ?_) (fun h3 => ?_)
   ·
    try simp only [decide_eq_true_eq, decide_eq_false_iff_not, Bool.not_eq_true', Bool.not_eq_false', beq_iff_eq, beq_eq_false_iff_ne, ne_eq] at h3
    refine at_seq rfl ?_
    refine rg rfl ?_
    refine Rq ?_
    refine Rq ?_
    have tr : ∀ a b c d e f g h i j k m n o p q r s t u v w x y z A B C D E F G H I J K L M N O : AV, let l := lc_costs5 a b c d e f g h i j k m n o p q r s t u v w x y z A B C D E F G H I J K L M; trim ((9,O)::(8,N)::l) l = [(0,a),(1,b),(2,c),(3,d),(4,e),(8,N),(9,O),(10,h),(12,i),(14,j),(15,k),(17,m),(18,n),(20,o),(21,p),(23,q),(28,r),(30,s),(39,t),(48,u),(49,v),(50,w),(51,x),(62,y),(64,z),(65,A),(66,B),(67,C),(78,D),(85,E),(86,F),(87,G),(88,H),(89,I),(92,J),(93,K),(94,L),(95,M)] := by intros; rfl
    refine R_nil (tr ..) ?_; clear tr
    refine then_n ?_
    refine at_ret rfl ?_
    refine blk_r ?_
    refine then_r ?_
    refine fpure ?_
    refine ⟨?_, rfl⟩
    have he : coE l m bs ws balls = 6 := (by rw [coE, if_neg (fun hh => hh hc), if_pos (by omega)])
    have hne : coE l m bs ws balls ≠ 0 := (by rw [he]; first | decide | assumption)
    rw [coA, if_pos hne, he]
   ·
    try simp only [decide_eq_true_eq, decide_eq_false_iff_not, Bool.not_eq_true', Bool.not_eq_false', beq_iff_eq, beq_eq_false_iff_ne, ne_eq] at h3
    refine at_seq rfl ?_
    refine rg rfl ?_
    refine Rq ?_
    refine Rq ?_
    refine Rq ?_
    refine Rq ?_
    refine Rp_split (fun h4 => ?_) (fun h4 => ?_)
    ·
     try simp only [decide_eq_true_eq, decide_eq_false_iff_not, Bool.not_eq_true', Bool.not_eq_false', beq_iff_eq, beq_eq_false_iff_ne, ne_eq] at h4
     refine Rn ?_
     refine Rn ?_
     refine Rn ?_
     refine Rq ?_
     refine Rq ?_
     have tr : ∀ a b c d e f g h i j k m n o p q r s t u v w x y z A B C D E F G H I J K L M N O P Q R S T U V : AV, let l := lc_costs5 a b c d e f g h i j k m n o p q r s t u v w x y z A B C D E F G H I J K L M; trim ((39,V)::(47,U)::(46,T)::(45,S)::(44,R)::(43,Q)::(42,P)::(41,O)::(40,N)::l) l = [(0,a),(1,b),(2,c),(3,d),(4,e),(8,f),(9,g),(10,h),(12,i),(14,j),(15,k),(17,m),(18,n),(20,o),(21,p),(23,q),(28,r),(30,s),(39,V),(48,u),(49,v),(50,w),(51,x),(62,y),(64,z),(65,A),(66,B),(67,C),(78,D),(85,E),(86,F),(87,G),(88,H),(89,I),(92,J),(93,K),(94,L),(95,M)] := by intros; rfl
     refine R_nil (tr ..) ?_; clear tr
     refine then_n ?_
     refine cdt ?_
     refine at_seq rfl ?_
     refine rg rfl ?_
     refine Rq ?_
     refine Rq ?_
     have tr : ∀ a b c d e f g h i j k m n o p q r s t u v w x y z A B C D E F G H I J K L M N O : AV, let l := lc_costs5 a b c d e f g h i j k m n o p q r s t u v w x y z A B C D E F G H I J K L M; trim ((9,O)::(8,N)::l) l = [(0,a),(1,b),(2,c),(3,d),(4,e),(8,N),(9,O),(10,h),(12,i),(14,j),(15,k),(17,m),(18,n),(20,o),(21,p),(23,q),(28,r),(30,s),(39,t),(48,u),(49,v),(50,w),(51,x),(62,y),(64,z),(65,A),(66,B),(67,C),(78,D),(85,E),(86,F),(87,G),(88,H),(89,I),(92,J),(93,K),(94,L),(95,M)] := by intros; rfl
     refine R_nil (tr ..) ?_; clear tr
     refine then_n ?_
     refine at_ret rfl ?_
     refine blk_r ?_
     refine then_r ?_
     refine fpure ?_
     refine ⟨?_, rfl⟩
     have he : coE l m bs ws balls = 9 := (by rw [coE, if_neg (fun hh => hh hc), if_neg (by omega), if_pos (by omega)])
     have hne : coE l m bs ws balls ≠ 0 := (by rw [he]; first | decide | assumption)
     rw [coA, if_pos hne, he]
    ·
     try simp only [decide_eq_true_eq, decide_eq_false_iff_not, Bool.not_eq_true', Bool.not_eq_false', beq_iff_eq, beq_eq_false_iff_ne, ne_eq] at h4
     refine Ry ?_
     refine Rq ?_
     refine Ry ?_
     refine Rq ?_
     refine Ry ?_
     refine Rq ?_
     refine Rq ?_
     refine Rq ?_
     have tr : ∀ a b c d e f g h i j k m n o p q r s t u v w x y z A B C D E F G H I J K L M N O P Q R S T U V : AV, let l := lc_costs5 a b c d e f g h i j k m n o p q r s t u v w x y z A B C D E F G H I J K L M; trim ((39,V)::(47,U)::(46,T)::(45,S)::(44,R)::(43,Q)::(42,P)::(41,O)::(40,N)::l) l = [(0,a),(1,b),(2,c),(3,d),(4,e),(8,f),(9,g),(10,h),(12,i),(14,j),(15,k),(17,m),(18,n),(20,o),(21,p),(23,q),(28,r),(30,s),(39,V),(48,u),(49,v),(50,w),(51,x),(62,y),(64,z),(65,A),(66,B),(67,C),(78,D),(85,E),(86,F),(87,G),(88,H),(89,I),(92,J),(93,K),(94,L),(95,M)] := by intros; rfl
     refine R_nil (tr ..) ?_; clear tr
     refine then_n ?_
     refine cdd (fun h5 => ?_) (fun h5 => ?_)
     ·
      try simp only [decide_eq_true_eq, decide_eq_false_iff_not, Bool.not_eq_true', Bool.not_eq_false', beq_iff_eq, beq_eq_false_iff_ne, ne_eq] at h5
      refine at_seq rfl ?_
      refine rg rfl ?_
      refine Rq ?_
      refine Rq ?_
      have tr : ∀ a b c d e f g h i j k m n o p q r s t u v w x y z A B C D E F G H I J K L M N O : AV, let l := lc_costs5 a b c d e f g h i j k m n o p q r s t u v w x y z A B C D E F G H I J K L M; trim ((9,O)::(8,N)::l) l = [(0,a),(1,b),(2,c),(3,d),(4,e),(8,N),(9,O),(10,h),(12,i),(14,j),(15,k),(17,m),(18,n),(20,o),(21,p),(23,q),(28,r),(30,s),(39,t),(48,u),(49,v),(50,w),(51,x),(62,y),(64,z),(65,A),(66,B),(67,C),(78,D),(85,E),(86,F),(87,G),(88,H),(89,I),(92,J),(93,K),(94,L),(95,M)] := by intros; rfl
      refine R_nil (tr ..) ?_; clear tr
      refine then_n ?_
      refine at_ret rfl ?_
      refine blk_r ?_
      refine then_r ?_
      refine fpure ?_
      refine ⟨?_, rfl⟩
      have he : coE l m bs ws balls = 9 := (by rw [coE, if_neg (fun hh => hh hc), if_neg (by omega), if_pos (by omega)])
      have hne : coE l m bs ws balls ≠ 0 := (by rw [he]; first | decide | assumption)
      rw [coA, if_pos hne, he]
     ·
      try simp only [decide_eq_true_eq, decide_eq_false_iff_not, Bool.not_eq_true', Bool.not_eq_false', beq_iff_eq, beq_eq_false_iff_ne, ne_eq] at h5
      refine at_skip rfl ?_
      refine blk_n ?_
      refine then_n ?_
      refine at_seq rfl ?_
      refine at_seq rfl ?_
      refine rg rfl ?_
      refine Rq ?_
      refine Rq ?_
      refine Rq ?_
      have tr : ∀ a b c d e f g h i j k m n o p q r s t u v w x y z A B C D E F G H I J K L M N O P : AV, let l := lc_costs5 a b c d e f g h i j k m n o p q r s t u v w x y z A B C D E F G H I J K L M; trim ((50,P)::(49,O)::(48,N)::l) l = [(0,a),(1,b),(2,c),(3,d),(4,e),(8,f),(9,g),(10,h),(12,i),(14,j),(15,k),(17,m),(18,n),(20,o),(21,p),(23,q),(28,r),(30,s),(39,t),(48,N),(49,O),(50,P),(51,x),(62,y),(64,z),(65,A),(66,B),(67,C),(78,D),(85,E),(86,F),(87,G),(88,H),(89,I),(92,J),(93,K),(94,L),(95,M)] := by intros; rfl
      refine R_nil (tr ..) ?_; clear tr
      refine then_n ?_
      refine at_block rfl ?_
      refine loop_n rfl (fun mm kv H' => ∃ u : Nat, ∃ x8 x9 x12 x51 x62 : AV, (kv = [(8, x8), (9, x9), (12, x12), (50, AV.i u), (51, x51), (62, x62)]) ∧ (mm = bs.length - u) ∧ (hget H' H.length = some [btsAV l, bwsAV m]) ∧ (u ≤ bs.length) ∧ (∀ i, i < u → ¬ badX l.length (gt bs i))) ⟨0, _, _, _, _, _, rfl, rfl, by exact q4, by omega, by intro i hi; omega⟩ (by rfl) ?_
      rintro mm kv H2 ⟨u, x8, x9, x12, x51, x62, rfl, rfl, q4, hu, hb⟩
      have tr : ∀ a b c d e f g h i j k m n o p q r s t u v w x y z A B C D E F G H I J K L M N O P Q R S : AV, upd [(0,a),(1,b),(2,c),(3,d),(4,e),(8,f),(9,g),(10,h),(12,i),(14,j),(15,k),(17,m),(18,n),(20,o),(21,p),(23,q),(28,r),(30,s),(39,t),(48,u),(49,v),(50,w),(51,x),(62,y),(64,z),(65,A),(66,B),(67,C),(78,D),(85,E),(86,F),(87,G),(88,H),(89,I),(92,J),(93,K),(94,L),(95,M)] [(8,N),(9,O),(12,P),(50,Q),(51,R),(62,S)] = [(0,a),(1,b),(2,c),(3,d),(4,e),(8,N),(9,O),(10,h),(12,P),(14,j),(15,k),(17,m),(18,n),(20,o),(21,p),(23,q),(28,r),(30,s),(39,t),(48,u),(49,v),(50,Q),(51,R),(62,S),(64,z),(65,A),(66,B),(67,C),(78,D),(85,E),(86,F),(87,G),(88,H),(89,I),(92,J),(93,K),(94,L),(95,M)] := by intros; rfl
      refine W_to (tr ..) ?_; clear tr
      refine at_seq rfl ?_
      refine rg rfl ?_
      refine Rq ?_
      have tr : ∀ a b c d e f g h i j k m n o p q r s t u v w x y z A B C D E F G H I J K L M N : AV, let l := lc_costs5 a b c d e f g h i j k m n o p q r s t u v w x y z A B C D E F G H I J K L M; trim ((51,N)::l) l = [(0,a),(1,b),(2,c),(3,d),(4,e),(8,f),(9,g),(10,h),(12,i),(14,j),(15,k),(17,m),(18,n),(20,o),(21,p),(23,q),(28,r),(30,s),(39,t),(48,u),(49,v),(50,w),(51,N),(62,y),(64,z),(65,A),(66,B),(67,C),(78,D),(85,E),(86,F),(87,G),(88,H),(89,I),(92,J),(93,K),(94,L),(95,M)] := by intros; rfl
      refine R_nil (tr ..) ?_; clear tr
      refine then_n ?_
      refine at_seq rfl ?_
      refine cdd (fun h6 => ?_) (fun h6 => ?_)
      ·
       try simp only [decide_eq_true_eq, decide_eq_false_iff_not, Bool.not_eq_true', Bool.not_eq_false', beq_iff_eq, beq_eq_false_iff_ne, ne_eq] at h6
       refine at_skip rfl ?_
       refine then_n ?_
       refine at_seq rfl ?_
       refine at_block rfl ?_
       refine at_seq rfl ?_
       refine rg rfl ?_
       refine Rq ?_
       refine R_q rfl (by simp (disch := first | omega | (simp only [List.length_map, List.length_append, List.length_set, List.length_cons, List.length_nil]; omega)) only [go_sem, ↓reduceIte, Nat.reduceEqDiff, reduceCtorEq, q4] <;> rfl) ?_
       refine Rq ?_
       have tr : ∀ a b c d e f g h i j k m n o p q r s t u v w x y z A B C D E F G H I J K L M N O P : AV, let l := lc_costs5 a b c d e f g h i j k m n o p q r s t u v w x y z A B C D E F G H I J K L M; trim ((12,P)::(53,O)::(52,N)::l) l = [(0,a),(1,b),(2,c),(3,d),(4,e),(8,f),(9,g),(10,h),(12,P),(14,j),(15,k),(17,m),(18,n),(20,o),(21,p),(23,q),(28,r),(30,s),(39,t),(48,u),(49,v),(50,w),(51,x),(62,y),(64,z),(65,A),(66,B),(67,C),(78,D),(85,E),(86,F),(87,G),(88,H),(89,I),(92,J),(93,K),(94,L),(95,M)] := by intros; rfl
       refine R_nil (tr ..) ?_; clear tr
       refine then_n ?_
       refine at_seq rfl ?_
       refine rg rfl ?_
       refine Rq ?_
       refine Rq ?_
       refine Rq ?_
       refine Rp_split (fun h7 => ?_) (fun h7 => ?_)
       ·
        try simp only [decide_eq_true_eq, decide_eq_false_iff_not, Bool.not_eq_true', Bool.not_eq_false', beq_iff_eq, beq_eq_false_iff_ne, ne_eq] at h7
        refine Rn ?_
        refine Rn ?_
        refine Rn ?_
        refine Rn ?_
        refine Rn ?_
        refine Rq ?_
        have tr : ∀ a b c d e f g h i j k m n o p q r s t u v w x y z A B C D E F G H I J K L M N O P Q R S T U V : AV, let l := lc_costs5 a b c d e f g h i j k m n o p q r s t u v w x y z A B C D E F G H I J K L M; trim ((62,V)::(61,U)::(60,T)::(59,S)::(58,R)::(57,Q)::(56,P)::(55,O)::(54,N)::l) l = [(0,a),(1,b),(2,c),(3,d),(4,e),(8,f),(9,g),(10,h),(12,i),(14,j),(15,k),(17,m),(18,n),(20,o),(21,p),(23,q),(28,r),(30,s),(39,t),(48,u),(49,v),(50,w),(51,x),(62,V),(64,z),(65,A),(66,B),(67,C),(78,D),(85,E),(86,F),(87,G),(88,H),(89,I),(92,J),(93,K),(94,L),(95,M)] := by intros; rfl
        refine R_nil (tr ..) ?_; clear tr
        refine then_n ?_
        refine cdt ?_
        refine at_seq rfl ?_
        refine rg rfl ?_
        refine Rq ?_
        refine Rq ?_
        have tr : ∀ a b c d e f g h i j k m n o p q r s t u v w x y z A B C D E F G H I J K L M N O : AV, let l := lc_costs5 a b c d e f g h i j k m n o p q r s t u v w x y z A B C D E F G H I J K L M; trim ((9,O)::(8,N)::l) l = [(0,a),(1,b),(2,c),(3,d),(4,e),(8,N),(9,O),(10,h),(12,i),(14,j),(15,k),(17,m),(18,n),(20,o),(21,p),(23,q),(28,r),(30,s),(39,t),(48,u),(49,v),(50,w),(51,x),(62,y),(64,z),(65,A),(66,B),(67,C),(78,D),(85,E),(86,F),(87,G),(88,H),(89,I),(92,J),(93,K),(94,L),(95,M)] := by intros; rfl
        refine R_nil (tr ..) ?_; clear tr
        refine then_n ?_
        refine at_ret rfl ?_
        refine blk_r ?_
        refine then_r ?_
        refine then_r ?_
        refine blk_r ?_
        refine then_r ?_
        refine fpure ?_
        refine ⟨?_, rfl⟩
        have he : coE l m bs ws balls = 1 := (by rw [coE, if_neg (fun hh => hh hc), if_neg (by omega), if_neg (by omega), if_pos ⟨u, by omega, by unfold badX; omega⟩])
        have hne : coE l m bs ws balls ≠ 0 := (by rw [he]; first | decide | assumption)
        rw [coA, if_pos hne, he]
       ·
        try simp only [decide_eq_true_eq, decide_eq_false_iff_not, Bool.not_eq_true', Bool.not_eq_false', beq_iff_eq, beq_eq_false_iff_ne, ne_eq] at h7
        refine Ry ?_
        refine Rq ?_
        refine Ry ?_
        refine Rq ?_
        refine Ry ?_
        refine R_q rfl (by simp (disch := first | omega | (simp only [List.length_map, List.length_append, List.length_set, List.length_cons, List.length_nil]; omega)) only [go_sem, ↓reduceIte, Nat.reduceEqDiff, reduceCtorEq, q4] <;> rfl) ?_
        refine Ry ?_
        refine Rq ?_
        refine Ry ?_
        refine Rq ?_
        refine Rq ?_
        have tr : ∀ a b c d e f g h i j k m n o p q r s t u v w x y z A B C D E F G H I J K L M N O P Q R S T U V : AV, let l := lc_costs5 a b c d e f g h i j k m n o p q r s t u v w x y z A B C D E F G H I J K L M; trim ((62,V)::(61,U)::(60,T)::(59,S)::(58,R)::(57,Q)::(56,P)::(55,O)::(54,N)::l) l = [(0,a),(1,b),(2,c),(3,d),(4,e),(8,f),(9,g),(10,h),(12,i),(14,j),(15,k),(17,m),(18,n),(20,o),(21,p),(23,q),(28,r),(30,s),(39,t),(48,u),(49,v),(50,w),(51,x),(62,V),(64,z),(65,A),(66,B),(67,C),(78,D),(85,E),(86,F),(87,G),(88,H),(89,I),(92,J),(93,K),(94,L),(95,M)] := by intros; rfl
        refine R_nil (tr ..) ?_; clear tr
        refine then_n ?_
        refine cdd (fun h8 => ?_) (fun h8 => ?_)
        ·
         try simp only [decide_eq_true_eq, decide_eq_false_iff_not, Bool.not_eq_true', Bool.not_eq_false', beq_iff_eq, beq_eq_false_iff_ne, ne_eq] at h8
         refine at_seq rfl ?_
         refine rg rfl ?_
         refine Rq ?_
         refine Rq ?_
         have tr : ∀ a b c d e f g h i j k m n o p q r s t u v w x y z A B C D E F G H I J K L M N O : AV, let l := lc_costs5 a b c d e f g h i j k m n o p q r s t u v w x y z A B C D E F G H I J K L M; trim ((9,O)::(8,N)::l) l = [(0,a),(1,b),(2,c),(3,d),(4,e),(8,N),(9,O),(10,h),(12,i),(14,j),(15,k),(17,m),(18,n),(20,o),(21,p),(23,q),(28,r),(30,s),(39,t),(48,u),(49,v),(50,w),(51,x),(62,y),(64,z),(65,A),(66,B),(67,C),(78,D),(85,E),(86,F),(87,G),(88,H),(89,I),(92,J),(93,K),(94,L),(95,M)] := by intros; rfl
         refine R_nil (tr ..) ?_; clear tr
         refine then_n ?_
         refine at_ret rfl ?_
         refine blk_r ?_
         refine then_r ?_
         refine then_r ?_
         refine blk_r ?_
         refine then_r ?_
         refine fpure ?_
         refine ⟨?_, rfl⟩
         have he : coE l m bs ws balls = 1 := (by rw [coE, if_neg (fun hh => hh hc), if_neg (by omega), if_neg (by omega), if_pos ⟨u, by omega, by unfold badX; omega⟩])
         have hne : coE l m bs ws balls ≠ 0 := (by rw [he]; first | decide | assumption)
         rw [coA, if_pos hne, he]
        ·
         try simp only [decide_eq_true_eq, decide_eq_false_iff_not, Bool.not_eq_true', Bool.not_eq_false', beq_iff_eq, beq_eq_false_iff_ne, ne_eq] at h8
         refine at_skip rfl ?_
         refine blk_n ?_
         refine then_n ?_
         refine rg rfl ?_
         refine Rq ?_
         refine Rq ?_
         have tr : ∀ a b c d e f g h i j k m n o p q r s t u v w x y z A B C D E F G H I J K L M N O : AV, let l := lc_costs5 a b c d e f g h i j k m n o p q r s t u v w x y z A B C D E F G H I J K L M; trim ((50,O)::(63,N)::l) l = [(0,a),(1,b),(2,c),(3,d),(4,e),(8,f),(9,g),(10,h),(12,i),(14,j),(15,k),(17,m),(18,n),(20,o),(21,p),(23,q),(28,r),(30,s),(39,t),(48,u),(49,v),(50,O),(51,x),(62,y),(64,z),(65,A),(66,B),(67,C),(78,D),(85,E),(86,F),(87,G),(88,H),(89,I),(92,J),(93,K),(94,L),(95,M)] := by intros; rfl
         refine R_nil (tr ..) ?_; clear tr
         refine then_n ?_
         exact ⟨_, _, ⟨u + 1, _, _, _, _, _, rfl, rfl, by exact q4, by omega, by exact all_step hb (by unfold badX; omega)⟩, by rfl, by omega⟩
      ·
       try simp only [decide_eq_true_eq, decide_eq_false_iff_not, Bool.not_eq_true', Bool.not_eq_false', beq_iff_eq, beq_eq_false_iff_ne, ne_eq] at h6
       refine at_exit rfl ?_
       refine then_x ?_
       refine then_x ?_
       refine blk_x ?_
       refine then_n ?_
       refine at_seq rfl ?_
       refine at_seq rfl ?_
       refine rg rfl ?_
       refine Rq ?_
       refine Rq ?_
       refine Rq ?_
       have tr : ∀ a b c d e f g h i j k m n o p q r s t u v w x y z A B C D E F G H I J K L M N O P : AV, let l := lc_costs5 a b c d e f g h i j k m n o p q r s t u v w x y z A B C D E F G H I J K L M; trim ((66,P)::(65,O)::(64,N)::l) l = [(0,a),(1,b),(2,c),(3,d),(4,e),(8,f),(9,g),(10,h),(12,i),(14,j),(15,k),(17,m),(18,n),(20,o),(21,p),(23,q),(28,r),(30,s),(39,t),(48,u),(49,v),(50,w),(51,x),(62,y),(64,N),(65,O),(66,P),(67,C),(78,D),(85,E),(86,F),(87,G),(88,H),(89,I),(92,J),(93,K),(94,L),(95,M)] := by intros; rfl
       refine R_nil (tr ..) ?_; clear tr
       refine then_n ?_
       refine at_block rfl ?_
       refine loop_n rfl (fun mm kv H' => ∃ v : Nat, ∃ x8 x9 x14 x67 x78 : AV, (kv = [(8, x8), (9, x9), (14, x14), (66, AV.i v), (67, x67), (78, x78)]) ∧ (mm = ws.length - v) ∧ (hget H' H.length = some [btsAV l, bwsAV m]) ∧ (v ≤ ws.length) ∧ (∀ i, i < v → ¬ badX m.length (gt ws i))) ⟨0, _, _, _, _, _, rfl, rfl, by exact q4, by omega, by intro i hi; omega⟩ (by rfl) ?_
       rintro mm kv H3 ⟨v, x8, x9, x14, x67, x78, rfl, rfl, q4, hv, hw⟩
       have tr : ∀ a b c d e f g h i j k m n o p q r s t u v w x y z A B C D E F G H I J K L M N O P Q R S : AV, upd [(0,a),(1,b),(2,c),(3,d),(4,e),(8,f),(9,g),(10,h),(12,i),(14,j),(15,k),(17,m),(18,n),(20,o),(21,p),(23,q),(28,r),(30,s),(39,t),(48,u),(49,v),(50,w),(51,x),(62,y),(64,z),(65,A),(66,B),(67,C),(78,D),(85,E),(86,F),(87,G),(88,H),(89,I),(92,J),(93,K),(94,L),(95,M)] [(8,N),(9,O),(14,P),(66,Q),(67,R),(78,S)] = [(0,a),(1,b),(2,c),(3,d),(4,e),(8,N),(9,O),(10,h),(12,i),(14,P),(15,k),(17,m),(18,n),(20,o),(21,p),(23,q),(28,r),(30,s),(39,t),(48,u),(49,v),(50,w),(51,x),(62,y),(64,z),(65,A),(66,Q),(67,R),(78,S),(85,E),(86,F),(87,G),(88,H),(89,I),(92,J),(93,K),(94,L),(95,M)] := by intros; rfl
       refine W_to (tr ..) ?_; clear tr
       refine at_seq rfl ?_
       refine rg rfl ?_
       refine Rq ?_
       have tr : ∀ a b c d e f g h i j k m n o p q r s t u v w x y z A B C D E F G H I J K L M N : AV, let l := lc_costs5 a b c d e f g h i j k m n o p q r s t u v w x y z A B C D E F G H I J K L M; trim ((67,N)::l) l = [(0,a),(1,b),(2,c),(3,d),(4,e),(8,f),(9,g),(10,h),(12,i),(14,j),(15,k),(17,m),(18,n),(20,o),(21,p),(23,q),(28,r),(30,s),(39,t),(48,u),(49,v),(50,w),(51,x),(62,y),(64,z),(65,A),(66,B),(67,N),(78,D),(85,E),(86,F),(87,G),(88,H),(89,I),(92,J),(93,K),(94,L),(95,M)] := by intros; rfl
       refine R_nil (tr ..) ?_; clear tr
       refine then_n ?_
       refine at_seq rfl ?_
       refine cdd (fun h9 => ?_) (fun h9 => ?_)
       ·
        try simp only [decide_eq_true_eq, decide_eq_false_iff_not, Bool.not_eq_true', Bool.not_eq_false', beq_iff_eq, beq_eq_false_iff_ne, ne_eq] at h9
        refine at_skip rfl ?_
        refine then_n ?_
        refine at_seq rfl ?_
        refine at_block rfl ?_
        refine at_seq rfl ?_
        refine rg rfl ?_
        refine Rq ?_
        refine R_q rfl (by simp (disch := first | omega | (simp only [List.length_map, List.length_append, List.length_set, List.length_cons, List.length_nil]; omega)) only [go_sem, ↓reduceIte, Nat.reduceEqDiff, reduceCtorEq, q4] <;> rfl) ?_
        refine Rq ?_
        have tr : ∀ a b c d e f g h i j k m n o p q r s t u v w x y z A B C D E F G H I J K L M N O P : AV, let l := lc_costs5 a b c d e f g h i j k m n o p q r s t u v w x y z A B C D E F G H I J K L M; trim ((14,P)::(69,O)::(68,N)::l) l = [(0,a),(1,b),(2,c),(3,d),(4,e),(8,f),(9,g),(10,h),(12,i),(14,P),(15,k),(17,m),(18,n),(20,o),(21,p),(23,q),(28,r),(30,s),(39,t),(48,u),(49,v),(50,w),(51,x),(62,y),(64,z),(65,A),(66,B),(67,C),(78,D),(85,E),(86,F),(87,G),(88,H),(89,I),(92,J),(93,K),(94,L),(95,M)] := by intros; rfl
        refine R_nil (tr ..) ?_; clear tr
        refine then_n ?_
        refine at_seq rfl ?_
        refine rg rfl ?_
        refine Rq ?_
        refine Rq ?_
        refine Rq ?_
        refine Rp_split (fun h10 => ?_) (fun h10 => ?_)
        ·
         try simp only [decide_eq_true_eq, decide_eq_false_iff_not, Bool.not_eq_true', Bool.not_eq_false', beq_iff_eq, beq_eq_false_iff_ne, ne_eq] at h10
         refine Rn ?_
         refine Rn ?_
         refine Rn ?_
         refine Rn ?_
         refine Rn ?_
         refine Rq ?_
         have tr : ∀ a b c d e f g h i j k m n o p q r s t u v w x y z A B C D E F G H I J K L M N O P Q R S T U V : AV, let l := lc_costs5 a b c d e f g h i j k m n o p q r s t u v w x y z A B C D E F G H I J K L M; trim ((78,V)::(77,U)::(76,T)::(75,S)::(74,R)::(73,Q)::(72,P)::(71,O)::(70,N)::l) l = [(0,a),(1,b),(2,c),(3,d),(4,e),(8,f),(9,g),(10,h),(12,i),(14,j),(15,k),(17,m),(18,n),(20,o),(21,p),(23,q),(28,r),(30,s),(39,t),(48,u),(49,v),(50,w),(51,x),(62,y),(64,z),(65,A),(66,B),(67,C),(78,V),(85,E),(86,F),(87,G),(88,H),(89,I),(92,J),(93,K),(94,L),(95,M)] := by intros; rfl
         refine R_nil (tr ..) ?_; clear tr
         refine then_n ?_
         refine cdt ?_
         refine at_seq rfl ?_
         refine rg rfl ?_
         refine Rq ?_
         refine Rq ?_
         have tr : ∀ a b c d e f g h i j k m n o p q r s t u v w x y z A B C D E F G H I J K L M N O : AV, let l := lc_costs5 a b c d e f g h i j k m n o p q r s t u v w x y z A B C D E F G H I J K L M; trim ((9,O)::(8,N)::l) l = [(0,a),(1,b),(2,c),(3,d),(4,e),(8,N),(9,O),(10,h),(12,i),(14,j),(15,k),(17,m),(18,n),(20,o),(21,p),(23,q),(28,r),(30,s),(39,t),(48,u),(49,v),(50,w),(51,x),(62,y),(64,z),(65,A),(66,B),(67,C),(78,D),(85,E),(86,F),(87,G),(88,H),(89,I),(92,J),(93,K),(94,L),(95,M)] := by intros; rfl
         refine R_nil (tr ..) ?_; clear tr
         refine then_n ?_
         refine at_ret rfl ?_
         refine blk_r ?_
         refine then_r ?_
         refine then_r ?_
         refine blk_r ?_
         refine then_r ?_
         refine fpure ?_
         refine ⟨?_, rfl⟩
         have he : coE l m bs ws balls = 1 := (by rw [coE, if_neg (fun hh => hh hc), if_neg (by omega), if_neg (by omega), if_neg (fun ⟨i, hi, hbi⟩ => hb i (by omega) hbi), if_pos ⟨v, by omega, by unfold badX; omega⟩])
         have hne : coE l m bs ws balls ≠ 0 := (by rw [he]; first | decide | assumption)
         rw [coA, if_pos hne, he]
        ·
         try simp only [decide_eq_true_eq, decide_eq_false_iff_not, Bool.not_eq_true', Bool.not_eq_false', beq_iff_eq, beq_eq_false_iff_ne, ne_eq] at h10
         refine Ry ?_
         refine Rq ?_
         refine Ry ?_
         refine Rq ?_
         refine Ry ?_
         refine R_q rfl (by simp (disch := first | omega | (simp only [List.length_map, List.length_append, List.length_set, List.length_cons, List.length_nil]; omega)) only [go_sem, ↓reduceIte, Nat.reduceEqDiff, reduceCtorEq, q4] <;> rfl) ?_
         refine Ry ?_
         refine Rq ?_
         refine Ry ?_
         refine Rq ?_
         refine Rq ?_
         have tr : ∀ a b c d e f g h i j k m n o p q r s t u v w x y z A B C D E F G H I J K L M N O P Q R S T U V : AV, let l := lc_costs5 a b c d e f g h i j k m n o p q r s t u v w x y z A B C D E F G H I J K L M; trim ((78,V)::(77,U)::(76,T)::(75,S)::(74,R)::(73,Q)::(72,P)::(71,O)::(70,N)::l) l = [(0,a),(1,b),(2,c),(3,d),(4,e),(8,f),(9,g),(10,h),(12,i),(14,j),(15,k),(17,m),(18,n),(20,o),(21,p),(23,q),(28,r),(30,s),(39,t),(48,u),(49,v),(50,w),(51,x),(62,y),(64,z),(65,A),(66,B),(67,C),(78,V),(85,E),(86,F),(87,G),(88,H),(89,I),(92,J),(93,K),(94,L),(95,M)] := by intros; rfl
         refine R_nil (tr ..) ?_; clear tr
         refine then_n ?_
         refine cdd (fun h11 => ?_) (fun h11 => ?_)
         ·
          try simp only [decide_eq_true_eq, decide_eq_false_iff_not, Bool.not_eq_true', Bool.not_eq_false', beq_iff_eq, beq_eq_false_iff_ne, ne_eq] at h11
          refine at_seq rfl ?_
          refine rg rfl ?_
          refine Rq ?_
          refine Rq ?_
          have tr : ∀ a b c d e f g h i j k m n o p q r s t u v w x y z A B C D E F G H I J K L M N O : AV, let l := lc_costs5 a b c d e f g h i j k m n o p q r s t u v w x y z A B C D E F G H I J K L M; trim ((9,O)::(8,N)::l) l = [(0,a),(1,b),(2,c),(3,d),(4,e),(8,N),(9,O),(10,h),(12,i),(14,j),(15,k),(17,m),(18,n),(20,o),(21,p),(23,q),(28,r),(30,s),(39,t),(48,u),(49,v),(50,w),(51,x),(62,y),(64,z),(65,A),(66,B),(67,C),(78,D),(85,E),(86,F),(87,G),(88,H),(89,I),(92,J),(93,K),(94,L),(95,M)] := by intros; rfl
          refine R_nil (tr ..) ?_; clear tr
          refine then_n ?_
          refine at_ret rfl ?_
          refine blk_r ?_
          refine then_r ?_
          refine then_r ?_
          refine blk_r ?_
          refine then_r ?_
          refine fpure ?_
          refine ⟨?_, rfl⟩
          have he : coE l m bs ws balls = 1 := (by rw [coE, if_neg (fun hh => hh hc), if_neg (by omega), if_neg (by omega), if_neg (fun ⟨i, hi, hbi⟩ => hb i (by omega) hbi), if_pos ⟨v, by omega, by unfold badX; omega⟩])
          have hne : coE l m bs ws balls ≠ 0 := (by rw [he]; first | decide | assumption)
          rw [coA, if_pos hne, he]
         ·
          try simp only [decide_eq_true_eq, decide_eq_false_iff_not, Bool.not_eq_true', Bool.not_eq_false', beq_iff_eq, beq_eq_false_iff_ne, ne_eq] at h11
          refine at_skip rfl ?_
          refine blk_n ?_
          refine then_n ?_
          refine rg rfl ?_
          refine Rq ?_
          refine Rq ?_
          have tr : ∀ a b c d e f g h i j k m n o p q r s t u v w x y z A B C D E F G H I J K L M N O : AV, let l := lc_costs5 a b c d e f g h i j k m n o p q r s t u v w x y z A B C D E F G H I J K L M; trim ((66,O)::(79,N)::l) l = [(0,a),(1,b),(2,c),(3,d),(4,e),(8,f),(9,g),(10,h),(12,i),(14,j),(15,k),(17,m),(18,n),(20,o),(21,p),(23,q),(28,r),(30,s),(39,t),(48,u),(49,v),(50,w),(51,x),(62,y),(64,z),(65,A),(66,O),(67,C),(78,D),(85,E),(86,F),(87,G),(88,H),(89,I),(92,J),(93,K),(94,L),(95,M)] := by intros; rfl
          refine R_nil (tr ..) ?_; clear tr
          refine then_n ?_
          exact ⟨_, _, ⟨v + 1, _, _, _, _, _, rfl, rfl, by exact q4, by omega, by exact all_step hw (by unfold badX; omega)⟩, by rfl, by omega⟩
       ·
        try simp only [decide_eq_true_eq, decide_eq_false_iff_not, Bool.not_eq_true', Bool.not_eq_false', beq_iff_eq, beq_eq_false_iff_ne, ne_eq] at h9
        refine at_exit rfl ?_
        refine then_x ?_
        refine then_x ?_
        refine blk_x ?_
        refine then_n ?_
        refine at_seq rfl ?_
        refine at_seq rfl ?_
        refine rg rfl ?_
        have hub : u = bs.length := (by omega)
        subst hub
        have hvw : v = ws.length := (by omega)
        subst hvw
        refine Rq ?_
        refine Rq ?_
        refine Rq ?_
        refine Rp_split (fun h12 => ?_) (fun h12 => ?_)
        ·
         try simp only [decide_eq_true_eq, decide_eq_false_iff_not, Bool.not_eq_true', Bool.not_eq_false', beq_iff_eq, beq_eq_false_iff_ne, ne_eq] at h12
         refine Rn ?_
         refine Rn ?_
         refine Rq ?_
         have tr : ∀ a b c d e f g h i j k m n o p q r s t u v w x y z A B C D E F G H I J K L M N O P Q R S : AV, let l := lc_costs5 a b c d e f g h i j k m n o p q r s t u v w x y z A B C D E F G H I J K L M; trim ((85,S)::(84,R)::(83,Q)::(82,P)::(81,O)::(80,N)::l) l = [(0,a),(1,b),(2,c),(3,d),(4,e),(8,f),(9,g),(10,h),(12,i),(14,j),(15,k),(17,m),(18,n),(20,o),(21,p),(23,q),(28,r),(30,s),(39,t),(48,u),(49,v),(50,w),(51,x),(62,y),(64,z),(65,A),(66,B),(67,C),(78,D),(85,S),(86,F),(87,G),(88,H),(89,I),(92,J),(93,K),(94,L),(95,M)] := by intros; rfl
         refine R_nil (tr ..) ?_; clear tr
         refine then_n ?_
         refine cdt ?_
         refine at_seq rfl ?_
         refine rg rfl ?_
         refine Rq ?_
         refine Rq ?_
         have tr : ∀ a b c d e f g h i j k m n o p q r s t u v w x y z A B C D E F G H I J K L M N O : AV, let l := lc_costs5 a b c d e f g h i j k m n o p q r s t u v w x y z A B C D E F G H I J K L M; trim ((9,O)::(8,N)::l) l = [(0,a),(1,b),(2,c),(3,d),(4,e),(8,N),(9,O),(10,h),(12,i),(14,j),(15,k),(17,m),(18,n),(20,o),(21,p),(23,q),(28,r),(30,s),(39,t),(48,u),(49,v),(50,w),(51,x),(62,y),(64,z),(65,A),(66,B),(67,C),(78,D),(85,E),(86,F),(87,G),(88,H),(89,I),(92,J),(93,K),(94,L),(95,M)] := by intros; rfl
         refine R_nil (tr ..) ?_; clear tr
         refine then_n ?_
         refine at_ret rfl ?_
         refine then_r ?_
         refine fpure ?_
         refine ⟨?_, rfl⟩
         have he : coE l m bs ws balls = 2 := (by rw [coE, if_neg (fun hh => hh hc), if_neg (by omega), if_neg (by omega), if_neg (fun ⟨i, hi, hbi⟩ => hb i (by omega) hbi), if_neg (fun ⟨i, hi, hbi⟩ => hw i (by omega) hbi), if_pos (by omega)])
         have hne : coE l m bs ws balls ≠ 0 := (by rw [he]; first | decide | assumption)
         rw [coA, if_pos hne, he]
        ·
         try simp only [decide_eq_true_eq, decide_eq_false_iff_not, Bool.not_eq_true', Bool.not_eq_false', beq_iff_eq, beq_eq_false_iff_ne, ne_eq] at h12
         refine Ry ?_
         refine Rq ?_
         refine Ry ?_
         refine Rq ?_
         refine Rq ?_
         have tr : ∀ a b c d e f g h i j k m n o p q r s t u v w x y z A B C D E F G H I J K L M N O P Q R S : AV, let l := lc_costs5 a b c d e f g h i j k m n o p q r s t u v w x y z A B C D E F G H I J K L M; trim ((85,S)::(84,R)::(83,Q)::(82,P)::(81,O)::(80,N)::l) l = [(0,a),(1,b),(2,c),(3,d),(4,e),(8,f),(9,g),(10,h),(12,i),(14,j),(15,k),(17,m),(18,n),(20,o),(21,p),(23,q),(28,r),(30,s),(39,t),(48,u),(49,v),(50,w),(51,x),(62,y),(64,z),(65,A),(66,B),(67,C),(78,D),(85,S),(86,F),(87,G),(88,H),(89,I),(92,J),(93,K),(94,L),(95,M)] := by intros; rfl
         refine R_nil (tr ..) ?_; clear tr
         refine then_n ?_
         refine cdd (fun h13 => ?_) (fun h13 => ?_)
         ·
          try simp only [decide_eq_true_eq, decide_eq_false_iff_not, Bool.not_eq_true', Bool.not_eq_false', beq_iff_eq, beq_eq_false_iff_ne, ne_eq] at h13
          refine at_seq rfl ?_
          refine rg rfl ?_
          refine Rq ?_
          refine Rq ?_
          have tr : ∀ a b c d e f g h i j k m n o p q r s t u v w x y z A B C D E F G H I J K L M N O : AV, let l := lc_costs5 a b c d e f g h i j k m n o p q r s t u v w x y z A B C D E F G H I J K L M; trim ((9,O)::(8,N)::l) l = [(0,a),(1,b),(2,c),(3,d),(4,e),(8,N),(9,O),(10,h),(12,i),(14,j),(15,k),(17,m),(18,n),(20,o),(21,p),(23,q),(28,r),(30,s),(39,t),(48,u),(49,v),(50,w),(51,x),(62,y),(64,z),(65,A),(66,B),(67,C),(78,D),(85,E),(86,F),(87,G),(88,H),(89,I),(92,J),(93,K),(94,L),(95,M)] := by intros; rfl
          refine R_nil (tr ..) ?_; clear tr
          refine then_n ?_
          refine at_ret rfl ?_
          refine then_r ?_
          refine fpure ?_
          refine ⟨?_, rfl⟩
          have he : coE l m bs ws balls = 2 := (by rw [coE, if_neg (fun hh => hh hc), if_neg (by omega), if_neg (by omega), if_neg (fun ⟨i, hi, hbi⟩ => hb i (by omega) hbi), if_neg (fun ⟨i, hi, hbi⟩ => hw i (by omega) hbi), if_pos (by omega)])
          have hne : coE l m bs ws balls ≠ 0 := (by rw [he]; first | decide | assumption)
          rw [coA, if_pos hne, he]
         ·
          try simp only [decide_eq_true_eq, decide_eq_false_iff_not, Bool.not_eq_true', Bool.not_eq_false', beq_iff_eq, beq_eq_false_iff_ne, ne_eq] at h13
          refine at_skip rfl ?_
          refine then_n ?_
          refine at_seq rfl ?_
          refine rg rfl ?_
          refine Rq ?_
          have tr : ∀ a b c d e f g h i j k m n o p q r s t u v w x y z A B C D E F G H I J K L M N : AV, let l := lc_costs5 a b c d e f g h i j k m n o p q r s t u v w x y z A B C D E F G H I J K L M; trim ((15,N)::l) l = [(0,a),(1,b),(2,c),(3,d),(4,e),(8,f),(9,g),(10,h),(12,i),(14,j),(15,N),(17,m),(18,n),(20,o),(21,p),(23,q),(28,r),(30,s),(39,t),(48,u),(49,v),(50,w),(51,x),(62,y),(64,z),(65,A),(66,B),(67,C),(78,D),(85,E),(86,F),(87,G),(88,H),(89,I),(92,J),(93,K),(94,L),(95,M)] := by intros; rfl
          refine R_nil (tr ..) ?_; clear tr
          refine then_n ?_
          refine at_seq rfl ?_
          refine at_seq rfl ?_
          refine rg rfl ?_
          refine Rq ?_
          refine Rq ?_
          refine Rq ?_
          have tr : ∀ a b c d e f g h i j k m n o p q r s t u v w x y z A B C D E F G H I J K L M N O P : AV, let l := lc_costs5 a b c d e f g h i j k m n o p q r s t u v w x y z A B C D E F G H I J K L M; trim ((88,P)::(87,O)::(86,N)::l) l = [(0,a),(1,b),(2,c),(3,d),(4,e),(8,f),(9,g),(10,h),(12,i),(14,j),(15,k),(17,m),(18,n),(20,o),(21,p),(23,q),(28,r),(30,s),(39,t),(48,u),(49,v),(50,w),(51,x),(62,y),(64,z),(65,A),(66,B),(67,C),(78,D),(85,E),(86,N),(87,O),(88,P),(89,I),(92,J),(93,K),(94,L),(95,M)] := by intros; rfl
          refine R_nil (tr ..) ?_; clear tr
          refine then_n ?_
          refine at_block rfl ?_
          refine loop_n rfl (fun mm kv H' => ∃ a : Nat, ∃ o : AV, ∃ x17 x18 x20 x21 x23 x89 x92 x93 x94 x95 : AV, (kv = [(15, o), (17, x17), (18, x18), (20, x20), (21, x21), (23, x23), (88, AV.i a), (89, x89), (92, x92), (93, x93), (94, x94), (95, x95)]) ∧ (mm = bs.length - a) ∧ (hget H' H.length = some [btsAV l, bwsAV m]) ∧ (a ≤ bs.length) ∧ (OutR (H.length + 1) H' o ((coV l m bs ws balls).take a)) ∧ (H.length < H'.length)) ⟨0, nilO, _, _, _, _, _, _, _, _, _, _, rfl, rfl, by exact q4, by omega, by exact .inl ⟨rfl, rfl⟩, by exact hget_lt q4⟩ (by rfl) ?_
          rintro mm kv H4 ⟨a, o, x17, x18, x20, x21, x23, x89, x92, x93, x94, x95, rfl, rfl, q4, ha, hR, hlR⟩
          have tr : ∀ a b c d e f g h i j k m n o p q r s t u v w x y z A B C D E F G H I J K L M N O P Q R S T U V W X Y : AV, upd [(0,a),(1,b),(2,c),(3,d),(4,e),(8,f),(9,g),(10,h),(12,i),(14,j),(15,k),(17,m),(18,n),(20,o),(21,p),(23,q),(28,r),(30,s),(39,t),(48,u),(49,v),(50,w),(51,x),(62,y),(64,z),(65,A),(66,B),(67,C),(78,D),(85,E),(86,F),(87,G),(88,H),(89,I),(92,J),(93,K),(94,L),(95,M)] [(15,N),(17,O),(18,P),(20,Q),(21,R),(23,S),(88,T),(89,U),(92,V),(93,W),(94,X),(95,Y)] = [(0,a),(1,b),(2,c),(3,d),(4,e),(8,f),(9,g),(10,h),(12,i),(14,j),(15,N),(17,O),(18,P),(20,Q),(21,R),(23,S),(28,r),(30,s),(39,t),(48,u),(49,v),(50,w),(51,x),(62,y),(64,z),(65,A),(66,B),(67,C),(78,D),(85,E),(86,F),(87,G),(88,T),(89,U),(92,V),(93,W),(94,X),(95,Y)] := by intros; rfl
          refine W_to (tr ..) ?_; clear tr
          refine at_seq rfl ?_
          refine rg rfl ?_
          have hba := fun ha1 : a < bs.length => hb a ha1
          have hbw0 : ∀ c, c < ws.length → 0 ≤ gt ws c ∧ gt ws c < m.length := fun c hc2 => by have := hw c hc2; unfold badX at this; omega
          refine Rq ?_
          have tr : ∀ a b c d e f g h i j k m n o p q r s t u v w x y z A B C D E F G H I J K L M N : AV, let l := lc_costs5 a b c d e f g h i j k m n o p q r s t u v w x y z A B C D E F G H I J K L M; trim ((89,N)::l) l = [(0,a),(1,b),(2,c),(3,d),(4,e),(8,f),(9,g),(10,h),(12,i),(14,j),(15,k),(17,m),(18,n),(20,o),(21,p),(23,q),(28,r),(30,s),(39,t),(48,u),(49,v),(50,w),(51,x),(62,y),(64,z),(65,A),(66,B),(67,C),(78,D),(85,E),(86,F),(87,G),(88,H),(89,N),(92,J),(93,K),(94,L),(95,M)] := by intros; rfl
          refine R_nil (tr ..) ?_; clear tr
          refine then_n ?_
          refine at_seq rfl ?_
          refine cdd (fun h14 => ?_) (fun h14 => ?_)
          ·
           try simp only [decide_eq_true_eq, decide_eq_false_iff_not, Bool.not_eq_true', Bool.not_eq_false', beq_iff_eq, beq_eq_false_iff_ne, ne_eq] at h14
           refine at_skip rfl ?_
           refine then_n ?_
           refine at_seq rfl ?_
           refine at_block rfl ?_
           refine at_seq rfl ?_
           refine rg rfl ?_
           refine Rq ?_
           refine R_q rfl (by simp (disch := first | omega | (simp only [List.length_map, List.length_append, List.length_set, List.length_cons, List.length_nil]; omega)) only [go_sem, ↓reduceIte, Nat.reduceEqDiff, reduceCtorEq, q4] <;> rfl) ?_
           refine Rq ?_
           have tr : ∀ a b c d e f g h i j k m n o p q r s t u v w x y z A B C D E F G H I J K L M N O P : AV, let l := lc_costs5 a b c d e f g h i j k m n o p q r s t u v w x y z A B C D E F G H I J K L M; trim ((17,P)::(91,O)::(90,N)::l) l = [(0,a),(1,b),(2,c),(3,d),(4,e),(8,f),(9,g),(10,h),(12,i),(14,j),(15,k),(17,P),(18,n),(20,o),(21,p),(23,q),(28,r),(30,s),(39,t),(48,u),(49,v),(50,w),(51,x),(62,y),(64,z),(65,A),(66,B),(67,C),(78,D),(85,E),(86,F),(87,G),(88,H),(89,I),(92,J),(93,K),(94,L),(95,M)] := by intros; rfl
           refine R_nil (tr ..) ?_; clear tr
           refine then_n ?_
           refine at_seq rfl ?_
           refine rg rfl ?_
           refine Rq ?_
           have tr : ∀ a b c d e f g h i j k m n o p q r s t u v w x y z A B C D E F G H I J K L M N : AV, let l := lc_costs5 a b c d e f g h i j k m n o p q r s t u v w x y z A B C D E F G H I J K L M; trim ((18,N)::l) l = [(0,a),(1,b),(2,c),(3,d),(4,e),(8,f),(9,g),(10,h),(12,i),(14,j),(15,k),(17,m),(18,N),(20,o),(21,p),(23,q),(28,r),(30,s),(39,t),(48,u),(49,v),(50,w),(51,x),(62,y),(64,z),(65,A),(66,B),(67,C),(78,D),(85,E),(86,F),(87,G),(88,H),(89,I),(92,J),(93,K),(94,L),(95,M)] := by intros; rfl
           refine R_nil (tr ..) ?_; clear tr
           refine then_n ?_
           refine at_seq rfl ?_
           refine at_seq rfl ?_
           refine rg rfl ?_
           refine Rq ?_
           refine Rq ?_
           refine Rq ?_
           have tr : ∀ a b c d e f g h i j k m n o p q r s t u v w x y z A B C D E F G H I J K L M N O P : AV, let l := lc_costs5 a b c d e f g h i j k m n o p q r s t u v w x y z A B C D E F G H I J K L M; trim ((94,P)::(93,O)::(92,N)::l) l = [(0,a),(1,b),(2,c),(3,d),(4,e),(8,f),(9,g),(10,h),(12,i),(14,j),(15,k),(17,m),(18,n),(20,o),(21,p),(23,q),(28,r),(30,s),(39,t),(48,u),(49,v),(50,w),(51,x),(62,y),(64,z),(65,A),(66,B),(67,C),(78,D),(85,E),(86,F),(87,G),(88,H),(89,I),(92,N),(93,O),(94,P),(95,M)] := by intros; rfl
           refine R_nil (tr ..) ?_; clear tr
           refine then_n ?_
           refine at_block rfl ?_
           refine loop_n rfl (fun mm kv H' => ∃ c : Nat, ∃ p : AV, ∃ x20 x21 x23 x95 : AV, (kv = [(18, p), (20, x20), (21, x21), (23, x23), (94, AV.i c), (95, x95)]) ∧ (mm = ws.length - c) ∧ (hget H' H.length = some [btsAV l, bwsAV m]) ∧ (c ≤ ws.length) ∧ (OutI H4.length H' p ((coR l m ws balls (gt bs a)).take c)) ∧ (∀ b, b < H4.length → hget H' b = hget H4 b) ∧ (H4.length ≤ H'.length)) ⟨0, nilO, _, _, _, _, rfl, rfl, by exact q4, by omega, by exact .inl ⟨rfl, rfl⟩, by exact fun b hb => rfl, by exact Nat.le_refl _⟩ (by rfl) ?_
           rintro mm kv H5 ⟨c, p, x20, x21, x23, x95, rfl, rfl, q4, hcc, hI, hold, hlI⟩
           have tr : ∀ a b c d e f g h i j k m n o p q r s t u v w x y z A B C D E F G H I J K L M N O P Q R S : AV, upd [(0,a),(1,b),(2,c),(3,d),(4,e),(8,f),(9,g),(10,h),(12,i),(14,j),(15,k),(17,m),(18,n),(20,o),(21,p),(23,q),(28,r),(30,s),(39,t),(48,u),(49,v),(50,w),(51,x),(62,y),(64,z),(65,A),(66,B),(67,C),(78,D),(85,E),(86,F),(87,G),(88,H),(89,I),(92,J),(93,K),(94,L),(95,M)] [(18,N),(20,O),(21,P),(23,Q),(94,R),(95,S)] = [(0,a),(1,b),(2,c),(3,d),(4,e),(8,f),(9,g),(10,h),(12,i),(14,j),(15,k),(17,m),(18,N),(20,O),(21,P),(23,Q),(28,r),(30,s),(39,t),(48,u),(49,v),(50,w),(51,x),(62,y),(64,z),(65,A),(66,B),(67,C),(78,D),(85,E),(86,F),(87,G),(88,H),(89,I),(92,J),(93,K),(94,R),(95,S)] := by intros; rfl
           refine W_to (tr ..) ?_; clear tr
           have hbw := fun hc : c < ws.length => hbw0 c hc
           refine at_seq rfl ?_
           refine rg rfl ?_
           have hba2 : 0 ≤ gt bs a ∧ gt bs a < l.length := by have := hba (by omega); unfold badX at this; omega
           refine Rq ?_
           have tr : ∀ a b c d e f g h i j k m n o p q r s t u v w x y z A B C D E F G H I J K L M N : AV, let l := lc_costs5 a b c d e f g h i j k m n o p q r s t u v w x y z A B C D E F G H I J K L M; trim ((95,N)::l) l = [(0,a),(1,b),(2,c),(3,d),(4,e),(8,f),(9,g),(10,h),(12,i),(14,j),(15,k),(17,m),(18,n),(20,o),(21,p),(23,q),(28,r),(30,s),(39,t),(48,u),(49,v),(50,w),(51,x),(62,y),(64,z),(65,A),(66,B),(67,C),(78,D),(85,E),(86,F),(87,G),(88,H),(89,I),(92,J),(93,K),(94,L),(95,N)] := by intros; rfl
           refine R_nil (tr ..) ?_; clear tr
           refine then_n ?_
           refine at_seq rfl ?_
           refine cdd (fun h15 => ?_) (fun h15 => ?_)
           ·
            try simp only [decide_eq_true_eq, decide_eq_false_iff_not, Bool.not_eq_true', Bool.not_eq_false', beq_iff_eq, beq_eq_false_iff_ne, ne_eq] at h15
            refine at_skip rfl ?_
            refine then_n ?_
            refine at_seq rfl ?_
            refine at_block rfl ?_
            refine at_seq rfl ?_
            refine rg rfl ?_
            refine Rq ?_
            refine R_q rfl (by simp (disch := first | omega | (simp only [List.length_map, List.length_append, List.length_set, List.length_cons, List.length_nil]; omega)) only [go_sem, ↓reduceIte, Nat.reduceEqDiff, reduceCtorEq, q4] <;> rfl) ?_
            refine Rq ?_
            have tr : ∀ a b c d e f g h i j k m n o p q r s t u v w x y z A B C D E F G H I J K L M N O P : AV, let l := lc_costs5 a b c d e f g h i j k m n o p q r s t u v w x y z A B C D E F G H I J K L M; trim ((20,P)::(97,O)::(96,N)::l) l = [(0,a),(1,b),(2,c),(3,d),(4,e),(8,f),(9,g),(10,h),(12,i),(14,j),(15,k),(17,m),(18,n),(20,P),(21,p),(23,q),(28,r),(30,s),(39,t),(48,u),(49,v),(50,w),(51,x),(62,y),(64,z),(65,A),(66,B),(67,C),(78,D),(85,E),(86,F),(87,G),(88,H),(89,I),(92,J),(93,K),(94,L),(95,M)] := by intros; rfl
            refine R_nil (tr ..) ?_; clear tr
            refine then_n ?_
            refine at_seq rfl ?_
            refine rg rfl ?_
            refine R_q rfl (by simp (disch := first | omega | (simp only [List.length_map, List.length_append, List.length_set, List.length_cons, List.length_nil]; omega)) only [go_sem, ↓reduceIte, Nat.reduceEqDiff, reduceCtorEq, q4] <;> rfl) ?_
            refine Rq ?_
            refine Rq ?_
            refine Rcall ?_
            refine ACall_eq (ball11 _ _ l m hL hM hc (gt bs a) (gt ws c) (by omega) (by omega) (by have := hbw (by omega); omega) (by have := hbw (by omega); omega)) ?_
            refine Rq ?_
            refine Rq ?_
            refine Rq ?_
            refine Rq ?_
            refine Rq ?_
            have tr : ∀ a b c d e f g h i j k m n o p q r s t u v w x y z A B C D E F G H I J K L M N O P Q R S T U V : AV, let l := lc_costs5 a b c d e f g h i j k m n o p q r s t u v w x y z A B C D E F G H I J K L M; trim ((22,V)::(21,U)::(104,T)::(103,S)::(98,R)::(102,Q)::(101,P)::(100,O)::(99,N)::l) l = [(0,a),(1,b),(2,c),(3,d),(4,e),(8,f),(9,g),(10,h),(12,i),(14,j),(15,k),(17,m),(18,n),(20,o),(21,U),(23,q),(28,r),(30,s),(39,t),(48,u),(49,v),(50,w),(51,x),(62,y),(64,z),(65,A),(66,B),(67,C),(78,D),(85,E),(86,F),(87,G),(88,H),(89,I),(92,J),(93,K),(94,L),(95,M)] := by intros; rfl
            refine R_nil (tr ..) ?_; clear tr
            refine then_n ?_
            refine at_seq rfl ?_
            refine rg rfl ?_
            refine Rq ?_
            refine Rcall ?_
            refine ACall_eq (mean12 _ _ (shS (gt l (gt bs a).toNat).ds (gt m (gt ws c).toNat).sh)) ?_
            refine Rq ?_
            refine Rq ?_
            refine Rq ?_
            refine Rq ?_
            refine Rq ?_
            have tr : ∀ a b c d e f g h i j k m n o p q r s t u v w x y z A B C D E F G H I J K L M N O P Q R S T : AV, let l := lc_costs5 a b c d e f g h i j k m n o p q r s t u v w x y z A B C D E F G H I J K L M; trim ((24,T)::(23,S)::(109,R)::(108,Q)::(105,P)::(107,O)::(106,N)::l) l = [(0,a),(1,b),(2,c),(3,d),(4,e),(8,f),(9,g),(10,h),(12,i),(14,j),(15,k),(17,m),(18,n),(20,o),(21,p),(23,S),(28,r),(30,s),(39,t),(48,u),(49,v),(50,w),(51,x),(62,y),(64,z),(65,A),(66,B),(67,C),(78,D),(85,E),(86,F),(87,G),(88,H),(89,I),(92,J),(93,K),(94,L),(95,M)] := by intros; rfl
            refine R_nil (tr ..) ?_; clear tr
            refine then_n ?_
            refine rg rfl ?_
            have hmb := mean_box (shS (gt l (gt bs a).toNat).ds (gt m (gt ws c).toNat).sh)
            have hmp := Int.mul_le_mul (show balls ≤ 8 by omega) hmb.2 hmb.1 (by omega)
            have hmq := Int.mul_nonneg (show 0 ≤ balls by omega) hmb.1
            refine Rq ?_
            refine Rq ?_
            refine Rq ?_
            refine Rq ?_
            refine A_buildSlice (bs36 _ _ _ _ (balls * (meanS (shS (gt l (gt bs a).toNat).ds (gt m (gt ws c).toNat).sh)).1) (by simp (disch := first | omega | (simp only [List.length_map, List.length_append, List.length_set, List.length_cons, List.length_nil]; omega)) only [go_sem, ↓reduceIte, Nat.reduceEqDiff, reduceCtorEq] <;> rfl)) ?_
            intro H6 n6
            have en6 := n6.len
            have q6 := n6.new
            have q4 := (n6.old _ (hget_lt q4)).trans q4
            have hI := hI.mono fun b hb k hk => (n6.old _ (hget_lt hk)).trans hk
            obtain ⟨H8, hap, hI8, hlen8, hk8⟩ := outI_app (lim := H.length) hI q6 (by omega) (by omega) (by have := List.length_take_le c (coR l m ws balls (gt bs a)); omega)
            refine R_append (by simp (disch := first | omega | (simp only [List.length_map, List.length_append, List.length_set, List.length_cons, List.length_nil]; omega)) only [go_sem, ↓reduceIte, Nat.reduceEqDiff, reduceCtorEq]; exact hap) ?_
            have q4 := (hk8 _ (by omega)).trans q4
            have hold8 : ∀ b, b < H4.length → hget H8 b = hget H4 b := fun b hb => (hk8 b hb).trans ((n6.old b (by omega)).trans (hold b hb))
            have hl8 : H4.length ≤ H8.length := by omega
            refine Rq ?_
            have tr : ∀ a b c d e f g h i j k m n o p q r s t u v w x y z A B C D E F G H I J K L M N O P Q R S T : AV, let l := lc_costs5 a b c d e f g h i j k m n o p q r s t u v w x y z A B C D E F G H I J K L M; trim ((18,T)::(115,S)::(114,R)::(113,Q)::(112,P)::(111,O)::(110,N)::l) l = [(0,a),(1,b),(2,c),(3,d),(4,e),(8,f),(9,g),(10,h),(12,i),(14,j),(15,k),(17,m),(18,T),(20,o),(21,p),(23,q),(28,r),(30,s),(39,t),(48,u),(49,v),(50,w),(51,x),(62,y),(64,z),(65,A),(66,B),(67,C),(78,D),(85,E),(86,F),(87,G),(88,H),(89,I),(92,J),(93,K),(94,L),(95,M)] := by intros; rfl
            refine R_nil (tr ..) ?_; clear tr
            refine blk_n ?_
            refine then_n ?_
            refine rg rfl ?_
            refine Rq ?_
            refine Rq ?_
            have tr : ∀ a b c d e f g h i j k m n o p q r s t u v w x y z A B C D E F G H I J K L M N O : AV, let l := lc_costs5 a b c d e f g h i j k m n o p q r s t u v w x y z A B C D E F G H I J K L M; trim ((94,O)::(116,N)::l) l = [(0,a),(1,b),(2,c),(3,d),(4,e),(8,f),(9,g),(10,h),(12,i),(14,j),(15,k),(17,m),(18,n),(20,o),(21,p),(23,q),(28,r),(30,s),(39,t),(48,u),(49,v),(50,w),(51,x),(62,y),(64,z),(65,A),(66,B),(67,C),(78,D),(85,E),(86,F),(87,G),(88,H),(89,I),(92,J),(93,K),(94,O),(95,M)] := by intros; rfl
            refine R_nil (tr ..) ?_; clear tr
            refine then_n ?_
            exact ⟨_, _, ⟨c + 1, _, _, _, _, _, rfl, rfl, by exact q4, by omega, by rw [coR_step (by omega)]; exact hI8, by exact hold8, by exact hl8⟩, by rfl, by omega⟩
           ·
            try simp only [decide_eq_true_eq, decide_eq_false_iff_not, Bool.not_eq_true', Bool.not_eq_false', beq_iff_eq, beq_eq_false_iff_ne, ne_eq] at h15
            refine at_exit rfl ?_
            refine then_x ?_
            refine then_x ?_
            refine blk_x ?_
            refine then_n ?_
            refine rg rfl ?_
            have e16 : (coR l m ws balls (gt bs a)).take c = (coR l m ws balls (gt bs a)) := List.take_of_length_le (by rw [coR_len]; omega)
            rewrite [e16] at hI
            obtain ⟨hr0, br, rfl, hbr, qr⟩ := hI.resolve_left (fun hh => by have h7 := congrArg List.length hh.1; rw [coR_len, List.length_nil] at h7; omega)
            have hR := hR.mono fun b hb k hk => (hold b (hget_lt hk)).trans hk
            refine Rq ?_
            refine Rq ?_
            refine A_buildSlice (bs32 _ _ _ _ br (coR l m ws balls (gt bs a)).length (by simp (disch := first | omega | (simp only [List.length_map, List.length_append, List.length_set, List.length_cons, List.length_nil]; omega)) only [go_sem, ↓reduceIte, Nat.reduceEqDiff, reduceCtorEq] <;> rfl)) ?_
            intro H9 n9
            have en9 := n9.len
            have q9 := n9.new
            have q4 := (n9.old _ (hget_lt q4)).trans q4
            have qr := (n9.old _ (hget_lt qr)).trans qr
            have hR := hR.mono fun b hb k hk => (n9.old _ (hget_lt hk)).trans hk
            obtain ⟨HB, hap, hR2, hlenB, hkB⟩ := outR_app (lim := H.length) hR q9 qr hr0 (by omega) (by omega) (by omega) (by have := List.length_take_le a (coV l m bs ws balls); omega)
            refine R_append (by simp (disch := first | omega | (simp only [List.length_map, List.length_append, List.length_set, List.length_cons, List.length_nil]; omega)) only [go_sem, ↓reduceIte, Nat.reduceEqDiff, reduceCtorEq]; exact hap) ?_
            have q4 := (hkB _ (by omega)).trans q4
            have hR := hR2
            refine Rq ?_
            have tr : ∀ a b c d e f g h i j k m n o p q r s t u v w x y z A B C D E F G H I J K L M N O P Q R : AV, let l := lc_costs5 a b c d e f g h i j k m n o p q r s t u v w x y z A B C D E F G H I J K L M; trim ((15,R)::(120,Q)::(119,P)::(118,O)::(117,N)::l) l = [(0,a),(1,b),(2,c),(3,d),(4,e),(8,f),(9,g),(10,h),(12,i),(14,j),(15,R),(17,m),(18,n),(20,o),(21,p),(23,q),(28,r),(30,s),(39,t),(48,u),(49,v),(50,w),(51,x),(62,y),(64,z),(65,A),(66,B),(67,C),(78,D),(85,E),(86,F),(87,G),(88,H),(89,I),(92,J),(93,K),(94,L),(95,M)] := by intros; rfl
            refine R_nil (tr ..) ?_; clear tr
            refine blk_n ?_
            refine then_n ?_
            refine rg rfl ?_
            refine Rq ?_
            refine Rq ?_
            have tr : ∀ a b c d e f g h i j k m n o p q r s t u v w x y z A B C D E F G H I J K L M N O : AV, let l := lc_costs5 a b c d e f g h i j k m n o p q r s t u v w x y z A B C D E F G H I J K L M; trim ((88,O)::(121,N)::l) l = [(0,a),(1,b),(2,c),(3,d),(4,e),(8,f),(9,g),(10,h),(12,i),(14,j),(15,k),(17,m),(18,n),(20,o),(21,p),(23,q),(28,r),(30,s),(39,t),(48,u),(49,v),(50,w),(51,x),(62,y),(64,z),(65,A),(66,B),(67,C),(78,D),(85,E),(86,F),(87,G),(88,O),(89,I),(92,J),(93,K),(94,L),(95,M)] := by intros; rfl
            refine R_nil (tr ..) ?_; clear tr
            refine then_n ?_
            exact ⟨_, _, ⟨a + 1, _, _, _, _, _, _, _, _, _, _, _, rfl, rfl, by exact q4, by omega, by rw [coV_step (by omega)]; exact hR, by exact hget_lt q4⟩, by rfl, by omega⟩
          ·
           try simp only [decide_eq_true_eq, decide_eq_false_iff_not, Bool.not_eq_true', Bool.not_eq_false', beq_iff_eq, beq_eq_false_iff_ne, ne_eq] at h14
           refine at_exit rfl ?_
           refine then_x ?_
           refine then_x ?_
           refine blk_x ?_
           refine then_n ?_
           refine at_seq rfl ?_
           refine rg rfl ?_
           refine Rq ?_
           refine Rq ?_
           refine Rq ?_
           have tr : ∀ a b c d e f g h i j k m n o p q r s t u v w x y z A B C D E F G H I J K L M N O P : AV, let l := lc_costs5 a b c d e f g h i j k m n o p q r s t u v w x y z A B C D E F G H I J K L M; trim ((9,P)::(8,O)::(122,N)::l) l = [(0,a),(1,b),(2,c),(3,d),(4,e),(8,O),(9,P),(10,h),(12,i),(14,j),(15,k),(17,m),(18,n),(20,o),(21,p),(23,q),(28,r),(30,s),(39,t),(48,u),(49,v),(50,w),(51,x),(62,y),(64,z),(65,A),(66,B),(67,C),(78,D),(85,E),(86,F),(87,G),(88,H),(89,I),(92,J),(93,K),(94,L),(95,M)] := by intros; rfl
           refine R_nil (tr ..) ?_; clear tr
           refine then_n ?_
           refine at_ret rfl ?_
           refine fpure ?_
           refine ⟨?_, rfl⟩
           have he : coE l m bs ws balls = 0 := (by rw [coE, if_neg (fun hh => hh hc), if_neg (by omega), if_neg (by omega), if_neg (fun ⟨i, hi, hbi⟩ => hb i (by omega) hbi), if_neg (fun ⟨i, hi, hbi⟩ => hw i (by omega) hbi), if_neg (by omega)])
           have e17 : (coV l m bs ws balls).take a = (coV l m bs ws balls) := List.take_of_length_le (by rw [coV_len]; omega)
           rw [e17] at hR
           rw [coA, if_neg (fun hh => hh he), he]
           exact congrArg (fun z => AV.tup [z, AV.i 0]) ((hR.mono2 (by omega)).frz (fun hh => by have h7 := congrArg List.length hh; rw [coV_len, List.length_nil] at h7; omega))

end Go.Proofs.Ytplockpopmaejaa
end
