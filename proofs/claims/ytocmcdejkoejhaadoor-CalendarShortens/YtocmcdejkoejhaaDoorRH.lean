/-
  Walks of chapter 48. The steps are written by program (walk.py).
-/
import Derived.Test.YtocmcdejkoejhaaDoorK3
import Derived.Test.YtocmcdejkoejhaaDoorRA
set_option linter.unusedSimpArgs false
set_option linter.unusedVariables false
set_option maxHeartbeats 1000000
set_option maxRecDepth 20000
namespace Go.Proofs.YtocmcdejkoejhaaDoor
open Go Go.Am
abbrev lc_equal_ok (a b c d e f g h i j k m n o : AV) : Env := [(0,a),(1,b),(4,c),(5,d),(6,e),(11,f),(13,g),(14,h),(15,i),(27,j),(32,k),(33,m),(34,n),(50,o)]
theorem equal_ok (lim : Nat) (H : Heap) (t : List (List Int)) (hL : t.length ≤ 50) (hr : ∀ i, i < t.length → (gt t i).length ≤ 1000) : ACall sig lim 30 [rowsAV t, rowsAV t] H fun r H' => r = .v (.bool true) ∧ H' = H := by
 refine ACall_pure (fa := fa30) rfl rfl rfl rfl ?_
 have tr : ∀ a0 a1 : AV, env0 fa30.keep [a0, a1] = [(0,a0),(1,a1),(4,.any),(5,.any),(6,.any),(11,.any),(13,.any),(14,.any),(15,.any),(27,.any),(32,.any),(33,.any),(34,.any),(50,.any)] := fun a0 a1 => rfl
 refine W_to (tr _ _) ?_; clear tr
 refine at_seq rfl ?_
 refine rg rfl ?_
 refine Rq ?_
 have tr : ∀ a b c d e f g h i j k m n o p : AV, let l := lc_equal_ok a b c d e f g h i j k m n o; trim ((4,p)::l) l = [(0,a),(1,b),(4,p),(5,d),(6,e),(11,f),(13,g),(14,h),(15,i),(27,j),(32,k),(33,m),(34,n),(50,o)] := by intros; rfl
 refine R_nil (tr ..) ?_; clear tr
 refine then_n ?_
 refine at_seq rfl ?_
 refine at_seq rfl ?_
 refine rg rfl ?_
 refine Rq ?_
 refine Rq ?_
 refine Rq ?_
 refine Rq ?_
 refine Rq ?_
 have tr : ∀ a b c d e f g h i j k m n o p q r s t : AV, let l := lc_equal_ok a b c d e f g h i j k m n o; trim ((11,t)::(10,s)::(9,r)::(8,q)::(7,p)::l) l = [(0,a),(1,b),(4,c),(5,d),(6,e),(11,t),(13,g),(14,h),(15,i),(27,j),(32,k),(33,m),(34,n),(50,o)] := by intros; rfl
 refine R_nil (tr ..) ?_; clear tr
 refine then_n ?_
 refine cdd (fun h1 => ?_) (fun h1 => ?_)
 ·
  try simp only [decide_eq_true_eq, decide_eq_false_iff_not, Bool.not_eq_true', Bool.not_eq_false', beq_iff_eq, beq_eq_false_iff_ne, ne_eq] at h1
  refine at_seq rfl ?_
  refine rg rfl ?_
  refine Rq ?_
  have tr : ∀ a b c d e f g h i j k m n o p : AV, let l := lc_equal_ok a b c d e f g h i j k m n o; trim ((4,p)::l) l = [(0,a),(1,b),(4,p),(5,d),(6,e),(11,f),(13,g),(14,h),(15,i),(27,j),(32,k),(33,m),(34,n),(50,o)] := by intros; rfl
  refine R_nil (tr ..) ?_; clear tr
  refine then_n ?_
  refine at_ret rfl ?_
  refine then_r ?_
  first | (refine fpure ?_; exact ⟨rfl, rfl⟩) | (exfalso; first | omega | contradiction | exact absurd rfl (by assumption) | exact absurd trivial (by assumption))
 ·
  try simp only [decide_eq_true_eq, decide_eq_false_iff_not, Bool.not_eq_true', Bool.not_eq_false', beq_iff_eq, beq_eq_false_iff_ne, ne_eq] at h1
  refine at_skip rfl ?_
  refine then_n ?_
  refine at_seq rfl ?_
  refine at_seq rfl ?_
  refine rg rfl ?_
  refine Rq ?_
  refine Rq ?_
  refine Rq ?_
  have tr : ∀ a b c d e f g h i j k m n o p q r : AV, let l := lc_equal_ok a b c d e f g h i j k m n o; trim ((14,r)::(13,q)::(12,p)::l) l = [(0,a),(1,b),(4,c),(5,d),(6,e),(11,f),(13,q),(14,r),(15,i),(27,j),(32,k),(33,m),(34,n),(50,o)] := by intros; rfl
  refine R_nil (tr ..) ?_; clear tr
  refine then_n ?_
  refine at_block rfl ?_
  refine loop_n rfl (fun mm kv H' => ∃ u : Nat, ∃ x4 x5 x6 x15 x27 x32 x33 x34 x50 : AV, (kv = [(4, x4), (5, x5), (6, x6), (14, AV.i u), (15, x15), (27, x27), (32, x32), (33, x33), (34, x34), (50, x50)]) ∧ (mm = t.length - u) ∧ (H' = H) ∧ (u ≤ t.length)) ⟨0, _, _, _, _, _, _, _, _, _, rfl, rfl, rfl, by omega⟩ (by rfl) ?_
  rintro mm kv H' ⟨u, x4, x5, x6, x15, x27, x32, x33, x34, x50, rfl, rfl, rfl, hu⟩
  have tr : ∀ a b c d e f g h i j k m n o p q r s t u v w x y : AV, upd [(0,a),(1,b),(4,c),(5,d),(6,e),(11,f),(13,g),(14,h),(15,i),(27,j),(32,k),(33,m),(34,n),(50,o)] [(4,p),(5,q),(6,r),(14,s),(15,t),(27,u),(32,v),(33,w),(34,x),(50,y)] = [(0,a),(1,b),(4,p),(5,q),(6,r),(11,f),(13,g),(14,s),(15,t),(27,u),(32,v),(33,w),(34,x),(50,y)] := by intros; rfl
  refine W_to (tr ..) ?_; clear tr
  obtain ⟨H, hHH⟩ : ∃ x, x = H' := ⟨_, rfl⟩
  subst hHH
  refine at_seq rfl ?_
  refine rg rfl ?_
  refine Rq ?_
  have tr : ∀ a b c d e f g h i j k m n o p : AV, let l := lc_equal_ok a b c d e f g h i j k m n o; trim ((15,p)::l) l = [(0,a),(1,b),(4,c),(5,d),(6,e),(11,f),(13,g),(14,h),(15,p),(27,j),(32,k),(33,m),(34,n),(50,o)] := by intros; rfl
  refine R_nil (tr ..) ?_; clear tr
  refine then_n ?_
  refine at_seq rfl ?_
  refine cdd (fun h2 => ?_) (fun h2 => ?_)
  ·
   try simp only [decide_eq_true_eq, decide_eq_false_iff_not, Bool.not_eq_true', Bool.not_eq_false', beq_iff_eq, beq_eq_false_iff_ne, ne_eq] at h2
   refine at_skip rfl ?_
   refine then_n ?_
   refine at_seq rfl ?_
   refine at_block rfl ?_
   refine at_seq rfl ?_
   refine rg rfl ?_
   refine Rq ?_
   refine Rq ?_
   have tr : ∀ a b c d e f g h i j k m n o p q : AV, let l := lc_equal_ok a b c d e f g h i j k m n o; trim ((5,q)::(16,p)::l) l = [(0,a),(1,b),(4,c),(5,q),(6,e),(11,f),(13,g),(14,h),(15,i),(27,j),(32,k),(33,m),(34,n),(50,o)] := by intros; rfl
   refine R_nil (tr ..) ?_; clear tr
   refine then_n ?_
   refine at_seq rfl ?_
   refine at_seq rfl ?_
   refine rd rfl rfl ?_
   refine Qq ?_
   refine Qq ?_
   refine Qq ?_
   refine Qq ?_
   refine Qq ?_
   refine Qq ?_
   refine Qq ?_
   refine Qq ?_
   refine Qq ?_
   refine Qq ?_
   refine Qq ?_
   refine Q_nil ?_
   have tr : ∀ a b c d e f g h i j k m n o p q r s t u v w x y z : AV, let l := lc_equal_ok a b c d e f g h i j k m n o; trim ((27,z)::(26,y)::(25,x)::(24,w)::(23,v)::(22,u)::(21,t)::(20,s)::(19,r)::(18,q)::(17,p)::l) l = [(0,a),(1,b),(4,c),(5,d),(6,e),(11,f),(13,g),(14,h),(15,i),(27,z),(32,k),(33,m),(34,n),(50,o)] := by intros; rfl
   refine R_nil (tr ..) ?_; clear tr
   refine then_n ?_
   refine cdd (fun h3 => ?_) (fun h3 => ?_)
   ·
    try simp only [decide_eq_true_eq, decide_eq_false_iff_not, Bool.not_eq_true', Bool.not_eq_false', beq_iff_eq, beq_eq_false_iff_ne, ne_eq] at h3
    refine at_seq rfl ?_
    refine rg rfl ?_
    refine Rq ?_
    have tr : ∀ a b c d e f g h i j k m n o p : AV, let l := lc_equal_ok a b c d e f g h i j k m n o; trim ((4,p)::l) l = [(0,a),(1,b),(4,p),(5,d),(6,e),(11,f),(13,g),(14,h),(15,i),(27,j),(32,k),(33,m),(34,n),(50,o)] := by intros; rfl
    refine R_nil (tr ..) ?_; clear tr
    refine then_n ?_
    refine at_ret rfl ?_
    refine then_r ?_
    refine blk_r ?_
    refine then_r ?_
    refine then_r ?_
    refine blk_r ?_
    refine then_r ?_
    first | (refine fpure ?_; exact ⟨rfl, rfl⟩) | (exfalso; first | omega | contradiction | exact absurd rfl (by assumption) | exact absurd trivial (by assumption))
   ·
    try simp only [decide_eq_true_eq, decide_eq_false_iff_not, Bool.not_eq_true', Bool.not_eq_false', beq_iff_eq, beq_eq_false_iff_ne, ne_eq] at h3
    refine at_skip rfl ?_
    refine then_n ?_
    refine at_seq rfl ?_
    refine rg rfl ?_
    have hru := hr u (by omega)
    refine Rq ?_
    refine Rq ?_
    refine Rq ?_
    refine Rq ?_
    refine Rq ?_
    refine Rq ?_
    have tr : ∀ a b c d e f g h i j k m n o p q r s t u : AV, let l := lc_equal_ok a b c d e f g h i j k m n o; trim ((33,u)::(32,t)::(31,s)::(30,r)::(29,q)::(28,p)::l) l = [(0,a),(1,b),(4,c),(5,d),(6,e),(11,f),(13,g),(14,h),(15,i),(27,j),(32,t),(33,u),(34,n),(50,o)] := by intros; rfl
    refine R_nil (tr ..) ?_; clear tr
    refine then_n ?_
    refine at_block rfl ?_
    refine loop_n rfl (fun mm kv H' => ∃ w : Nat, ∃ x4 x6 x34 x50 : AV, (kv = [(4, x4), (6, x6), (33, AV.i w), (34, x34), (50, x50)]) ∧ (mm = (gt t u).length - w) ∧ (H' = H) ∧ (w ≤ (gt t u).length)) ⟨0, _, _, _, _, rfl, rfl, rfl, by omega⟩ (by rfl) ?_
    rintro mm kv H' ⟨w, x4, x6, x34, x50, rfl, rfl, rfl, hw⟩
    have tr : ∀ a b c d e f g h i j k m n o p q r s t : AV, upd [(0,a),(1,b),(4,c),(5,d),(6,e),(11,f),(13,g),(14,h),(15,i),(27,j),(32,k),(33,m),(34,n),(50,o)] [(4,p),(6,q),(33,r),(34,s),(50,t)] = [(0,a),(1,b),(4,p),(5,d),(6,q),(11,f),(13,g),(14,h),(15,i),(27,j),(32,k),(33,r),(34,s),(50,t)] := by intros; rfl
    refine W_to (tr ..) ?_; clear tr
    obtain ⟨H, hHH⟩ : ∃ x, x = H' := ⟨_, rfl⟩
    subst hHH
    refine at_seq rfl ?_
    refine rg rfl ?_
    refine Rq ?_
    have tr : ∀ a b c d e f g h i j k m n o p : AV, let l := lc_equal_ok a b c d e f g h i j k m n o; trim ((34,p)::l) l = [(0,a),(1,b),(4,c),(5,d),(6,e),(11,f),(13,g),(14,h),(15,i),(27,j),(32,k),(33,m),(34,p),(50,o)] := by intros; rfl
    refine R_nil (tr ..) ?_; clear tr
    refine then_n ?_
    refine at_seq rfl ?_
    refine cdd (fun h4 => ?_) (fun h4 => ?_)
    ·
     try simp only [decide_eq_true_eq, decide_eq_false_iff_not, Bool.not_eq_true', Bool.not_eq_false', beq_iff_eq, beq_eq_false_iff_ne, ne_eq] at h4
     refine at_skip rfl ?_
     refine then_n ?_
     refine at_seq rfl ?_
     refine at_block rfl ?_
     refine at_seq rfl ?_
     refine rg rfl ?_
     refine Rq ?_
     refine Rq ?_
     have tr : ∀ a b c d e f g h i j k m n o p q : AV, let l := lc_equal_ok a b c d e f g h i j k m n o; trim ((6,q)::(35,p)::l) l = [(0,a),(1,b),(4,c),(5,d),(6,q),(11,f),(13,g),(14,h),(15,i),(27,j),(32,k),(33,m),(34,n),(50,o)] := by intros; rfl
     refine R_nil (tr ..) ?_; clear tr
     refine then_n ?_
     refine at_seq rfl ?_
     refine rd rfl rfl ?_
     refine Qq ?_
     refine Qq ?_
     refine Qq ?_
     refine Qq ?_
     refine Qq ?_
     refine Qq ?_
     refine Qq ?_
     refine Qq ?_
     refine Qq ?_
     refine Qq ?_
     refine Qq ?_
     refine Qq ?_
     refine Qq ?_
     refine Qq ?_
     refine Qq ?_
     refine Q_nil ?_
     have tr : ∀ a b c d e f g h i j k m n o p q r s t u v w x y z A B C D : AV, let l := lc_equal_ok a b c d e f g h i j k m n o; trim ((50,D)::(49,C)::(48,B)::(47,A)::(46,z)::(45,y)::(44,x)::(43,w)::(42,v)::(41,u)::(40,t)::(39,s)::(38,r)::(37,q)::(36,p)::l) l = [(0,a),(1,b),(4,c),(5,d),(6,e),(11,f),(13,g),(14,h),(15,i),(27,j),(32,k),(33,m),(34,n),(50,D)] := by intros; rfl
     refine R_nil (tr ..) ?_; clear tr
     refine then_n ?_
     refine cdd (fun h5 => ?_) (fun h5 => ?_)
     ·
      try simp only [decide_eq_true_eq, decide_eq_false_iff_not, Bool.not_eq_true', Bool.not_eq_false', beq_iff_eq, beq_eq_false_iff_ne, ne_eq] at h5
      refine at_seq rfl ?_
      refine rg rfl ?_
      refine Rq ?_
      have tr : ∀ a b c d e f g h i j k m n o p : AV, let l := lc_equal_ok a b c d e f g h i j k m n o; trim ((4,p)::l) l = [(0,a),(1,b),(4,p),(5,d),(6,e),(11,f),(13,g),(14,h),(15,i),(27,j),(32,k),(33,m),(34,n),(50,o)] := by intros; rfl
      refine R_nil (tr ..) ?_; clear tr
      refine then_n ?_
      refine at_ret rfl ?_
      refine blk_r ?_
      refine then_r ?_
      refine then_r ?_
      refine blk_r ?_
      refine blk_r ?_
      refine then_r ?_
      refine then_r ?_
      refine blk_r ?_
      refine then_r ?_
      first | (refine fpure ?_; exact ⟨rfl, rfl⟩) | (exfalso; first | omega | contradiction | exact absurd rfl (by assumption) | exact absurd trivial (by assumption))
     ·
      try simp only [decide_eq_true_eq, decide_eq_false_iff_not, Bool.not_eq_true', Bool.not_eq_false', beq_iff_eq, beq_eq_false_iff_ne, ne_eq] at h5
      refine at_skip rfl ?_
      refine blk_n ?_
      refine then_n ?_
      refine rg rfl ?_
      refine Rq ?_
      refine Rq ?_
      have tr : ∀ a b c d e f g h i j k m n o p q : AV, let l := lc_equal_ok a b c d e f g h i j k m n o; trim ((33,q)::(51,p)::l) l = [(0,a),(1,b),(4,c),(5,d),(6,e),(11,f),(13,g),(14,h),(15,i),(27,j),(32,k),(33,q),(34,n),(50,o)] := by intros; rfl
      refine R_nil (tr ..) ?_; clear tr
      refine then_n ?_
      exact ⟨_, _, ⟨w + 1, _, _, _, _, rfl, rfl, rfl, by omega⟩, by rfl, by omega⟩
    ·
     try simp only [decide_eq_true_eq, decide_eq_false_iff_not, Bool.not_eq_true', Bool.not_eq_false', beq_iff_eq, beq_eq_false_iff_ne, ne_eq] at h4
     refine at_exit rfl ?_
     refine then_x ?_
     refine then_x ?_
     refine blk_x ?_
     refine blk_n ?_
     refine then_n ?_
     refine rg rfl ?_
     refine Rq ?_
     refine Rq ?_
     have tr : ∀ a b c d e f g h i j k m n o p q : AV, let l := lc_equal_ok a b c d e f g h i j k m n o; trim ((14,q)::(52,p)::l) l = [(0,a),(1,b),(4,c),(5,d),(6,e),(11,f),(13,g),(14,q),(15,i),(27,j),(32,k),(33,m),(34,n),(50,o)] := by intros; rfl
     refine R_nil (tr ..) ?_; clear tr
     refine then_n ?_
     exact ⟨_, _, ⟨u + 1, _, _, _, _, _, _, _, _, _, rfl, rfl, rfl, by omega⟩, by rfl, by omega⟩
  ·
   try simp only [decide_eq_true_eq, decide_eq_false_iff_not, Bool.not_eq_true', Bool.not_eq_false', beq_iff_eq, beq_eq_false_iff_ne, ne_eq] at h2
   refine at_exit rfl ?_
   refine then_x ?_
   refine then_x ?_
   refine blk_x ?_
   refine then_n ?_
   refine at_seq rfl ?_
   refine rg rfl ?_
   refine Rq ?_
   have tr : ∀ a b c d e f g h i j k m n o p : AV, let l := lc_equal_ok a b c d e f g h i j k m n o; trim ((4,p)::l) l = [(0,a),(1,b),(4,p),(5,d),(6,e),(11,f),(13,g),(14,h),(15,i),(27,j),(32,k),(33,m),(34,n),(50,o)] := by intros; rfl
   refine R_nil (tr ..) ?_; clear tr
   refine then_n ?_
   refine at_ret rfl ?_
   first | (refine fpure ?_; exact ⟨rfl, rfl⟩) | (exfalso; first | omega | contradiction | exact absurd rfl (by assumption) | exact absurd trivial (by assumption))

end Go.Proofs.YtocmcdejkoejhaaDoor
