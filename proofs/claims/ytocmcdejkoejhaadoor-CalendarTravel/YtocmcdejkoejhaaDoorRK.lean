/-
  Walks of chapter 48. The steps are written by program (walk.py).
-/
import Derived.Test.YtocmcdejkoejhaaDoorRI
import Derived.Test.YtocmcdejkoejhaaDoorRJ
import Derived.Test.YtocmcdejkoejhaaDoorRH
import Derived.Test.YtocmcdejkoejhaaDoorRG
import Derived.Test.YtocmcdejkoejhaaDoorAw
set_option linter.unusedSimpArgs false
set_option linter.unusedVariables false
set_option maxHeartbeats 1000000
set_option maxRecDepth 20000
namespace Go.Proofs.YtocmcdejkoejhaaDoor
open Go Go.Am
abbrev lc_equal_nil (a b c d e f g h i j k m n o : AV) : Env := [(0,a),(1,b),(4,c),(5,d),(6,e),(11,f),(13,g),(14,h),(15,i),(27,j),(32,k),(33,m),(34,n),(50,o)]
theorem equal_nil (lim : Nat) (H : Heap) : ACall sig lim 30 [nilS, nilS] H fun r H' => r = .v (.bool true) ∧ H' = H := by
 refine ACall_pure (fa := fa30) rfl rfl rfl rfl ?_
 have tr : ∀ a0 a1 : AV, env0 fa30.keep [a0, a1] = [(0,a0),(1,a1),(4,.any),(5,.any),(6,.any),(11,.any),(13,.any),(14,.any),(15,.any),(27,.any),(32,.any),(33,.any),(34,.any),(50,.any)] := fun a0 a1 => rfl
 refine W_to (tr _ _) ?_; clear tr
 refine at_seq rfl ?_
 refine rg rfl ?_
 refine Rq ?_
 have tr : ∀ a b c d e f g h i j k m n o p : AV, let l := lc_equal_nil a b c d e f g h i j k m n o; trim ((4,p)::l) l = [(0,a),(1,b),(4,p),(5,d),(6,e),(11,f),(13,g),(14,h),(15,i),(27,j),(32,k),(33,m),(34,n),(50,o)] := by intros; rfl
 refine R_nil (tr ..) ?_; clear tr
 refine then_n ?_
 refine at_seq rfl ?_
 refine at_seq rfl ?_
 refine rg rfl ?_
 refine Rq ?_
 refine Rq ?_
 refine Rq ?_
 refine Rq ?_
 refine Rq ?_
 have tr : ∀ a b c d e f g h i j k m n o p q r s t : AV, let l := lc_equal_nil a b c d e f g h i j k m n o; trim ((11,t)::(10,s)::(9,r)::(8,q)::(7,p)::l) l = [(0,a),(1,b),(4,c),(5,d),(6,e),(11,t),(13,g),(14,h),(15,i),(27,j),(32,k),(33,m),(34,n),(50,o)] := by intros; rfl
 refine R_nil (tr ..) ?_; clear tr
 refine then_n ?_
 refine cdd (fun h1 => ?_) (fun h1 => ?_)
 ·
  try simp only [decide_eq_true_eq, decide_eq_false_iff_not, Bool.not_eq_true', Bool.not_eq_false', beq_iff_eq, beq_eq_false_iff_ne, ne_eq] at h1
  refine at_seq rfl ?_
  refine rg rfl ?_
  refine Rq ?_
  have tr : ∀ a b c d e f g h i j k m n o p : AV, let l := lc_equal_nil a b c d e f g h i j k m n o; trim ((4,p)::l) l = [(0,a),(1,b),(4,p),(5,d),(6,e),(11,f),(13,g),(14,h),(15,i),(27,j),(32,k),(33,m),(34,n),(50,o)] := by intros; rfl
  refine R_nil (tr ..) ?_; clear tr
  refine then_n ?_
  refine at_ret rfl ?_
  refine then_r ?_
  first | (refine fpure ?_; exact ⟨rfl, rfl⟩) | (exfalso; first | omega | contradiction | exact absurd rfl (by assumption) | exact absurd trivial (by assumption))
 ·
  try simp only [decide_eq_true_eq, decide_eq_false_iff_not, Bool.not_eq_true', Bool.not_eq_false', beq_iff_eq, beq_eq_false_iff_ne, ne_eq] at h1
  refine at_skip rfl ?_
  refine then_n ?_
  refine at_seq rfl ?_
  refine at_seq rfl ?_
  refine rg rfl ?_
  refine Rq ?_
  refine Rq ?_
  refine Rq ?_
  have tr : ∀ a b c d e f g h i j k m n o p q r : AV, let l := lc_equal_nil a b c d e f g h i j k m n o; trim ((14,r)::(13,q)::(12,p)::l) l = [(0,a),(1,b),(4,c),(5,d),(6,e),(11,f),(13,q),(14,r),(15,i),(27,j),(32,k),(33,m),(34,n),(50,o)] := by intros; rfl
  refine R_nil (tr ..) ?_; clear tr
  refine then_n ?_
  refine at_block rfl ?_
  refine loop_n rfl (fun mm kv H' => ∃ u : Nat, ∃ x4 x5 x6 x15 x27 x32 x33 x34 x50 : AV, (kv = [(4, x4), (5, x5), (6, x6), (14, AV.i u), (15, x15), (27, x27), (32, x32), (33, x33), (34, x34), (50, x50)]) ∧ (mm = 0) ∧ (H' = H) ∧ (u = 0)) ⟨0, _, _, _, _, _, _, _, _, _, rfl, rfl, rfl, by omega⟩ (by rfl) ?_
  rintro mm kv H' ⟨u, x4, x5, x6, x15, x27, x32, x33, x34, x50, rfl, rfl, rfl, hu⟩
  have tr : ∀ a b c d e f g h i j k m n o p q r s t u v w x y : AV, upd [(0,a),(1,b),(4,c),(5,d),(6,e),(11,f),(13,g),(14,h),(15,i),(27,j),(32,k),(33,m),(34,n),(50,o)] [(4,p),(5,q),(6,r),(14,s),(15,t),(27,u),(32,v),(33,w),(34,x),(50,y)] = [(0,a),(1,b),(4,p),(5,q),(6,r),(11,f),(13,g),(14,s),(15,t),(27,u),(32,v),(33,w),(34,x),(50,y)] := by intros; rfl
  refine W_to (tr ..) ?_; clear tr
  obtain ⟨H, hHH⟩ : ∃ x, x = H' := ⟨_, rfl⟩
  subst hHH
  refine at_seq rfl ?_
  refine rg rfl ?_
  refine Rq ?_
  have tr : ∀ a b c d e f g h i j k m n o p : AV, let l := lc_equal_nil a b c d e f g h i j k m n o; trim ((15,p)::l) l = [(0,a),(1,b),(4,c),(5,d),(6,e),(11,f),(13,g),(14,h),(15,p),(27,j),(32,k),(33,m),(34,n),(50,o)] := by intros; rfl
  refine R_nil (tr ..) ?_; clear tr
  refine then_n ?_
  refine at_seq rfl ?_
  refine cdd (fun h2 => ?_) (fun h2 => ?_)
  ·
   try simp only [decide_eq_true_eq, decide_eq_false_iff_not, Bool.not_eq_true', Bool.not_eq_false', beq_iff_eq, beq_eq_false_iff_ne, ne_eq] at h2
   refine at_skip rfl ?_
   refine then_n ?_
   refine at_seq rfl ?_
   refine at_block rfl ?_
   refine at_seq rfl ?_
   refine rg rfl ?_
   exfalso; first | omega | (subst hu; simp_all) | contradiction
  ·
   try simp only [decide_eq_true_eq, decide_eq_false_iff_not, Bool.not_eq_true', Bool.not_eq_false', beq_iff_eq, beq_eq_false_iff_ne, ne_eq] at h2
   refine at_exit rfl ?_
   refine then_x ?_
   refine then_x ?_
   refine blk_x ?_
   refine then_n ?_
   refine at_seq rfl ?_
   refine rg rfl ?_
   refine Rq ?_
   have tr : ∀ a b c d e f g h i j k m n o p : AV, let l := lc_equal_nil a b c d e f g h i j k m n o; trim ((4,p)::l) l = [(0,a),(1,b),(4,p),(5,d),(6,e),(11,f),(13,g),(14,h),(15,i),(27,j),(32,k),(33,m),(34,n),(50,o)] := by intros; rfl
   refine R_nil (tr ..) ?_; clear tr
   refine then_n ?_
   refine at_ret rfl ?_
   first | (refine fpure ?_; exact ⟨rfl, rfl⟩) | (exfalso; first | omega | contradiction | exact absurd rfl (by assumption) | exact absurd trivial (by assumption))

theorem equal_sh (lim : Nat) (H : Heap) (t : List (List Int)) : ACall sig lim 30 [shAV t, shAV t] H fun r H' => r = .v (.bool true) ∧ H' = H := by
  by_cases h : ctS t = 0
  · obtain ⟨_, h20, _, _⟩ := ct_of h
    rw [sh_yes h]
    exact equal_ok lim H (shT t) (by rw [shT_len]; omega) (fun i hi => by rw [shT_len] at hi; rw [shT_rlen hi]; omega)
  · rw [sh_no h]; exact equal_nil lim H

abbrev lc_ctravel_ok (a b c d e f g h i j k m n o : AV) : Env := [(0,a),(1,b),(2,c),(6,d),(7,e),(8,f),(9,g),(10,h),(11,i),(12,j),(13,k),(14,m),(16,n),(24,o)]
theorem ctravel_ok (lim : Nat) (H : Heap) (t : List (List Int)) (l : List Vi) (rest : Int) (hL : t.length ≤ 9223372036854775807) : ACall sig lim 7 [rowsAV t, visAV l, AV.i rest] H fun r _ => r = .v (.bool true) := by
 refine ACall_pure (fa := fa7) rfl rfl rfl rfl ?_
 have tr : ∀ a0 a1 a2 : AV, env0 fa7.keep [a0, a1, a2] = [(0,a0),(1,a1),(2,a2),(6,.any),(7,.any),(8,.any),(9,.any),(10,.any),(11,.any),(12,.any),(13,.any),(14,.any),(16,.any),(24,.any)] := fun a0 a1 a2 => rfl
 refine W_to (tr _ _ _) ?_; clear tr
 refine at_seq rfl ?_
 refine rg rfl ?_
 refine Rq ?_
 have tr : ∀ a b c d e f g h i j k m n o p : AV, let l := lc_ctravel_ok a b c d e f g h i j k m n o; trim ((6,p)::l) l = [(0,a),(1,b),(2,c),(6,p),(7,e),(8,f),(9,g),(10,h),(11,i),(12,j),(13,k),(14,m),(16,n),(24,o)] := by intros; rfl
 refine R_nil (tr ..) ?_; clear tr
 refine then_n ?_
 refine at_seq rfl ?_
 refine at_seq rfl ?_
 refine rg rfl ?_
 refine Rcall ?_
 refine ACall_eval 400 (awake48 _ _) ?_
 refine Rq ?_
 have tr : ∀ a b c d e f g h i j k m n o p q : AV, let l := lc_ctravel_ok a b c d e f g h i j k m n o; trim ((16,q)::(15,p)::l) l = [(0,a),(1,b),(2,c),(6,d),(7,e),(8,f),(9,g),(10,h),(11,i),(12,j),(13,k),(14,m),(16,q),(24,o)] := by intros; rfl
 refine R_nil (tr ..) ?_; clear tr
 refine then_n ?_
 refine cdf ?_
 refine at_skip rfl ?_
 refine then_n ?_
 refine at_seq rfl ?_
 refine at_seq rfl ?_
 refine rg rfl ?_
 refine Rq ?_
 refine Rcall ?_
 refine ACall_mono (small_ok _ _ t hL) ?_
 rintro r Hx ⟨⟨b, rfl, hb⟩, hHx⟩
 have hHx := hHx.symm
 subst hHx
 refine Rq ?_
 refine Rq ?_
 refine Rp_split (fun h1 => ?_) (fun h1 => ?_)
 ·
  try simp only [decide_eq_true_eq, decide_eq_false_iff_not, Bool.not_eq_true', Bool.not_eq_false', beq_iff_eq, beq_eq_false_iff_ne, ne_eq] at h1
  refine Rn ?_
  refine Rn ?_
  refine Rn ?_
  refine Rq ?_
  have tr : ∀ a b c d e f g h i j k m n o p q r s t u v w : AV, let l := lc_ctravel_ok a b c d e f g h i j k m n o; trim ((24,w)::(23,v)::(22,u)::(21,t)::(20,s)::(19,r)::(18,q)::(17,p)::l) l = [(0,a),(1,b),(2,c),(6,d),(7,e),(8,f),(9,g),(10,h),(11,i),(12,j),(13,k),(14,m),(16,n),(24,w)] := by intros; rfl
  refine R_nil (tr ..) ?_; clear tr
  refine then_n ?_
  refine cdt ?_
  refine at_seq rfl ?_
  refine rg rfl ?_
  refine Rq ?_
  have tr : ∀ a b c d e f g h i j k m n o p : AV, let l := lc_ctravel_ok a b c d e f g h i j k m n o; trim ((6,p)::l) l = [(0,a),(1,b),(2,c),(6,p),(7,e),(8,f),(9,g),(10,h),(11,i),(12,j),(13,k),(14,m),(16,n),(24,o)] := by intros; rfl
  refine R_nil (tr ..) ?_; clear tr
  refine then_n ?_
  refine at_ret rfl ?_
  refine then_r ?_
  refine fpure ?_
  first | rfl | simp
 ·
  try simp only [decide_eq_true_eq, decide_eq_false_iff_not, Bool.not_eq_true', Bool.not_eq_false', beq_iff_eq, beq_eq_false_iff_ne, ne_eq] at h1
  refine Ry ?_
  refine Rq ?_
  refine Ry ?_
  refine Rq ?_
  refine Ry ?_
  refine Rq ?_
  refine Rq ?_
  have tr : ∀ a b c d e f g h i j k m n o p q r s t u v w : AV, let l := lc_ctravel_ok a b c d e f g h i j k m n o; trim ((24,w)::(23,v)::(22,u)::(21,t)::(20,s)::(19,r)::(18,q)::(17,p)::l) l = [(0,a),(1,b),(2,c),(6,d),(7,e),(8,f),(9,g),(10,h),(11,i),(12,j),(13,k),(14,m),(16,n),(24,w)] := by intros; rfl
  refine R_nil (tr ..) ?_; clear tr
  refine then_n ?_
  refine cdd (fun h2 => ?_) (fun h2 => ?_)
  ·
   try simp only [decide_eq_true_eq, decide_eq_false_iff_not, Bool.not_eq_true', Bool.not_eq_false', beq_iff_eq, beq_eq_false_iff_ne, ne_eq] at h2
   refine at_seq rfl ?_
   refine rg rfl ?_
   refine Rq ?_
   have tr : ∀ a b c d e f g h i j k m n o p : AV, let l := lc_ctravel_ok a b c d e f g h i j k m n o; trim ((6,p)::l) l = [(0,a),(1,b),(2,c),(6,p),(7,e),(8,f),(9,g),(10,h),(11,i),(12,j),(13,k),(14,m),(16,n),(24,o)] := by intros; rfl
   refine R_nil (tr ..) ?_; clear tr
   refine then_n ?_
   refine at_ret rfl ?_
   refine then_r ?_
   refine fpure ?_
   first | rfl | simp
  ·
   try simp only [decide_eq_true_eq, decide_eq_false_iff_not, Bool.not_eq_true', Bool.not_eq_false', beq_iff_eq, beq_eq_false_iff_ne, ne_eq] at h2
   refine at_skip rfl ?_
   refine then_n ?_
   refine at_seq rfl ?_
   refine rg rfl ?_
   refine Rq ?_
   refine Rcall ?_
   refine ACall_eq (short_ok _ _ _) ?_
   refine Rq ?_
   refine Rq ?_
   refine Rq ?_
   refine Rq ?_
   refine Rq ?_
   have tr : ∀ a b c d e f g h i j k m n o p q r s t u v : AV, let l := lc_ctravel_ok a b c d e f g h i j k m n o; trim ((8,v)::(7,u)::(29,t)::(28,s)::(25,r)::(27,q)::(26,p)::l) l = [(0,a),(1,b),(2,c),(6,d),(7,u),(8,v),(9,g),(10,h),(11,i),(12,j),(13,k),(14,m),(16,n),(24,o)] := by intros; rfl
   refine R_nil (tr ..) ?_; clear tr
   refine then_n ?_
   refine at_seq rfl ?_
   refine rg rfl ?_
   refine Rq ?_
   refine Rcall ?_
   refine ACall_eq (rshort_ok _ _ _) ?_
   refine Rq ?_
   refine Rq ?_
   refine Rq ?_
   refine Rq ?_
   refine Rq ?_
   have tr : ∀ a b c d e f g h i j k m n o p q r s t u v : AV, let l := lc_ctravel_ok a b c d e f g h i j k m n o; trim ((10,v)::(9,u)::(34,t)::(33,s)::(30,r)::(32,q)::(31,p)::l) l = [(0,a),(1,b),(2,c),(6,d),(7,e),(8,f),(9,u),(10,v),(11,i),(12,j),(13,k),(14,m),(16,n),(24,o)] := by intros; rfl
   refine R_nil (tr ..) ?_; clear tr
   refine then_n ?_
   refine at_seq rfl ?_
   refine rg rfl ?_
   refine Rq ?_
   refine Rq ?_
   refine Rq ?_
   refine Rcall ?_
   refine ACall_eq (route_ok _ _ _ _ _) ?_
   refine Rq ?_
   refine Rq ?_
   refine Rq ?_
   refine Rq ?_
   refine Rq ?_
   have tr : ∀ a b c d e f g h i j k m n o p q r s t u v w x : AV, let l := lc_ctravel_ok a b c d e f g h i j k m n o; trim ((12,x)::(11,w)::(41,v)::(40,u)::(35,t)::(39,s)::(38,r)::(37,q)::(36,p)::l) l = [(0,a),(1,b),(2,c),(6,d),(7,e),(8,f),(9,g),(10,h),(11,w),(12,x),(13,k),(14,m),(16,n),(24,o)] := by intros; rfl
   refine R_nil (tr ..) ?_; clear tr
   refine then_n ?_
   refine at_seq rfl ?_
   refine rg rfl ?_
   refine Rq ?_
   refine Rq ?_
   refine Rq ?_
   refine Rcall ?_
   refine ACall_eq (rroute_ok _ _ _ _ _) ?_
   refine Rq ?_
   refine Rq ?_
   refine Rq ?_
   refine Rq ?_
   refine Rq ?_
   have tr : ∀ a b c d e f g h i j k m n o p q r s t u v w x : AV, let l := lc_ctravel_ok a b c d e f g h i j k m n o; trim ((14,x)::(13,w)::(48,v)::(47,u)::(42,t)::(46,s)::(45,r)::(44,q)::(43,p)::l) l = [(0,a),(1,b),(2,c),(6,d),(7,e),(8,f),(9,g),(10,h),(11,i),(12,j),(13,w),(14,x),(16,n),(24,o)] := by intros; rfl
   refine R_nil (tr ..) ?_; clear tr
   refine then_n ?_
   refine at_seq rfl ?_
   refine rg rfl ?_
   refine Rq ?_
   refine Rcall ?_
   refine ACall_eq (travel_ok _ _ _) ?_
   refine Rq ?_
   refine Rcall ?_
   refine ACall_eq (rtravel_ok _ _ _) ?_
   refine Rq ?_
   refine Rq ?_
   refine Rp_split (fun h3 => ?_) (fun h3 => ?_)
   ·
    try simp only [decide_eq_true_eq, decide_eq_false_iff_not, Bool.not_eq_true', Bool.not_eq_false', beq_iff_eq, beq_eq_false_iff_ne, ne_eq] at h3
    refine Ry ?_
    refine Rq ?_
    refine Ry ?_
    refine Rq ?_
    refine Ry ?_
    refine Rcall ?_
    refine ACall_eq (equal_sh _ _ t) ?_
    refine Rq ?_
    refine Rq ?_
    refine Rp_split (fun h4 => ?_) (fun h4 => ?_)
    ·
     try simp only [decide_eq_true_eq, decide_eq_false_iff_not, Bool.not_eq_true', Bool.not_eq_false', beq_iff_eq, beq_eq_false_iff_ne, ne_eq] at h4
     refine Ry ?_
     refine Rq ?_
     refine Ry ?_
     refine Rq ?_
     refine Ry ?_
     refine Rq ?_
     refine Rq ?_
     refine Rq ?_
     refine Rp_split (fun h5 => ?_) (fun h5 => ?_)
     ·
      try simp only [decide_eq_true_eq, decide_eq_false_iff_not, Bool.not_eq_true', Bool.not_eq_false', beq_iff_eq, beq_eq_false_iff_ne, ne_eq] at h5
      refine Ry ?_
      refine Rq ?_
      refine Ry ?_
      refine Rq ?_
      refine Ry ?_
      refine Rq ?_
      refine Rq ?_
      refine Rq ?_
      refine Rp_split (fun h6 => ?_) (fun h6 => ?_)
      ·
       try simp only [decide_eq_true_eq, decide_eq_false_iff_not, Bool.not_eq_true', Bool.not_eq_false', beq_iff_eq, beq_eq_false_iff_ne, ne_eq] at h6
       refine Ry ?_
       refine Rq ?_
       refine Ry ?_
       refine Rq ?_
       refine Ry ?_
       refine Rq ?_
       refine Rq ?_
       refine Rq ?_
       have tr : ∀ a b c d e f g h i j k m n o p q r s t u v w x y z A B C D E F G H I J K L M N O : AV, let l := lc_ctravel_ok a b c d e f g h i j k m n o; trim ((6,O)::(73,N)::(72,M)::(71,L)::(70,K)::(69,J)::(68,I)::(67,H)::(66,G)::(65,F)::(64,E)::(63,D)::(62,C)::(61,B)::(60,A)::(59,z)::(58,y)::(57,x)::(56,w)::(55,v)::(54,u)::(53,t)::(52,s)::(51,r)::(50,q)::(49,p)::l) l = [(0,a),(1,b),(2,c),(6,O),(7,e),(8,f),(9,g),(10,h),(11,i),(12,j),(13,k),(14,m),(16,n),(24,o)] := by intros; rfl
       refine R_nil (tr ..) ?_; clear tr
       refine then_n ?_
       refine at_ret rfl ?_
       refine fpure ?_
       first | rfl | simp
      ·
       try simp only [decide_eq_true_eq, decide_eq_false_iff_not, Bool.not_eq_true', Bool.not_eq_false', beq_iff_eq, beq_eq_false_iff_ne, ne_eq] at h6
       first | omega | contradiction | exact absurd rfl (by assumption) | exact absurd trivial (by assumption)
     ·
      try simp only [decide_eq_true_eq, decide_eq_false_iff_not, Bool.not_eq_true', Bool.not_eq_false', beq_iff_eq, beq_eq_false_iff_ne, ne_eq] at h5
      first | omega | contradiction | exact absurd rfl (by assumption) | exact absurd trivial (by assumption)
    ·
     try simp only [decide_eq_true_eq, decide_eq_false_iff_not, Bool.not_eq_true', Bool.not_eq_false', beq_iff_eq, beq_eq_false_iff_ne, ne_eq] at h4
     first | omega | contradiction | exact absurd rfl (by assumption) | exact absurd trivial (by assumption)
   ·
    try simp only [decide_eq_true_eq, decide_eq_false_iff_not, Bool.not_eq_true', Bool.not_eq_false', beq_iff_eq, beq_eq_false_iff_ne, ne_eq] at h3
    first | omega | contradiction | exact absurd rfl (by assumption) | exact absurd trivial (by assumption)

end Go.Proofs.YtocmcdejkoejhaaDoor
