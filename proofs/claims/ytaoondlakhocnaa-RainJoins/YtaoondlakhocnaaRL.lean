/-
  Walks of chapters 37, 39 and 40. The steps are written by program (walk.py).
-/
import Derived.Test.YtaoondlakhocnaaRJ
set_option linter.unusedSimpArgs false
set_option linter.unusedVariables false
set_option maxHeartbeats 40000000
set_option maxRecDepth 4000
namespace Go.Proofs.Ytaoondlakhocnaa
open Go Go.Am

noncomputable def lostS (rows : Tb) (per : Int) (s : Stp) : Int × Int :=
  if (atS rows per s.b s.w).2 ≠ 0 then (0, (atS rows per s.b s.w).2) else if (atS rows per s.a s.w).2 ≠ 0 then (0, (atS rows per s.a s.w).2) else if s.b < s.a then (0, 1) else ((atS rows per s.b s.w).1 - (atS rows per s.a s.w).1, 0)
theorem at_range {rows : Tb} {per balls w : Int} : 0 ≤ (atS rows per balls w).1 ∧ (atS rows per balls w).1 ≤ 160000 := by
  unfold atS
  split
  · exact ⟨by simp, by simp⟩
  · split
    · exact ⟨by simp, by simp⟩
    · split
      · exact ⟨by simp, by simp⟩
      · rename_i h1 h2 h3
        have s := check_shaped (Classical.not_not.mp h1)
        unfold atBad at h2
        have g2 := s.two
        obtain ⟨q0, q1, r0, r1, q2⟩ := at_place (n := (rows.length : Int) - 1) (per := per) (balls := balls) (by omega) (by omega) (by omega)
        have hl1 := s.len (balls / per).toNat (by omega)
        have k1 : 0 ≤ gt (gt rows (balls / per).toNat) w.toNat ∧ gt (gt rows (balls / per).toNat) w.toNat ≤ 10000 := s.rng _ (by omega) _ (by omega)
        have k2 := mul_box (b := per - balls % per) (B := 8) k1.1 k1.2 (by omega) (by omega)
        unfold atV cellI
        by_cases hr : 0 < balls % per
        · have q3 := q2 hr
          have hl2 := s.len (balls / per + 1).toNat (by omega)
          have k3 : 0 ≤ gt (gt rows (balls / per + 1).toNat) w.toNat ∧ gt (gt rows (balls / per + 1).toNat) w.toNat ≤ 10000 := s.rng _ (by omega) _ (by omega)
          have k4 := mul_box (b := balls % per) (B := 8) k3.1 k3.2 (by omega) (by omega)
          rw [if_pos hr]
          exact ⟨by omega, by omega⟩
        · rw [if_neg hr]
          exact ⟨by omega, by omega⟩

abbrev lc_lost_ok (a b c d e f g h i j k m n : AV) : Env := [(0,a),(1,b),(2,c),(3,d),(5,e),(6,f),(7,g),(8,h),(9,i),(10,j),(22,k),(35,m),(41,n)]
theorem lost_ok (lim : Nat) (H : Heap) (rows : Tb) (per : Int) (s : Stp) :
    ACall sig lim 40 [.agg [rowsAV rows], AV.i per, .agg (stC s)] H fun r H' => r = .tup [AV.i (lostS rows per s).1, AV.i (lostS rows per s).2] ∧ H' = H := by
 refine ACall_pure (fa := fa40) rfl rfl rfl rfl ?_
 have tr : ∀ a0 a1 a2 : AV, env0 fa40.keep [a0, a1, a2] = [(0,a0),(1,a1),(2,a2),(3,.any),(5,.any),(6,.any),(7,.any),(8,.any),(9,.any),(10,.any),(22,.any),(35,.any),(41,.any)] := fun a0 a1 a2 => rfl
 refine W_to (tr _ _ _) ?_; clear tr
 refine at_seq rfl ?_
 refine rg rfl ?_
 refine R_box rfl (by simp (disch := first | omega | (simp only [List.length_map, List.length_append, List.length_set, List.length_cons, List.length_nil]; omega)) only [go_sem, ↓reduceIte, Nat.reduceEqDiff, reduceCtorEq]; rfl) rfl rfl ?_
 refine R_box rfl (by simp (disch := first | omega | (simp only [List.length_map, List.length_append, List.length_set, List.length_cons, List.length_nil]; omega)) only [go_sem, ↓reduceIte, Nat.reduceEqDiff, reduceCtorEq]; rfl) rfl rfl ?_
 refine Rq ?_
 refine Rq ?_
 have tr : ∀ a b c d e f g h i j k m n o p q r : AV, let l := lc_lost_ok a b c d e f g h i j k m n; trim ((7,r)::(6,q)::(5,p)::(3,o)::l) l = [(0,a),(1,b),(2,c),(3,o),(5,p),(6,q),(7,r),(8,h),(9,i),(10,j),(22,k),(35,m),(41,n)] := by intros; rfl
 refine R_nil (tr ..) ?_; clear tr
 refine then_n ?_
 refine at_seq rfl ?_
 refine rg rfl ?_
 refine Rq ?_
 refine Rq ?_
 refine Rq ?_
 refine Rq ?_
 refine Rq ?_
 refine Rq ?_
 refine Rcall ?_
 refine ACall_eq (at_ok _ _ rows per _ _) ?_
 refine Rq ?_
 refine Rq ?_
 refine Rq ?_
 refine Rq ?_
 refine Rq ?_
 have tr : ∀ a b c d e f g h i j k m n o p q r s t u v w x y z : AV, let l := lc_lost_ok a b c d e f g h i j k m n; trim ((9,z)::(8,y)::(20,x)::(19,w)::(11,v)::(18,u)::(17,t)::(16,s)::(15,r)::(14,q)::(13,p)::(12,o)::l) l = [(0,a),(1,b),(2,c),(3,d),(5,e),(6,f),(7,g),(8,y),(9,z),(10,j),(22,k),(35,m),(41,n)] := by intros; rfl
 refine R_nil (tr ..) ?_; clear tr
 refine then_n ?_
 refine at_seq rfl ?_
 refine at_seq rfl ?_
 refine rg rfl ?_
 refine Rq ?_
 refine Rq ?_
 have tr : ∀ a b c d e f g h i j k m n o p : AV, let l := lc_lost_ok a b c d e f g h i j k m n; trim ((22,p)::(21,o)::l) l = [(0,a),(1,b),(2,c),(3,d),(5,e),(6,f),(7,g),(8,h),(9,i),(10,j),(22,p),(35,m),(41,n)] := by intros; rfl
 refine R_nil (tr ..) ?_; clear tr
 refine then_n ?_
 refine cdd (fun h1 => ?_) (fun h1 => ?_)
 ·
  try simp only [decide_eq_true_eq, decide_eq_false_iff_not, Bool.not_eq_true', Bool.not_eq_false', beq_iff_eq, beq_eq_false_iff_ne, ne_eq] at h1
  refine at_seq rfl ?_
  refine rg rfl ?_
  refine Rq ?_
  refine Rq ?_
  refine Rq ?_
  have tr : ∀ a b c d e f g h i j k m n o p q : AV, let l := lc_lost_ok a b c d e f g h i j k m n; trim ((7,q)::(6,p)::(23,o)::l) l = [(0,a),(1,b),(2,c),(3,d),(5,e),(6,p),(7,q),(8,h),(9,i),(10,j),(22,k),(35,m),(41,n)] := by intros; rfl
  refine R_nil (tr ..) ?_; clear tr
  refine then_n ?_
  refine at_ret rfl ?_
  refine then_r ?_
  refine fpure ?_
  refine ⟨?_, rfl⟩
  rw [lostS, if_pos (by assumption)]
 ·
  try simp only [decide_eq_true_eq, decide_eq_false_iff_not, Bool.not_eq_true', Bool.not_eq_false', beq_iff_eq, beq_eq_false_iff_ne, ne_eq] at h1
  refine at_skip rfl ?_
  refine then_n ?_
  refine at_seq rfl ?_
  refine rg rfl ?_
  refine Rq ?_
  refine Rq ?_
  refine Rq ?_
  refine Rq ?_
  refine Rq ?_
  refine Rq ?_
  refine Rcall ?_
  refine ACall_eq (at_ok _ _ rows per _ _) ?_
  refine Rq ?_
  refine Rq ?_
  refine Rq ?_
  refine Rq ?_
  refine Rq ?_
  have tr : ∀ a b c d e f g h i j k m n o p q r s t u v w x y z : AV, let l := lc_lost_ok a b c d e f g h i j k m n; trim ((9,z)::(10,y)::(33,x)::(32,w)::(24,v)::(31,u)::(30,t)::(29,s)::(28,r)::(27,q)::(26,p)::(25,o)::l) l = [(0,a),(1,b),(2,c),(3,d),(5,e),(6,f),(7,g),(8,h),(9,z),(10,y),(22,k),(35,m),(41,n)] := by intros; rfl
  refine R_nil (tr ..) ?_; clear tr
  refine then_n ?_
  refine at_seq rfl ?_
  refine at_seq rfl ?_
  refine rg rfl ?_
  refine Rq ?_
  refine Rq ?_
  have tr : ∀ a b c d e f g h i j k m n o p : AV, let l := lc_lost_ok a b c d e f g h i j k m n; trim ((35,p)::(34,o)::l) l = [(0,a),(1,b),(2,c),(3,d),(5,e),(6,f),(7,g),(8,h),(9,i),(10,j),(22,k),(35,p),(41,n)] := by intros; rfl
  refine R_nil (tr ..) ?_; clear tr
  refine then_n ?_
  refine cdd (fun h2 => ?_) (fun h2 => ?_)
  ·
   try simp only [decide_eq_true_eq, decide_eq_false_iff_not, Bool.not_eq_true', Bool.not_eq_false', beq_iff_eq, beq_eq_false_iff_ne, ne_eq] at h2
   refine at_seq rfl ?_
   refine rg rfl ?_
   refine Rq ?_
   refine Rq ?_
   refine Rq ?_
   have tr : ∀ a b c d e f g h i j k m n o p q : AV, let l := lc_lost_ok a b c d e f g h i j k m n; trim ((7,q)::(6,p)::(36,o)::l) l = [(0,a),(1,b),(2,c),(3,d),(5,e),(6,p),(7,q),(8,h),(9,i),(10,j),(22,k),(35,m),(41,n)] := by intros; rfl
   refine R_nil (tr ..) ?_; clear tr
   refine then_n ?_
   refine at_ret rfl ?_
   refine then_r ?_
   refine fpure ?_
   refine ⟨?_, rfl⟩
   rw [lostS, if_neg (by omega), if_pos (by assumption)]
  ·
   try simp only [decide_eq_true_eq, decide_eq_false_iff_not, Bool.not_eq_true', Bool.not_eq_false', beq_iff_eq, beq_eq_false_iff_ne, ne_eq] at h2
   refine at_skip rfl ?_
   refine then_n ?_
   refine at_seq rfl ?_
   refine at_seq rfl ?_
   refine rg rfl ?_
   refine Rq ?_
   refine Rq ?_
   refine Rq ?_
   refine Rq ?_
   refine Rq ?_
   have tr : ∀ a b c d e f g h i j k m n o p q r s : AV, let l := lc_lost_ok a b c d e f g h i j k m n; trim ((41,s)::(40,r)::(39,q)::(38,p)::(37,o)::l) l = [(0,a),(1,b),(2,c),(3,d),(5,e),(6,f),(7,g),(8,h),(9,i),(10,j),(22,k),(35,m),(41,s)] := by intros; rfl
   refine R_nil (tr ..) ?_; clear tr
   refine then_n ?_
   refine cdd (fun h3 => ?_) (fun h3 => ?_)
   ·
    try simp only [decide_eq_true_eq, decide_eq_false_iff_not, Bool.not_eq_true', Bool.not_eq_false', beq_iff_eq, beq_eq_false_iff_ne, ne_eq] at h3
    refine at_seq rfl ?_
    refine rg rfl ?_
    refine Rq ?_
    refine Rq ?_
    have tr : ∀ a b c d e f g h i j k m n o p : AV, let l := lc_lost_ok a b c d e f g h i j k m n; trim ((7,p)::(6,o)::l) l = [(0,a),(1,b),(2,c),(3,d),(5,e),(6,o),(7,p),(8,h),(9,i),(10,j),(22,k),(35,m),(41,n)] := by intros; rfl
    refine R_nil (tr ..) ?_; clear tr
    refine then_n ?_
    refine at_ret rfl ?_
    refine then_r ?_
    refine fpure ?_
    refine ⟨?_, rfl⟩
    rw [lostS, if_neg (by omega), if_neg (by omega), if_pos (by omega)]
   ·
    try simp only [decide_eq_true_eq, decide_eq_false_iff_not, Bool.not_eq_true', Bool.not_eq_false', beq_iff_eq, beq_eq_false_iff_ne, ne_eq] at h3
    refine at_skip rfl ?_
    refine then_n ?_
    refine at_seq rfl ?_
    refine rg rfl ?_
    have hb := at_range (rows := rows) (per := per) (balls := s.b) (w := s.w)
    have ha := at_range (rows := rows) (per := per) (balls := s.a) (w := s.w)
    refine Rq ?_
    refine Rq ?_
    refine Rq ?_
    refine Rq ?_
    refine Rq ?_
    have tr : ∀ a b c d e f g h i j k m n o p q r s : AV, let l := lc_lost_ok a b c d e f g h i j k m n; trim ((7,s)::(6,r)::(44,q)::(43,p)::(42,o)::l) l = [(0,a),(1,b),(2,c),(3,d),(5,e),(6,r),(7,s),(8,h),(9,i),(10,j),(22,k),(35,m),(41,n)] := by intros; rfl
    refine R_nil (tr ..) ?_; clear tr
    refine then_n ?_
    refine at_ret rfl ?_
    refine fpure ?_
    refine ⟨?_, rfl⟩
    rw [lostS, if_neg (by omega), if_neg (by omega), if_neg (by omega)]

abbrev lc_rlost_ok (a b c d e f g h i j k m n : AV) : Env := [(0,a),(1,b),(2,c),(3,d),(5,e),(6,f),(7,g),(8,h),(9,i),(10,j),(22,k),(35,m),(41,n)]
theorem rlost_ok (lim : Nat) (H : Heap) (rows : Tb) (per : Int) (s : Stp) :
    ACall sig lim 41 [.agg [rowsAV rows], AV.i per, .agg (stC s)] H fun r H' => r = .tup [AV.i (lostS rows per s).1, AV.i (lostS rows per s).2] ∧ H' = H := by
 refine ACall_pure (fa := fa41) rfl rfl rfl rfl ?_
 have tr : ∀ a0 a1 a2 : AV, env0 fa41.keep [a0, a1, a2] = [(0,a0),(1,a1),(2,a2),(3,.any),(5,.any),(6,.any),(7,.any),(8,.any),(9,.any),(10,.any),(22,.any),(35,.any),(41,.any)] := fun a0 a1 a2 => rfl
 refine W_to (tr _ _ _) ?_; clear tr
 refine at_seq rfl ?_
 refine rg rfl ?_
 refine R_box rfl (by simp (disch := first | omega | (simp only [List.length_map, List.length_append, List.length_set, List.length_cons, List.length_nil]; omega)) only [go_sem, ↓reduceIte, Nat.reduceEqDiff, reduceCtorEq]; rfl) rfl rfl ?_
 refine R_box rfl (by simp (disch := first | omega | (simp only [List.length_map, List.length_append, List.length_set, List.length_cons, List.length_nil]; omega)) only [go_sem, ↓reduceIte, Nat.reduceEqDiff, reduceCtorEq]; rfl) rfl rfl ?_
 refine Rq ?_
 refine Rq ?_
 have tr : ∀ a b c d e f g h i j k m n o p q r : AV, let l := lc_rlost_ok a b c d e f g h i j k m n; trim ((7,r)::(6,q)::(5,p)::(3,o)::l) l = [(0,a),(1,b),(2,c),(3,o),(5,p),(6,q),(7,r),(8,h),(9,i),(10,j),(22,k),(35,m),(41,n)] := by intros; rfl
 refine R_nil (tr ..) ?_; clear tr
 refine then_n ?_
 refine at_seq rfl ?_
 refine rg rfl ?_
 refine Rq ?_
 refine Rq ?_
 refine Rq ?_
 refine Rq ?_
 refine Rq ?_
 refine Rq ?_
 refine Rcall ?_
 refine ACall_eq (rat_ok _ _ rows per _ _) ?_
 refine Rq ?_
 refine Rq ?_
 refine Rq ?_
 refine Rq ?_
 refine Rq ?_
 have tr : ∀ a b c d e f g h i j k m n o p q r s t u v w x y z : AV, let l := lc_rlost_ok a b c d e f g h i j k m n; trim ((9,z)::(8,y)::(20,x)::(19,w)::(11,v)::(18,u)::(17,t)::(16,s)::(15,r)::(14,q)::(13,p)::(12,o)::l) l = [(0,a),(1,b),(2,c),(3,d),(5,e),(6,f),(7,g),(8,y),(9,z),(10,j),(22,k),(35,m),(41,n)] := by intros; rfl
 refine R_nil (tr ..) ?_; clear tr
 refine then_n ?_
 refine at_seq rfl ?_
 refine at_seq rfl ?_
 refine rg rfl ?_
 refine Rq ?_
 refine Rq ?_
 have tr : ∀ a b c d e f g h i j k m n o p : AV, let l := lc_rlost_ok a b c d e f g h i j k m n; trim ((22,p)::(21,o)::l) l = [(0,a),(1,b),(2,c),(3,d),(5,e),(6,f),(7,g),(8,h),(9,i),(10,j),(22,p),(35,m),(41,n)] := by intros; rfl
 refine R_nil (tr ..) ?_; clear tr
 refine then_n ?_
 refine cdd (fun h1 => ?_) (fun h1 => ?_)
 ·
  try simp only [decide_eq_true_eq, decide_eq_false_iff_not, Bool.not_eq_true', Bool.not_eq_false', beq_iff_eq, beq_eq_false_iff_ne, ne_eq] at h1
  refine at_seq rfl ?_
  refine rg rfl ?_
  refine Rq ?_
  refine Rq ?_
  refine Rq ?_
  have tr : ∀ a b c d e f g h i j k m n o p q : AV, let l := lc_rlost_ok a b c d e f g h i j k m n; trim ((7,q)::(6,p)::(23,o)::l) l = [(0,a),(1,b),(2,c),(3,d),(5,e),(6,p),(7,q),(8,h),(9,i),(10,j),(22,k),(35,m),(41,n)] := by intros; rfl
  refine R_nil (tr ..) ?_; clear tr
  refine then_n ?_
  refine at_ret rfl ?_
  refine then_r ?_
  refine fpure ?_
  refine ⟨?_, rfl⟩
  rw [lostS, if_pos (by assumption)]
 ·
  try simp only [decide_eq_true_eq, decide_eq_false_iff_not, Bool.not_eq_true', Bool.not_eq_false', beq_iff_eq, beq_eq_false_iff_ne, ne_eq] at h1
  refine at_skip rfl ?_
  refine then_n ?_
  refine at_seq rfl ?_
  refine rg rfl ?_
  refine Rq ?_
  refine Rq ?_
  refine Rq ?_
  refine Rq ?_
  refine Rq ?_
  refine Rq ?_
  refine Rcall ?_
  refine ACall_eq (rat_ok _ _ rows per _ _) ?_
  refine Rq ?_
  refine Rq ?_
  refine Rq ?_
  refine Rq ?_
  refine Rq ?_
  have tr : ∀ a b c d e f g h i j k m n o p q r s t u v w x y z : AV, let l := lc_rlost_ok a b c d e f g h i j k m n; trim ((9,z)::(10,y)::(33,x)::(32,w)::(24,v)::(31,u)::(30,t)::(29,s)::(28,r)::(27,q)::(26,p)::(25,o)::l) l = [(0,a),(1,b),(2,c),(3,d),(5,e),(6,f),(7,g),(8,h),(9,z),(10,y),(22,k),(35,m),(41,n)] := by intros; rfl
  refine R_nil (tr ..) ?_; clear tr
  refine then_n ?_
  refine at_seq rfl ?_
  refine at_seq rfl ?_
  refine rg rfl ?_
  refine Rq ?_
  refine Rq ?_
  have tr : ∀ a b c d e f g h i j k m n o p : AV, let l := lc_rlost_ok a b c d e f g h i j k m n; trim ((35,p)::(34,o)::l) l = [(0,a),(1,b),(2,c),(3,d),(5,e),(6,f),(7,g),(8,h),(9,i),(10,j),(22,k),(35,p),(41,n)] := by intros; rfl
  refine R_nil (tr ..) ?_; clear tr
  refine then_n ?_
  refine cdd (fun h2 => ?_) (fun h2 => ?_)
  ·
   try simp only [decide_eq_true_eq, decide_eq_false_iff_not, Bool.not_eq_true', Bool.not_eq_false', beq_iff_eq, beq_eq_false_iff_ne, ne_eq] at h2
   refine at_seq rfl ?_
   refine rg rfl ?_
   refine Rq ?_
   refine Rq ?_
   refine Rq ?_
   have tr : ∀ a b c d e f g h i j k m n o p q : AV, let l := lc_rlost_ok a b c d e f g h i j k m n; trim ((7,q)::(6,p)::(36,o)::l) l = [(0,a),(1,b),(2,c),(3,d),(5,e),(6,p),(7,q),(8,h),(9,i),(10,j),(22,k),(35,m),(41,n)] := by intros; rfl
   refine R_nil (tr ..) ?_; clear tr
   refine then_n ?_
   refine at_ret rfl ?_
   refine then_r ?_
   refine fpure ?_
   refine ⟨?_, rfl⟩
   rw [lostS, if_neg (by omega), if_pos (by assumption)]
  ·
   try simp only [decide_eq_true_eq, decide_eq_false_iff_not, Bool.not_eq_true', Bool.not_eq_false', beq_iff_eq, beq_eq_false_iff_ne, ne_eq] at h2
   refine at_skip rfl ?_
   refine then_n ?_
   refine at_seq rfl ?_
   refine at_seq rfl ?_
   refine rg rfl ?_
   refine Rq ?_
   refine Rq ?_
   refine Rq ?_
   refine Rq ?_
   refine Rq ?_
   have tr : ∀ a b c d e f g h i j k m n o p q r s : AV, let l := lc_rlost_ok a b c d e f g h i j k m n; trim ((41,s)::(40,r)::(39,q)::(38,p)::(37,o)::l) l = [(0,a),(1,b),(2,c),(3,d),(5,e),(6,f),(7,g),(8,h),(9,i),(10,j),(22,k),(35,m),(41,s)] := by intros; rfl
   refine R_nil (tr ..) ?_; clear tr
   refine then_n ?_
   refine cdd (fun h3 => ?_) (fun h3 => ?_)
   ·
    try simp only [decide_eq_true_eq, decide_eq_false_iff_not, Bool.not_eq_true', Bool.not_eq_false', beq_iff_eq, beq_eq_false_iff_ne, ne_eq] at h3
    refine at_seq rfl ?_
    refine rg rfl ?_
    refine Rq ?_
    refine Rq ?_
    have tr : ∀ a b c d e f g h i j k m n o p : AV, let l := lc_rlost_ok a b c d e f g h i j k m n; trim ((7,p)::(6,o)::l) l = [(0,a),(1,b),(2,c),(3,d),(5,e),(6,o),(7,p),(8,h),(9,i),(10,j),(22,k),(35,m),(41,n)] := by intros; rfl
    refine R_nil (tr ..) ?_; clear tr
    refine then_n ?_
    refine at_ret rfl ?_
    refine then_r ?_
    refine fpure ?_
    refine ⟨?_, rfl⟩
    rw [lostS, if_neg (by omega), if_neg (by omega), if_pos (by omega)]
   ·
    try simp only [decide_eq_true_eq, decide_eq_false_iff_not, Bool.not_eq_true', Bool.not_eq_false', beq_iff_eq, beq_eq_false_iff_ne, ne_eq] at h3
    refine at_skip rfl ?_
    refine then_n ?_
    refine at_seq rfl ?_
    refine rg rfl ?_
    have hb := at_range (rows := rows) (per := per) (balls := s.b) (w := s.w)
    have ha := at_range (rows := rows) (per := per) (balls := s.a) (w := s.w)
    refine Rq ?_
    refine Rq ?_
    refine Rq ?_
    refine Rq ?_
    refine Rq ?_
    have tr : ∀ a b c d e f g h i j k m n o p q r s : AV, let l := lc_rlost_ok a b c d e f g h i j k m n; trim ((7,s)::(6,r)::(44,q)::(43,p)::(42,o)::l) l = [(0,a),(1,b),(2,c),(3,d),(5,e),(6,r),(7,s),(8,h),(9,i),(10,j),(22,k),(35,m),(41,n)] := by intros; rfl
    refine R_nil (tr ..) ?_; clear tr
    refine then_n ?_
    refine at_ret rfl ?_
    refine fpure ?_
    refine ⟨?_, rfl⟩
    rw [lostS, if_neg (by omega), if_neg (by omega), if_neg (by omega)]

end Go.Proofs.Ytaoondlakhocnaa
