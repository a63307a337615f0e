/-
  Walks of chapters 37, 39 and 40. The steps are written by program (walk.py).
-/
import Derived.Test.YtaoondlakhocnaaRH
import Derived.Test.YtaoondlakhocnaaRI
set_option linter.unusedSimpArgs false
set_option linter.unusedVariables false
set_option maxHeartbeats 40000000
set_option maxRecDepth 4000
namespace Go.Proofs.Ytaoondlakhocnaa
open Go Go.Am

structure Stp where
  b : Int
  a : Int
  w : Int
deriving DecidableEq
instance : Inhabited Stp := ⟨⟨0, 0, 0⟩⟩
abbrev stC (s : Stp) : List AV := [AV.i s.b, AV.i s.a, AV.i s.w]
def flatS (l : List Stp) : List AV := (l.map stC).flatten
abbrev stopsAV (l : List Stp) : AV := .sl l.length (flatS l)
theorem flat_get : ∀ (l : List Stp) (u k : Nat), u < l.length → k < 3 → (flatS l)[u * 3 + k]? = (stC (gt l u))[k]?
  | [], u, k, h, _ => by simp at h
  | s :: l, 0, k, _, hk => by
    unfold flatS
    rw [List.map_cons, List.flatten_cons, Nat.zero_mul, Nat.zero_add, List.getElem?_append_left (by simpa using hk)]
    rfl
  | s :: l, u + 1, k, h, hk => by
    have ih := flat_get l u k (by simpa using h) hk
    unfold flatS at ih ⊢
    rw [List.map_cons, List.flatten_cons, List.getElem?_append_right (by simp; omega)]
    rw [show (u + 1) * 3 + k - (stC s).length = u * 3 + k by simp; omega, ih]
    rfl
theorem flat_len (l : List Stp) : (flatS l).length = l.length * 3 := by
  induction l with
  | nil => rfl
  | cons s l ih => unfold flatS at ih ⊢; rw [List.map_cons, List.flatten_cons, List.length_append, ih]; simp; omega
theorem flat0 (l : List Stp) (u : Nat) (h : u < l.length) : (flatS l)[u * 3]? = some (AV.i (gt l u).b) := flat_get l u 0 h (by omega)
theorem flat1 (l : List Stp) (u : Nat) (h : u < l.length) : (flatS l)[u * 3 + 1]? = some (AV.i (gt l u).a) := flat_get l u 1 h (by omega)
theorem flat2 (l : List Stp) (u : Nat) (h : u < l.length) : (flatS l)[u * 3 + 2]? = some (AV.i (gt l u).w) := flat_get l u 2 h (by omega)
theorem ld_stop (l : List Stp) (u : Nat) (h : u < l.length) : partL { size := 3, bytes := 24, agg := true, k := TyK.struct [(0, 2), (1, 2), (2, 3)], zero := some [.int .i64 0, .int .i64 0, .int .i64 0] } (flatS l) (u * 3) = some (.agg (stC (gt l u))) := by
  rw [pl56 _ _ (by rw [flat_len]; omega)]
  congr 2
  apply List.ext_getElem?
  intro j
  rw [List.getElem?_take, List.getElem?_drop]
  by_cases hj : j < 3
  · rw [if_pos hj, flat_get l u j h hj]
  · rw [if_neg hj, List.getElem?_eq_none (by simp; omega)]
attribute [go_sem] flat0 flat1 flat2 ld_stop

/-- The first error of some that come in order. -/
def ferr (f : Nat → Int) : Nat → Int
  | 0 => 0
  | n + 1 => if ferr f n ≠ 0 then ferr f n else f n
theorem ferr_at {f : Nat → Int} {u : Nat} (h : ferr f u = 0) (hf : f u ≠ 0) : ∀ n, u < n → ferr f n = f u
  | 0, hn => by omega
  | n + 1, hn => by
    unfold ferr
    by_cases hu : u = n
    · subst hu; rw [if_neg (by omega)]
    · rw [ferr_at h hf n (by omega), if_pos hf]
theorem ferr_ok {f : Nat → Int} {u : Nat} (h : ferr f u = 0) (hf : f u = 0) : ferr f (u + 1) = 0 := by
  unfold ferr
  rw [if_neg (by omega), hf]
theorem ferr_all {f : Nat → Int} : ∀ {n : Nat}, ferr f n = 0 → ∀ i, i < n → f i = 0
  | 0, _, i, hi => by omega
  | n + 1, h, i, hi => by
    unfold ferr at h
    by_cases h0 : ferr f n ≠ 0
    · rw [if_pos h0] at h; omega
    · rw [if_neg h0] at h
      by_cases hn : i = n
      · subst hn; exact h
      · exact ferr_all (Decidable.not_not.mp h0) i (by omega)
def stopErr (rows : Tb) (balls : Int) (l : List Stp) (i : Nat) : Int :=
  if balls < (gt l i).b ∨ (gt l i).a < 0 ∨ (gt l i).w < 0 ∨ (gt rows 0).length < (gt l i).w then 2 else
  if (gt l i).b < (gt l i).a then 1 else
  if 0 < i ∧ ((gt l (i - 1)).a < (gt l i).b ∨ (gt l i).w < (gt l (i - 1)).w) then 8 else 0
def chkBad (rows : Tb) (per balls : Int) : Prop := per < 1 ∨ 8 < per ∨ balls < 1 ∨ ((rows.length : Int) - 1) * per < balls
instance (rows : Tb) (per balls : Int) : Decidable (chkBad rows per balls) := by unfold chkBad; infer_instance
noncomputable def chkS (rows : Tb) (per balls : Int) (l : List Stp) : Int :=
  if checkS rows ≠ 0 then checkS rows else if chkBad rows per balls then 2 else if 20 < l.length then 9 else ferr (stopErr rows balls l) l.length

abbrev lc_chk_ok (a b c d e f g h i j k m n o p q r s t : AV) : Env := [(0,a),(1,b),(2,c),(3,d),(4,e),(8,f),(9,g),(10,h),(11,i),(15,j),(34,k),(37,m),(38,n),(39,o),(40,p),(41,q),(45,r),(67,s),(73,t)]
theorem chk_ok (lim : Nat) (H : Heap) (rows : Tb) (per balls : Int) (l : List Stp) :
    ACall sig lim 38 [.agg [rowsAV rows], AV.i per, AV.i balls, stopsAV l] H fun r H' => r = AV.i (chkS rows per balls l) ∧ H' = H := by
 refine ACall_pure (fa := fa38) rfl rfl rfl rfl ?_
 have tr : ∀ a0 a1 a2 a3 : AV, env0 fa38.keep [a0, a1, a2, a3] = [(0,a0),(1,a1),(2,a2),(3,a3),(4,.any),(8,.any),(9,.any),(10,.any),(11,.any),(15,.any),(34,.any),(37,.any),(38,.any),(39,.any),(40,.any),(41,.any),(45,.any),(67,.any),(73,.any)] := fun a0 a1 a2 a3 => rfl
 refine W_to (tr _ _ _ _) ?_; clear tr
 refine at_seq rfl ?_
 refine rg rfl ?_
 refine R_box rfl (by simp (disch := first | omega | (simp only [List.length_map, List.length_append, List.length_set, List.length_cons, List.length_nil]; omega)) only [go_sem, ↓reduceIte, Nat.reduceEqDiff, reduceCtorEq]; rfl) rfl rfl ?_
 refine Rq ?_
 have tr : ∀ a b c d e f g h i j k m n o p q r s t u v : AV, let l := lc_chk_ok a b c d e f g h i j k m n o p q r s t; trim ((8,v)::(4,u)::l) l = [(0,a),(1,b),(2,c),(3,d),(4,u),(8,v),(9,g),(10,h),(11,i),(15,j),(34,k),(37,m),(38,n),(39,o),(40,p),(41,q),(45,r),(67,s),(73,t)] := by intros; rfl
 refine R_nil (tr ..) ?_; clear tr
 refine then_n ?_
 refine at_seq rfl ?_
 refine at_seq rfl ?_
 refine rg rfl ?_
 refine Rq ?_
 refine Rcall ?_
 refine ACall_eq (check_ok _ _ _) ?_
 refine Rq ?_
 have tr : ∀ a b c d e f g h i j k m n o p q r s t u v w : AV, let l := lc_chk_ok a b c d e f g h i j k m n o p q r s t; trim ((9,w)::(13,v)::(12,u)::l) l = [(0,a),(1,b),(2,c),(3,d),(4,e),(8,f),(9,w),(10,h),(11,i),(15,j),(34,k),(37,m),(38,n),(39,o),(40,p),(41,q),(45,r),(67,s),(73,t)] := by intros; rfl
 refine R_nil (tr ..) ?_; clear tr
 refine then_n ?_
 refine at_seq rfl ?_
 refine rg rfl ?_
 refine Rq ?_
 refine Rq ?_
 have tr : ∀ a b c d e f g h i j k m n o p q r s t u v : AV, let l := lc_chk_ok a b c d e f g h i j k m n o p q r s t; trim ((15,v)::(14,u)::l) l = [(0,a),(1,b),(2,c),(3,d),(4,e),(8,f),(9,g),(10,h),(11,i),(15,v),(34,k),(37,m),(38,n),(39,o),(40,p),(41,q),(45,r),(67,s),(73,t)] := by intros; rfl
 refine R_nil (tr ..) ?_; clear tr
 refine then_n ?_
 refine cdd (fun h1 => ?_) (fun h1 => ?_)
 ·
  try simp only [decide_eq_true_eq, decide_eq_false_iff_not, Bool.not_eq_true', Bool.not_eq_false', beq_iff_eq, beq_eq_false_iff_ne, ne_eq] at h1
  refine at_seq rfl ?_
  refine rg rfl ?_
  refine Rq ?_
  refine Rq ?_
  have tr : ∀ a b c d e f g h i j k m n o p q r s t u v : AV, let l := lc_chk_ok a b c d e f g h i j k m n o p q r s t; trim ((8,v)::(16,u)::l) l = [(0,a),(1,b),(2,c),(3,d),(4,e),(8,v),(9,g),(10,h),(11,i),(15,j),(34,k),(37,m),(38,n),(39,o),(40,p),(41,q),(45,r),(67,s),(73,t)] := by intros; rfl
  refine R_nil (tr ..) ?_; clear tr
  refine then_n ?_
  refine at_ret rfl ?_
  refine then_r ?_
  refine fpure ?_
  refine ⟨?_, rfl⟩
  rw [chkS, if_pos (by assumption)]
 ·
  try simp only [decide_eq_true_eq, decide_eq_false_iff_not, Bool.not_eq_true', Bool.not_eq_false', beq_iff_eq, beq_eq_false_iff_ne, ne_eq] at h1
  refine at_skip rfl ?_
  refine then_n ?_
  refine at_seq rfl ?_
  refine at_seq rfl ?_
  refine rg rfl ?_
  refine Rq ?_
  refine Rq ?_
  refine Rq ?_
  refine Rp_split (fun h2 => ?_) (fun h2 => ?_)
  ·
   try simp only [decide_eq_true_eq, decide_eq_false_iff_not, Bool.not_eq_true', Bool.not_eq_false', beq_iff_eq, beq_eq_false_iff_ne, ne_eq] at h2
   refine Rn ?_
   refine Rn ?_
   refine Rq ?_
   refine Rq ?_
   refine Rn ?_
   refine Rn ?_
   refine Rq ?_
   refine Rq ?_
   refine Rn ?_
   refine Rn ?_
   refine Rn ?_
   refine Rn ?_
   refine Rn ?_
   refine Rn ?_
   refine Rq ?_
   have tr : ∀ a b c d e f g h i j k m n o p q r s t u v w x y z A B C D E F G H I J K L : AV, let l := lc_chk_ok a b c d e f g h i j k m n o p q r s t; trim ((34,L)::(33,K)::(32,J)::(31,I)::(30,H)::(29,G)::(28,F)::(27,E)::(26,D)::(25,C)::(24,B)::(23,A)::(22,z)::(21,y)::(20,x)::(19,w)::(18,v)::(17,u)::l) l = [(0,a),(1,b),(2,c),(3,d),(4,e),(8,f),(9,g),(10,h),(11,i),(15,j),(34,L),(37,m),(38,n),(39,o),(40,p),(41,q),(45,r),(67,s),(73,t)] := by intros; rfl
   refine R_nil (tr ..) ?_; clear tr
   refine then_n ?_
   refine cdt ?_
   refine at_seq rfl ?_
   refine rg rfl ?_
   refine Rq ?_
   have tr : ∀ a b c d e f g h i j k m n o p q r s t u : AV, let l := lc_chk_ok a b c d e f g h i j k m n o p q r s t; trim ((8,u)::l) l = [(0,a),(1,b),(2,c),(3,d),(4,e),(8,u),(9,g),(10,h),(11,i),(15,j),(34,k),(37,m),(38,n),(39,o),(40,p),(41,q),(45,r),(67,s),(73,t)] := by intros; rfl
   refine R_nil (tr ..) ?_; clear tr
   refine then_n ?_
   refine at_ret rfl ?_
   refine then_r ?_
   refine fpure ?_
   refine ⟨?_, rfl⟩
   rw [chkS, if_neg (by omega), if_pos (by unfold chkBad; omega)]
  ·
   try simp only [decide_eq_true_eq, decide_eq_false_iff_not, Bool.not_eq_true', Bool.not_eq_false', beq_iff_eq, beq_eq_false_iff_ne, ne_eq] at h2
   refine Ry ?_
   refine Rq ?_
   refine Ry ?_
   refine Rq ?_
   refine Rq ?_
   refine Rq ?_
   refine Rp_split (fun h3 => ?_) (fun h3 => ?_)
   ·
    try simp only [decide_eq_true_eq, decide_eq_false_iff_not, Bool.not_eq_true', Bool.not_eq_false', beq_iff_eq, beq_eq_false_iff_ne, ne_eq] at h3
    refine Rn ?_
    refine Rn ?_
    refine Rq ?_
    refine Rq ?_
    refine Rn ?_
    refine Rn ?_
    refine Rn ?_
    refine Rn ?_
    refine Rn ?_
    refine Rn ?_
    refine Rq ?_
    have tr : ∀ a b c d e f g h i j k m n o p q r s t u v w x y z A B C D E F G H I J K L : AV, let l := lc_chk_ok a b c d e f g h i j k m n o p q r s t; trim ((34,L)::(33,K)::(32,J)::(31,I)::(30,H)::(29,G)::(28,F)::(27,E)::(26,D)::(25,C)::(24,B)::(23,A)::(22,z)::(21,y)::(20,x)::(19,w)::(18,v)::(17,u)::l) l = [(0,a),(1,b),(2,c),(3,d),(4,e),(8,f),(9,g),(10,h),(11,i),(15,j),(34,L),(37,m),(38,n),(39,o),(40,p),(41,q),(45,r),(67,s),(73,t)] := by intros; rfl
    refine R_nil (tr ..) ?_; clear tr
    refine then_n ?_
    refine cdt ?_
    refine at_seq rfl ?_
    refine rg rfl ?_
    refine Rq ?_
    have tr : ∀ a b c d e f g h i j k m n o p q r s t u : AV, let l := lc_chk_ok a b c d e f g h i j k m n o p q r s t; trim ((8,u)::l) l = [(0,a),(1,b),(2,c),(3,d),(4,e),(8,u),(9,g),(10,h),(11,i),(15,j),(34,k),(37,m),(38,n),(39,o),(40,p),(41,q),(45,r),(67,s),(73,t)] := by intros; rfl
    refine R_nil (tr ..) ?_; clear tr
    refine then_n ?_
    refine at_ret rfl ?_
    refine then_r ?_
    refine fpure ?_
    refine ⟨?_, rfl⟩
    rw [chkS, if_neg (by omega), if_pos (by unfold chkBad; omega)]
   ·
    try simp only [decide_eq_true_eq, decide_eq_false_iff_not, Bool.not_eq_true', Bool.not_eq_false', beq_iff_eq, beq_eq_false_iff_ne, ne_eq] at h3
    refine Ry ?_
    refine Rq ?_
    refine Ry ?_
    refine Rq ?_
    refine Rq ?_
    refine Rq ?_
    refine Rp_split (fun h4 => ?_) (fun h4 => ?_)
    ·
     try simp only [decide_eq_true_eq, decide_eq_false_iff_not, Bool.not_eq_true', Bool.not_eq_false', beq_iff_eq, beq_eq_false_iff_ne, ne_eq] at h4
     refine Rn ?_
     refine Rn ?_
     refine Rn ?_
     refine Rn ?_
     refine Rn ?_
     refine Rn ?_
     refine Rq ?_
     have tr : ∀ a b c d e f g h i j k m n o p q r s t u v w x y z A B C D E F G H I J K L : AV, let l := lc_chk_ok a b c d e f g h i j k m n o p q r s t; trim ((34,L)::(33,K)::(32,J)::(31,I)::(30,H)::(29,G)::(28,F)::(27,E)::(26,D)::(25,C)::(24,B)::(23,A)::(22,z)::(21,y)::(20,x)::(19,w)::(18,v)::(17,u)::l) l = [(0,a),(1,b),(2,c),(3,d),(4,e),(8,f),(9,g),(10,h),(11,i),(15,j),(34,L),(37,m),(38,n),(39,o),(40,p),(41,q),(45,r),(67,s),(73,t)] := by intros; rfl
     refine R_nil (tr ..) ?_; clear tr
     refine then_n ?_
     refine cdt ?_
     refine at_seq rfl ?_
     refine rg rfl ?_
     refine Rq ?_
     have tr : ∀ a b c d e f g h i j k m n o p q r s t u : AV, let l := lc_chk_ok a b c d e f g h i j k m n o p q r s t; trim ((8,u)::l) l = [(0,a),(1,b),(2,c),(3,d),(4,e),(8,u),(9,g),(10,h),(11,i),(15,j),(34,k),(37,m),(38,n),(39,o),(40,p),(41,q),(45,r),(67,s),(73,t)] := by intros; rfl
     refine R_nil (tr ..) ?_; clear tr
     refine then_n ?_
     refine at_ret rfl ?_
     refine then_r ?_
     refine fpure ?_
     refine ⟨?_, rfl⟩
     rw [chkS, if_neg (by omega), if_pos (by unfold chkBad; omega)]
    ·
     try simp only [decide_eq_true_eq, decide_eq_false_iff_not, Bool.not_eq_true', Bool.not_eq_false', beq_iff_eq, beq_eq_false_iff_ne, ne_eq] at h4
     refine Ry ?_
     refine Rq ?_
     refine Ry ?_
     refine Rq ?_
     refine Ry ?_
     refine Rcall ?_
     have s := check_shaped (by assumption : checkS rows = 0)
     have g2 := s.two
     have g91 := s.most
     refine ACall_eq (overs_ok _ _ rows g91 g2) ?_
     have hpm := mul_box (a := (rows.length : Int) - 1) (b := per) (A := 90) (B := 8) (by omega) (by omega) (by omega) (by omega)
     refine Ry ?_
     refine Rq ?_
     refine Ry ?_
     refine Rq ?_
     refine Ry ?_
     refine Rq ?_
     refine Rq ?_
     have tr : ∀ a b c d e f g h i j k m n o p q r s t u v w x y z A B C D E F G H I J K L : AV, let l := lc_chk_ok a b c d e f g h i j k m n o p q r s t; trim ((34,L)::(33,K)::(32,J)::(31,I)::(30,H)::(29,G)::(28,F)::(27,E)::(26,D)::(25,C)::(24,B)::(23,A)::(22,z)::(21,y)::(20,x)::(19,w)::(18,v)::(17,u)::l) l = [(0,a),(1,b),(2,c),(3,d),(4,e),(8,f),(9,g),(10,h),(11,i),(15,j),(34,L),(37,m),(38,n),(39,o),(40,p),(41,q),(45,r),(67,s),(73,t)] := by intros; rfl
     refine R_nil (tr ..) ?_; clear tr
     refine then_n ?_
     refine cdd (fun h5 => ?_) (fun h5 => ?_)
     ·
      try simp only [decide_eq_true_eq, decide_eq_false_iff_not, Bool.not_eq_true', Bool.not_eq_false', beq_iff_eq, beq_eq_false_iff_ne, ne_eq] at h5
      refine at_seq rfl ?_
      refine rg rfl ?_
      refine Rq ?_
      have tr : ∀ a b c d e f g h i j k m n o p q r s t u : AV, let l := lc_chk_ok a b c d e f g h i j k m n o p q r s t; trim ((8,u)::l) l = [(0,a),(1,b),(2,c),(3,d),(4,e),(8,u),(9,g),(10,h),(11,i),(15,j),(34,k),(37,m),(38,n),(39,o),(40,p),(41,q),(45,r),(67,s),(73,t)] := by intros; rfl
      refine R_nil (tr ..) ?_; clear tr
      refine then_n ?_
      refine at_ret rfl ?_
      refine then_r ?_
      refine fpure ?_
      refine ⟨?_, rfl⟩
      rw [chkS, if_neg (by omega), if_pos (by unfold chkBad; omega)]
     ·
      try simp only [decide_eq_true_eq, decide_eq_false_iff_not, Bool.not_eq_true', Bool.not_eq_false', beq_iff_eq, beq_eq_false_iff_ne, ne_eq] at h5
      refine at_skip rfl ?_
      refine then_n ?_
      refine at_seq rfl ?_
      refine at_seq rfl ?_
      refine rg rfl ?_
      refine Rq ?_
      refine Rq ?_
      refine Rq ?_
      have tr : ∀ a b c d e f g h i j k m n o p q r s t u v w : AV, let l := lc_chk_ok a b c d e f g h i j k m n o p q r s t; trim ((37,w)::(36,v)::(35,u)::l) l = [(0,a),(1,b),(2,c),(3,d),(4,e),(8,f),(9,g),(10,h),(11,i),(15,j),(34,k),(37,w),(38,n),(39,o),(40,p),(41,q),(45,r),(67,s),(73,t)] := by intros; rfl
      refine R_nil (tr ..) ?_; clear tr
      refine then_n ?_
      refine cdd (fun h6 => ?_) (fun h6 => ?_)
      ·
       try simp only [decide_eq_true_eq, decide_eq_false_iff_not, Bool.not_eq_true', Bool.not_eq_false', beq_iff_eq, beq_eq_false_iff_ne, ne_eq] at h6
       refine at_seq rfl ?_
       refine rg rfl ?_
       refine Rq ?_
       have tr : ∀ a b c d e f g h i j k m n o p q r s t u : AV, let l := lc_chk_ok a b c d e f g h i j k m n o p q r s t; trim ((8,u)::l) l = [(0,a),(1,b),(2,c),(3,d),(4,e),(8,u),(9,g),(10,h),(11,i),(15,j),(34,k),(37,m),(38,n),(39,o),(40,p),(41,q),(45,r),(67,s),(73,t)] := by intros; rfl
       refine R_nil (tr ..) ?_; clear tr
       refine then_n ?_
       refine at_ret rfl ?_
       refine then_r ?_
       refine fpure ?_
       refine ⟨?_, rfl⟩
       rw [chkS, if_neg (by omega), if_neg (by unfold chkBad; omega), if_pos (by omega)]
      ·
       try simp only [decide_eq_true_eq, decide_eq_false_iff_not, Bool.not_eq_true', Bool.not_eq_false', beq_iff_eq, beq_eq_false_iff_ne, ne_eq] at h6
       refine at_skip rfl ?_
       refine then_n ?_
       refine at_seq rfl ?_
       refine at_seq rfl ?_
       refine rg rfl ?_
       refine Rq ?_
       refine Rq ?_
       refine Rq ?_
       have tr : ∀ a b c d e f g h i j k m n o p q r s t u v w : AV, let l := lc_chk_ok a b c d e f g h i j k m n o p q r s t; trim ((40,w)::(39,v)::(38,u)::l) l = [(0,a),(1,b),(2,c),(3,d),(4,e),(8,f),(9,g),(10,h),(11,i),(15,j),(34,k),(37,m),(38,u),(39,v),(40,w),(41,q),(45,r),(67,s),(73,t)] := by intros; rfl
       refine R_nil (tr ..) ?_; clear tr
       refine then_n ?_
       refine at_block rfl ?_
       refine loop_n rfl (fun mm kv H' => ∃ u : Nat, ∃ X : Heap, ∃ x8 x10 x11 x41 x45 x67 x73 : AV, (kv = [(8, x8), (10, x10), (11, x11), (40, AV.i u), (41, x41), (45, x45), (67, x67), (73, x73)]) ∧ (mm = l.length - u) ∧ (H' = H ++ [some [rowsAV rows]] ++ X) ∧ (u ≤ l.length) ∧ (ferr (stopErr rows balls l) u = 0)) ⟨0, [], _, _, _, _, _, _, _, rfl, rfl, by simp, by omega, by rfl⟩ (by rfl) ?_
       rintro mm kv H1 ⟨u, X, x8, x10, x11, x41, x45, x67, x73, rfl, rfl, hX, hu, hz⟩
       have tr : ∀ a b c d e f g h i j k m n o p q r s t u v w x y z A B : AV, upd [(0,a),(1,b),(2,c),(3,d),(4,e),(8,f),(9,g),(10,h),(11,i),(15,j),(34,k),(37,m),(38,n),(39,o),(40,p),(41,q),(45,r),(67,s),(73,t)] [(8,u),(10,v),(11,w),(40,x),(41,y),(45,z),(67,A),(73,B)] = [(0,a),(1,b),(2,c),(3,d),(4,e),(8,u),(9,g),(10,v),(11,w),(15,j),(34,k),(37,m),(38,n),(39,o),(40,x),(41,y),(45,z),(67,A),(73,B)] := by intros; rfl
       refine W_to (tr ..) ?_; clear tr
       subst hX
       refine at_seq rfl ?_
       refine rg rfl ?_
       refine Rq ?_
       have tr : ∀ a b c d e f g h i j k m n o p q r s t u : AV, let l := lc_chk_ok a b c d e f g h i j k m n o p q r s t; trim ((41,u)::l) l = [(0,a),(1,b),(2,c),(3,d),(4,e),(8,f),(9,g),(10,h),(11,i),(15,j),(34,k),(37,m),(38,n),(39,o),(40,p),(41,u),(45,r),(67,s),(73,t)] := by intros; rfl
       refine R_nil (tr ..) ?_; clear tr
       refine then_n ?_
       refine at_seq rfl ?_
       refine cdd (fun h7 => ?_) (fun h7 => ?_)
       ·
        try simp only [decide_eq_true_eq, decide_eq_false_iff_not, Bool.not_eq_true', Bool.not_eq_false', beq_iff_eq, beq_eq_false_iff_ne, ne_eq] at h7
        refine at_skip rfl ?_
        refine then_n ?_
        refine at_seq rfl ?_
        refine at_block rfl ?_
        refine at_seq rfl ?_
        refine rg rfl ?_
        refine Rq ?_
        refine Rq ?_
        refine Rq ?_
        refine R_alloc (by simp (disch := first | omega | (simp only [List.length_map, List.length_append, List.length_set, List.length_cons, List.length_nil]; omega)) only [go_sem, ↓reduceIte, Nat.reduceEqDiff, reduceCtorEq]; rfl) rfl (by simp only [List.map_cons, List.map_nil]; rfl) ?_
        refine Rq ?_
        refine R_store ty56 (by simp (disch := first | omega | (simp only [List.length_map, List.length_append, List.length_set, List.length_cons, List.length_nil]; omega)) only [go_sem, ↓reduceIte, Nat.reduceEqDiff, reduceCtorEq]; rfl) (by simp (disch := first | omega | (simp only [List.length_map, List.length_append, List.length_set, List.length_cons, List.length_nil]; omega)) only [go_sem, ↓reduceIte, Nat.reduceEqDiff, reduceCtorEq]; rfl) (by simp (disch := first | omega | (simp only [List.length_map, List.length_append, List.length_set, List.length_cons, List.length_nil]; omega)) only [go_sem, ↓reduceIte, Nat.reduceEqDiff, reduceCtorEq]; rfl) (by simp) (by rfl) (by simp (disch := first | omega | (simp only [List.length_map, List.length_append, List.length_set, List.length_cons, List.length_nil]; omega)) only [go_sem, ↓reduceIte, Nat.reduceEqDiff, reduceCtorEq]; rfl) ?_
        have tr : ∀ a b c d e f g h i j k m n o p q r s t u v w x y : AV, let l := lc_chk_ok a b c d e f g h i j k m n o p q r s t; trim ((10,y)::(11,x)::(44,w)::(43,v)::(42,u)::l) l = [(0,a),(1,b),(2,c),(3,d),(4,e),(8,f),(9,g),(10,y),(11,x),(15,j),(34,k),(37,m),(38,n),(39,o),(40,p),(41,q),(45,r),(67,s),(73,t)] := by intros; rfl
        refine R_nil (tr ..) ?_; clear tr
        refine then_n ?_
        refine at_block rfl ?_
        refine at_seq rfl ?_
        refine rd rfl rfl ?_
        refine Qq ?_
        refine Qq ?_
        refine Qq ?_
        refine Qq ?_
        refine Qq ?_
        refine Qp_split (fun h8 => ?_) (fun h8 => ?_)
        ·
         try simp only [decide_eq_true_eq, decide_eq_false_iff_not, Bool.not_eq_true', Bool.not_eq_false', beq_iff_eq, beq_eq_false_iff_ne, ne_eq] at h8
         refine Qn ?_
         refine Qn ?_
         refine Qn ?_
         refine Qq ?_
         refine Qq ?_
         refine Qn ?_
         refine Qn ?_
         refine Qn ?_
         refine Qq ?_
         refine Qq ?_
         refine Qn ?_
         refine Qn ?_
         refine Qn ?_
         refine Qn ?_
         refine Qn ?_
         refine Qq ?_
         refine Qq ?_
         refine Q_nil ?_
         have tr : ∀ a b c d e f g h i j k m n o p q r s t u v w x y z A B C D E F G H I J K L M N O P : AV, let l := lc_chk_ok a b c d e f g h i j k m n o p q r s t; trim ((45,P)::(66,O)::(65,N)::(64,M)::(63,L)::(62,K)::(61,J)::(60,I)::(59,H)::(58,G)::(57,F)::(56,E)::(55,D)::(54,C)::(53,B)::(52,A)::(51,z)::(50,y)::(49,x)::(48,w)::(47,v)::(46,u)::l) l = [(0,a),(1,b),(2,c),(3,d),(4,e),(8,f),(9,g),(10,h),(11,i),(15,j),(34,k),(37,m),(38,n),(39,o),(40,p),(41,q),(45,P),(67,s),(73,t)] := by intros; rfl
         refine R_nil (tr ..) ?_; clear tr
         refine then_n ?_
         refine cdt ?_
         refine at_seq rfl ?_
         refine rg rfl ?_
         refine Rq ?_
         have tr : ∀ a b c d e f g h i j k m n o p q r s t u : AV, let l := lc_chk_ok a b c d e f g h i j k m n o p q r s t; trim ((8,u)::l) l = [(0,a),(1,b),(2,c),(3,d),(4,e),(8,u),(9,g),(10,h),(11,i),(15,j),(34,k),(37,m),(38,n),(39,o),(40,p),(41,q),(45,r),(67,s),(73,t)] := by intros; rfl
         refine R_nil (tr ..) ?_; clear tr
         refine then_n ?_
         refine at_ret rfl ?_
         refine blk_r ?_
         refine blk_r ?_
         refine then_r ?_
         refine then_r ?_
         refine blk_r ?_
         refine then_r ?_
         refine fpure ?_
         refine ⟨?_, rfl⟩
         have hse : stopErr rows balls l u = 2 := by unfold stopErr; rw [if_pos (by omega)]
         rw [chkS, if_neg (by omega), if_neg (by unfold chkBad; omega), if_neg (by omega), ferr_at hz (by omega) _ (by omega), hse]
        ·
         try simp only [decide_eq_true_eq, decide_eq_false_iff_not, Bool.not_eq_true', Bool.not_eq_false', beq_iff_eq, beq_eq_false_iff_ne, ne_eq] at h8
         refine Qy ?_
         refine Qq ?_
         refine Qy ?_
         refine Qq ?_
         refine Qy ?_
         refine Qq ?_
         refine Qq ?_
         refine Qq ?_
         refine Qp_split (fun h9 => ?_) (fun h9 => ?_)
         ·
          try simp only [decide_eq_true_eq, decide_eq_false_iff_not, Bool.not_eq_true', Bool.not_eq_false', beq_iff_eq, beq_eq_false_iff_ne, ne_eq] at h9
          refine Qn ?_
          refine Qn ?_
          refine Qn ?_
          refine Qq ?_
          refine Qq ?_
          refine Qn ?_
          refine Qn ?_
          refine Qn ?_
          refine Qn ?_
          refine Qn ?_
          refine Qq ?_
          refine Qq ?_
          refine Q_nil ?_
          have tr : ∀ a b c d e f g h i j k m n o p q r s t u v w x y z A B C D E F G H I J K L M N O P : AV, let l := lc_chk_ok a b c d e f g h i j k m n o p q r s t; trim ((45,P)::(66,O)::(65,N)::(64,M)::(63,L)::(62,K)::(61,J)::(60,I)::(59,H)::(58,G)::(57,F)::(56,E)::(55,D)::(54,C)::(53,B)::(52,A)::(51,z)::(50,y)::(49,x)::(48,w)::(47,v)::(46,u)::l) l = [(0,a),(1,b),(2,c),(3,d),(4,e),(8,f),(9,g),(10,h),(11,i),(15,j),(34,k),(37,m),(38,n),(39,o),(40,p),(41,q),(45,P),(67,s),(73,t)] := by intros; rfl
          refine R_nil (tr ..) ?_; clear tr
          refine then_n ?_
          refine cdt ?_
          refine at_seq rfl ?_
          refine rg rfl ?_
          refine Rq ?_
          have tr : ∀ a b c d e f g h i j k m n o p q r s t u : AV, let l := lc_chk_ok a b c d e f g h i j k m n o p q r s t; trim ((8,u)::l) l = [(0,a),(1,b),(2,c),(3,d),(4,e),(8,u),(9,g),(10,h),(11,i),(15,j),(34,k),(37,m),(38,n),(39,o),(40,p),(41,q),(45,r),(67,s),(73,t)] := by intros; rfl
          refine R_nil (tr ..) ?_; clear tr
          refine then_n ?_
          refine at_ret rfl ?_
          refine blk_r ?_
          refine blk_r ?_
          refine then_r ?_
          refine then_r ?_
          refine blk_r ?_
          refine then_r ?_
          refine fpure ?_
          refine ⟨?_, rfl⟩
          have hse : stopErr rows balls l u = 2 := by unfold stopErr; rw [if_pos (by omega)]
          rw [chkS, if_neg (by omega), if_neg (by unfold chkBad; omega), if_neg (by omega), ferr_at hz (by omega) _ (by omega), hse]
         ·
          try simp only [decide_eq_true_eq, decide_eq_false_iff_not, Bool.not_eq_true', Bool.not_eq_false', beq_iff_eq, beq_eq_false_iff_ne, ne_eq] at h9
          refine Qy ?_
          refine Qq ?_
          refine Qy ?_
          refine Qq ?_
          refine Qy ?_
          refine Qq ?_
          refine Qq ?_
          refine Qq ?_
          refine Qp_split (fun h10 => ?_) (fun h10 => ?_)
          ·
           try simp only [decide_eq_true_eq, decide_eq_false_iff_not, Bool.not_eq_true', Bool.not_eq_false', beq_iff_eq, beq_eq_false_iff_ne, ne_eq] at h10
           refine Qn ?_
           refine Qn ?_
           refine Qn ?_
           refine Qn ?_
           refine Qn ?_
           refine Qq ?_
           refine Qq ?_
           refine Q_nil ?_
           have tr : ∀ a b c d e f g h i j k m n o p q r s t u v w x y z A B C D E F G H I J K L M N O P : AV, let l := lc_chk_ok a b c d e f g h i j k m n o p q r s t; trim ((45,P)::(66,O)::(65,N)::(64,M)::(63,L)::(62,K)::(61,J)::(60,I)::(59,H)::(58,G)::(57,F)::(56,E)::(55,D)::(54,C)::(53,B)::(52,A)::(51,z)::(50,y)::(49,x)::(48,w)::(47,v)::(46,u)::l) l = [(0,a),(1,b),(2,c),(3,d),(4,e),(8,f),(9,g),(10,h),(11,i),(15,j),(34,k),(37,m),(38,n),(39,o),(40,p),(41,q),(45,P),(67,s),(73,t)] := by intros; rfl
           refine R_nil (tr ..) ?_; clear tr
           refine then_n ?_
           refine cdt ?_
           refine at_seq rfl ?_
           refine rg rfl ?_
           refine Rq ?_
           have tr : ∀ a b c d e f g h i j k m n o p q r s t u : AV, let l := lc_chk_ok a b c d e f g h i j k m n o p q r s t; trim ((8,u)::l) l = [(0,a),(1,b),(2,c),(3,d),(4,e),(8,u),(9,g),(10,h),(11,i),(15,j),(34,k),(37,m),(38,n),(39,o),(40,p),(41,q),(45,r),(67,s),(73,t)] := by intros; rfl
           refine R_nil (tr ..) ?_; clear tr
           refine then_n ?_
           refine at_ret rfl ?_
           refine blk_r ?_
           refine blk_r ?_
           refine then_r ?_
           refine then_r ?_
           refine blk_r ?_
           refine then_r ?_
           refine fpure ?_
           refine ⟨?_, rfl⟩
           have hse : stopErr rows balls l u = 2 := by unfold stopErr; rw [if_pos (by omega)]
           rw [chkS, if_neg (by omega), if_neg (by unfold chkBad; omega), if_neg (by omega), ferr_at hz (by omega) _ (by omega), hse]
          ·
           try simp only [decide_eq_true_eq, decide_eq_false_iff_not, Bool.not_eq_true', Bool.not_eq_false', beq_iff_eq, beq_eq_false_iff_ne, ne_eq] at h10
           refine Qy ?_
           refine Qq ?_
           refine Qy ?_
           refine Qq ?_
           refine Qy ?_
           refine Qq ?_
           refine Qy ?_
           refine Qcall ?_
           have s := check_shaped (by assumption : checkS rows = 0)
           have g2 := s.two
           refine ACall_eq (wickets_ok _ _ rows g2) ⟨rfl, ?_⟩
           refine Qy ?_
           refine Qq ?_
           refine Qq ?_
           refine Qq ?_
           refine Q_nil ?_
           have tr : ∀ a b c d e f g h i j k m n o p q r s t u v w x y z A B C D E F G H I J K L M N O P : AV, let l := lc_chk_ok a b c d e f g h i j k m n o p q r s t; trim ((45,P)::(66,O)::(65,N)::(64,M)::(63,L)::(62,K)::(61,J)::(60,I)::(59,H)::(58,G)::(57,F)::(56,E)::(55,D)::(54,C)::(53,B)::(52,A)::(51,z)::(50,y)::(49,x)::(48,w)::(47,v)::(46,u)::l) l = [(0,a),(1,b),(2,c),(3,d),(4,e),(8,f),(9,g),(10,h),(11,i),(15,j),(34,k),(37,m),(38,n),(39,o),(40,p),(41,q),(45,P),(67,s),(73,t)] := by intros; rfl
           refine R_nil (tr ..) ?_; clear tr
           refine then_n ?_
           refine cdd (fun h11 => ?_) (fun h11 => ?_)
           ·
            try simp only [decide_eq_true_eq, decide_eq_false_iff_not, Bool.not_eq_true', Bool.not_eq_false', beq_iff_eq, beq_eq_false_iff_ne, ne_eq] at h11
            refine at_seq rfl ?_
            refine rg rfl ?_
            refine Rq ?_
            have tr : ∀ a b c d e f g h i j k m n o p q r s t u : AV, let l := lc_chk_ok a b c d e f g h i j k m n o p q r s t; trim ((8,u)::l) l = [(0,a),(1,b),(2,c),(3,d),(4,e),(8,u),(9,g),(10,h),(11,i),(15,j),(34,k),(37,m),(38,n),(39,o),(40,p),(41,q),(45,r),(67,s),(73,t)] := by intros; rfl
            refine R_nil (tr ..) ?_; clear tr
            refine then_n ?_
            refine at_ret rfl ?_
            refine blk_r ?_
            refine blk_r ?_
            refine then_r ?_
            refine then_r ?_
            refine blk_r ?_
            refine then_r ?_
            refine fpure ?_
            refine ⟨?_, rfl⟩
            have hse : stopErr rows balls l u = 2 := by unfold stopErr; rw [if_pos (by omega)]
            rw [chkS, if_neg (by omega), if_neg (by unfold chkBad; omega), if_neg (by omega), ferr_at hz (by omega) _ (by omega), hse]
           ·
            try simp only [decide_eq_true_eq, decide_eq_false_iff_not, Bool.not_eq_true', Bool.not_eq_false', beq_iff_eq, beq_eq_false_iff_ne, ne_eq] at h11
            refine at_seq rfl ?_
            refine rg rfl ?_
            refine Rq ?_
            refine Rq ?_
            refine Rq ?_
            refine Rq ?_
            refine Rq ?_
            refine Rq ?_
            have tr : ∀ a b c d e f g h i j k m n o p q r s t u v w x y z : AV, let l := lc_chk_ok a b c d e f g h i j k m n o p q r s t; trim ((67,z)::(72,y)::(71,x)::(70,w)::(69,v)::(68,u)::l) l = [(0,a),(1,b),(2,c),(3,d),(4,e),(8,f),(9,g),(10,h),(11,i),(15,j),(34,k),(37,m),(38,n),(39,o),(40,p),(41,q),(45,r),(67,z),(73,t)] := by intros; rfl
            refine R_nil (tr ..) ?_; clear tr
            refine then_n ?_
            refine cdd (fun h12 => ?_) (fun h12 => ?_)
            ·
             try simp only [decide_eq_true_eq, decide_eq_false_iff_not, Bool.not_eq_true', Bool.not_eq_false', beq_iff_eq, beq_eq_false_iff_ne, ne_eq] at h12
             refine at_seq rfl ?_
             refine rg rfl ?_
             refine Rq ?_
             have tr : ∀ a b c d e f g h i j k m n o p q r s t u : AV, let l := lc_chk_ok a b c d e f g h i j k m n o p q r s t; trim ((8,u)::l) l = [(0,a),(1,b),(2,c),(3,d),(4,e),(8,u),(9,g),(10,h),(11,i),(15,j),(34,k),(37,m),(38,n),(39,o),(40,p),(41,q),(45,r),(67,s),(73,t)] := by intros; rfl
             refine R_nil (tr ..) ?_; clear tr
             refine then_n ?_
             refine at_ret rfl ?_
             refine blk_r ?_
             refine blk_r ?_
             refine then_r ?_
             refine then_r ?_
             refine blk_r ?_
             refine then_r ?_
             refine fpure ?_
             refine ⟨?_, rfl⟩
             have hse : stopErr rows balls l u = 1 := by unfold stopErr; rw [if_neg (by omega), if_pos (by omega)]
             rw [chkS, if_neg (by omega), if_neg (by unfold chkBad; omega), if_neg (by omega), ferr_at hz (by omega) _ (by omega), hse]
            ·
             try simp only [decide_eq_true_eq, decide_eq_false_iff_not, Bool.not_eq_true', Bool.not_eq_false', beq_iff_eq, beq_eq_false_iff_ne, ne_eq] at h12
             refine at_seq rfl ?_
             refine rd rfl rfl ?_
             refine Qq ?_
             refine Qq ?_
             refine Qq ?_
             refine Qp_split (fun h13 => ?_) (fun h13 => ?_)
             ·
              try simp only [decide_eq_true_eq, decide_eq_false_iff_not, Bool.not_eq_true', Bool.not_eq_false', beq_iff_eq, beq_eq_false_iff_ne, ne_eq] at h13
              refine Qy ?_
              refine Qq ?_
              refine Qy ?_
              refine Qq ?_
              refine Qy ?_
              refine Qq ?_
              refine Qy ?_
              refine Qq ?_
              refine Qy ?_
              refine Qq ?_
              refine Qy ?_
              refine Qq ?_
              refine Qy ?_
              refine Qq ?_
              refine Qy ?_
              refine Qq ?_
              refine Qy ?_
              refine Qq ?_
              refine Qy ?_
              refine Qq ?_
              refine Qp_split (fun h14 => ?_) (fun h14 => ?_)
              ·
               try simp only [decide_eq_true_eq, decide_eq_false_iff_not, Bool.not_eq_true', Bool.not_eq_false', beq_iff_eq, beq_eq_false_iff_ne, ne_eq] at h14
               refine Qn ?_
               refine Qn ?_
               refine Qn ?_
               refine Qn ?_
               refine Qn ?_
               refine Qn ?_
               refine Qn ?_
               refine Qn ?_
               refine Qn ?_
               refine Qy ?_
               refine Qq ?_
               refine Qq ?_
               refine Qq ?_
               refine Q_nil ?_
               have tr : ∀ a b c d e f g h i j k m n o p q r s t u v w x y z A B C D E F G H I J K L M N O P Q R S : AV, let l := lc_chk_ok a b c d e f g h i j k m n o p q r s t; trim ((73,S)::(97,R)::(96,Q)::(95,P)::(94,O)::(93,N)::(92,M)::(91,L)::(90,K)::(89,J)::(88,I)::(87,H)::(86,G)::(85,F)::(84,E)::(83,D)::(82,C)::(81,B)::(80,A)::(79,z)::(78,y)::(77,x)::(76,w)::(75,v)::(74,u)::l) l = [(0,a),(1,b),(2,c),(3,d),(4,e),(8,f),(9,g),(10,h),(11,i),(15,j),(34,k),(37,m),(38,n),(39,o),(40,p),(41,q),(45,r),(67,s),(73,S)] := by intros; rfl
               refine R_nil (tr ..) ?_; clear tr
               refine then_n ?_
               refine cdt ?_
               refine at_seq rfl ?_
               refine rg rfl ?_
               refine Rq ?_
               have tr : ∀ a b c d e f g h i j k m n o p q r s t u : AV, let l := lc_chk_ok a b c d e f g h i j k m n o p q r s t; trim ((8,u)::l) l = [(0,a),(1,b),(2,c),(3,d),(4,e),(8,u),(9,g),(10,h),(11,i),(15,j),(34,k),(37,m),(38,n),(39,o),(40,p),(41,q),(45,r),(67,s),(73,t)] := by intros; rfl
               refine R_nil (tr ..) ?_; clear tr
               refine then_n ?_
               refine at_ret rfl ?_
               refine blk_r ?_
               refine blk_r ?_
               refine then_r ?_
               refine then_r ?_
               refine blk_r ?_
               refine then_r ?_
               refine fpure ?_
               refine ⟨?_, rfl⟩
               have hse : stopErr rows balls l u = 8 := by unfold stopErr; rw [if_neg (by omega), if_neg (by omega), if_pos (by omega)]
               rw [chkS, if_neg (by omega), if_neg (by unfold chkBad; omega), if_neg (by omega), ferr_at hz (by omega) _ (by omega), hse]
              ·
               try simp only [decide_eq_true_eq, decide_eq_false_iff_not, Bool.not_eq_true', Bool.not_eq_false', beq_iff_eq, beq_eq_false_iff_ne, ne_eq] at h14
               refine Qy ?_
               refine Qq ?_
               refine Qy ?_
               refine Qq ?_
               refine Qy ?_
               refine Qq ?_
               refine Qy ?_
               refine Qq ?_
               refine Qy ?_
               refine Qq ?_
               refine Qy ?_
               refine Qq ?_
               refine Qy ?_
               refine Qq ?_
               refine Qy ?_
               refine Qq ?_
               refine Qy ?_
               refine Qq ?_
               refine Qy ?_
               refine Qq ?_
               refine Qq ?_
               refine Qq ?_
               refine Q_nil ?_
               have tr : ∀ a b c d e f g h i j k m n o p q r s t u v w x y z A B C D E F G H I J K L M N O P Q R S : AV, let l := lc_chk_ok a b c d e f g h i j k m n o p q r s t; trim ((73,S)::(97,R)::(96,Q)::(95,P)::(94,O)::(93,N)::(92,M)::(91,L)::(90,K)::(89,J)::(88,I)::(87,H)::(86,G)::(85,F)::(84,E)::(83,D)::(82,C)::(81,B)::(80,A)::(79,z)::(78,y)::(77,x)::(76,w)::(75,v)::(74,u)::l) l = [(0,a),(1,b),(2,c),(3,d),(4,e),(8,f),(9,g),(10,h),(11,i),(15,j),(34,k),(37,m),(38,n),(39,o),(40,p),(41,q),(45,r),(67,s),(73,S)] := by intros; rfl
               refine R_nil (tr ..) ?_; clear tr
               refine then_n ?_
               refine cdd (fun h15 => ?_) (fun h15 => ?_)
               ·
                try simp only [decide_eq_true_eq, decide_eq_false_iff_not, Bool.not_eq_true', Bool.not_eq_false', beq_iff_eq, beq_eq_false_iff_ne, ne_eq] at h15
                refine at_seq rfl ?_
                refine rg rfl ?_
                refine Rq ?_
                have tr : ∀ a b c d e f g h i j k m n o p q r s t u : AV, let l := lc_chk_ok a b c d e f g h i j k m n o p q r s t; trim ((8,u)::l) l = [(0,a),(1,b),(2,c),(3,d),(4,e),(8,u),(9,g),(10,h),(11,i),(15,j),(34,k),(37,m),(38,n),(39,o),(40,p),(41,q),(45,r),(67,s),(73,t)] := by intros; rfl
                refine R_nil (tr ..) ?_; clear tr
                refine then_n ?_
                refine at_ret rfl ?_
                refine blk_r ?_
                refine blk_r ?_
                refine then_r ?_
                refine then_r ?_
                refine blk_r ?_
                refine then_r ?_
                refine fpure ?_
                refine ⟨?_, rfl⟩
                have hse : stopErr rows balls l u = 8 := by unfold stopErr; rw [if_neg (by omega), if_neg (by omega), if_pos (by omega)]
                rw [chkS, if_neg (by omega), if_neg (by unfold chkBad; omega), if_neg (by omega), ferr_at hz (by omega) _ (by omega), hse]
               ·
                try simp only [decide_eq_true_eq, decide_eq_false_iff_not, Bool.not_eq_true', Bool.not_eq_false', beq_iff_eq, beq_eq_false_iff_ne, ne_eq] at h15
                refine at_skip rfl ?_
                refine blk_n ?_
                refine blk_n ?_
                refine then_n ?_
                refine rg rfl ?_
                refine Rq ?_
                refine Rq ?_
                have tr : ∀ a b c d e f g h i j k m n o p q r s t u v : AV, let l := lc_chk_ok a b c d e f g h i j k m n o p q r s t; trim ((40,v)::(98,u)::l) l = [(0,a),(1,b),(2,c),(3,d),(4,e),(8,f),(9,g),(10,h),(11,i),(15,j),(34,k),(37,m),(38,n),(39,o),(40,v),(41,q),(45,r),(67,s),(73,t)] := by intros; rfl
                refine R_nil (tr ..) ?_; clear tr
                refine then_n ?_
                have hok : stopErr rows balls l u = 0 := by unfold stopErr; rw [if_neg (by omega), if_neg (by omega), if_neg (by omega)]
                exact ⟨_, _, ⟨u + 1, X ++ [some (stC (gt l u))], _, _, _, _, _, _, _, rfl, rfl, by simp; rfl, by omega, by exact ferr_ok hz hok⟩, by rfl, by omega⟩
             ·
              try simp only [decide_eq_true_eq, decide_eq_false_iff_not, Bool.not_eq_true', Bool.not_eq_false', beq_iff_eq, beq_eq_false_iff_ne, ne_eq] at h13
              refine Qn ?_
              refine Qn ?_
              refine Qn ?_
              refine Qn ?_
              refine Qn ?_
              refine Qn ?_
              refine Qn ?_
              refine Qn ?_
              refine Qn ?_
              refine Qn ?_
              refine Qu ?_
              refine Qu ?_
              refine Qu ?_
              refine Qu ?_
              refine Qu ?_
              refine Qu ?_
              refine Qu ?_
              refine Qu ?_
              refine Qu ?_
              refine Qn ?_
              refine Qq ?_
              refine Qq ?_
              refine Q_nil ?_
              have tr : ∀ a b c d e f g h i j k m n o p q r s t u v w x y z A B C D E F G H I J K L M N O P Q R S : AV, let l := lc_chk_ok a b c d e f g h i j k m n o p q r s t; trim ((73,S)::(97,R)::(96,Q)::(95,P)::(94,O)::(93,N)::(92,M)::(91,L)::(90,K)::(89,J)::(88,I)::(87,H)::(86,G)::(85,F)::(84,E)::(83,D)::(82,C)::(81,B)::(80,A)::(79,z)::(78,y)::(77,x)::(76,w)::(75,v)::(74,u)::l) l = [(0,a),(1,b),(2,c),(3,d),(4,e),(8,f),(9,g),(10,h),(11,i),(15,j),(34,k),(37,m),(38,n),(39,o),(40,p),(41,q),(45,r),(67,s),(73,S)] := by intros; rfl
              refine R_nil (tr ..) ?_; clear tr
              refine then_n ?_
              refine cdf ?_
              refine at_skip rfl ?_
              refine blk_n ?_
              refine blk_n ?_
              refine then_n ?_
              refine rg rfl ?_
              refine Rq ?_
              refine Rq ?_
              have tr : ∀ a b c d e f g h i j k m n o p q r s t u v : AV, let l := lc_chk_ok a b c d e f g h i j k m n o p q r s t; trim ((40,v)::(98,u)::l) l = [(0,a),(1,b),(2,c),(3,d),(4,e),(8,f),(9,g),(10,h),(11,i),(15,j),(34,k),(37,m),(38,n),(39,o),(40,v),(41,q),(45,r),(67,s),(73,t)] := by intros; rfl
              refine R_nil (tr ..) ?_; clear tr
              refine then_n ?_
              have hok : stopErr rows balls l u = 0 := by unfold stopErr; rw [if_neg (by omega), if_neg (by omega), if_neg (by omega)]
              exact ⟨_, _, ⟨u + 1, X ++ [some (stC (gt l u))], _, _, _, _, _, _, _, rfl, rfl, by simp; rfl, by omega, by exact ferr_ok hz hok⟩, by rfl, by omega⟩
       ·
        try simp only [decide_eq_true_eq, decide_eq_false_iff_not, Bool.not_eq_true', Bool.not_eq_false', beq_iff_eq, beq_eq_false_iff_ne, ne_eq] at h7
        refine at_exit rfl ?_
        refine then_x ?_
        refine then_x ?_
        refine blk_x ?_
        refine then_n ?_
        refine at_seq rfl ?_
        refine rg rfl ?_
        refine Rq ?_
        have tr : ∀ a b c d e f g h i j k m n o p q r s t u : AV, let l := lc_chk_ok a b c d e f g h i j k m n o p q r s t; trim ((8,u)::l) l = [(0,a),(1,b),(2,c),(3,d),(4,e),(8,u),(9,g),(10,h),(11,i),(15,j),(34,k),(37,m),(38,n),(39,o),(40,p),(41,q),(45,r),(67,s),(73,t)] := by intros; rfl
        refine R_nil (tr ..) ?_; clear tr
        refine then_n ?_
        refine at_ret rfl ?_
        refine fpure ?_
        refine ⟨?_, rfl⟩
        rw [chkS, if_neg (by omega), if_neg (by unfold chkBad; omega), if_neg (by omega), show ferr (stopErr rows balls l) l.length = 0 by rw [show l.length = u by omega]; exact hz]

end Go.Proofs.Ytaoondlakhocnaa
