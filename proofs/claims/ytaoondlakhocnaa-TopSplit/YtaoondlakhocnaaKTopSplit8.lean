/-
  Texts of TopSplit, part 9 of 15. Walks of chapters 37, 39 and 40. The steps are written by program (walk.py).
-/
import Derived.Test.YtaoondlakhocnaaKTopSplit7
import Derived.Test.YtaoondlakhocnaaKTopSplit4
section
set_option linter.unusedSimpArgs false
set_option linter.unusedVariables false
set_option maxHeartbeats 40000000
set_option maxRecDepth 4000
namespace Go.Proofs.Ytaoondlakhocnaa
open Go Go.Am

structure Stp where
  b : Int
  a : Int
  w : Int
deriving DecidableEq
instance : Inhabited Stp := ⟨⟨0, 0, 0⟩⟩
abbrev stC (s : Stp) : List AV := [AV.i s.b, AV.i s.a, AV.i s.w]
def flatS (l : List Stp) : List AV := (l.map stC).flatten
abbrev stopsAV (l : List Stp) : AV := .sl l.length (flatS l)
theorem flat_get : ∀ (l : List Stp) (u k : Nat), u < l.length → k < 3 → (flatS l)[u * 3 + k]? = (stC (gt l u))[k]?
  | [], u, k, h, _ => by simp at h
  | s :: l, 0, k, _, hk => by
    unfold flatS
    rw [List.map_cons, List.flatten_cons, Nat.zero_mul, Nat.zero_add, List.getElem?_append_left (by simpa using hk)]
    rfl
  | s :: l, u + 1, k, h, hk => by
    have ih := flat_get l u k (by simpa using h) hk
    unfold flatS at ih ⊢
    rw [List.map_cons, List.flatten_cons, List.getElem?_append_right (by simp; omega)]
    rw [show (u + 1) * 3 + k - (stC s).length = u * 3 + k by simp; omega, ih]
    rfl
theorem flat_len (l : List Stp) : (flatS l).length = l.length * 3 := by
  induction l with
  | nil => rfl
  | cons s l ih => unfold flatS at ih ⊢; rw [List.map_cons, List.flatten_cons, List.length_append, ih]; simp; omega
theorem flat0 (l : List Stp) (u : Nat) (h : u < l.length) : (flatS l)[u * 3]? = some (AV.i (gt l u).b) := flat_get l u 0 h (by omega)
theorem flat1 (l : List Stp) (u : Nat) (h : u < l.length) : (flatS l)[u * 3 + 1]? = some (AV.i (gt l u).a) := flat_get l u 1 h (by omega)
theorem flat2 (l : List Stp) (u : Nat) (h : u < l.length) : (flatS l)[u * 3 + 2]? = some (AV.i (gt l u).w) := flat_get l u 2 h (by omega)
theorem ld_stop (l : List Stp) (u : Nat) (h : u < l.length) : partL { size := 3, bytes := 24, agg := true, k := TyK.struct [(0, 2), (1, 2), (2, 3)], zero := some [.int .i64 0, .int .i64 0, .int .i64 0] } (flatS l) (u * 3) = some (.agg (stC (gt l u))) := by
  rw [pl56 _ _ (by rw [flat_len]; omega)]
  congr 2
  apply List.ext_getElem?
  intro j
  rw [List.getElem?_take, List.getElem?_drop]
  by_cases hj : j < 3
  · rw [if_pos hj, flat_get l u j h hj]
  · rw [if_neg hj, List.getElem?_eq_none (by simp; omega)]
attribute [go_sem] flat0 flat1 flat2 ld_stop

/-- The first error of some that come in order. -/
def ferr (f : Nat → Int) : Nat → Int
  | 0 => 0
  | n + 1 => if ferr f n ≠ 0 then ferr f n else f n
theorem ferr_at {f : Nat → Int} {u : Nat} (h : ferr f u = 0) (hf : f u ≠ 0) : ∀ n, u < n → ferr f n = f u
  | 0, hn => by omega
  | n + 1, hn => by
    unfold ferr
    by_cases hu : u = n
    · subst hu; rw [if_neg (by omega)]
    · rw [ferr_at h hf n (by omega), if_pos hf]
theorem ferr_ok {f : Nat → Int} {u : Nat} (h : ferr f u = 0) (hf : f u = 0) : ferr f (u + 1) = 0 := by
  unfold ferr
  rw [if_neg (by omega), hf]
theorem ferr_all {f : Nat → Int} : ∀ {n : Nat}, ferr f n = 0 → ∀ i, i < n → f i = 0
  | 0, _, i, hi => by omega
  | n + 1, h, i, hi => by
    unfold ferr at h
    by_cases h0 : ferr f n ≠ 0
    · rw [if_pos h0] at h; omega
    · rw [if_neg h0] at h
      by_cases hn : i = n
      · subst hn; exact h
      · exact ferr_all (Decidable.not_not.mp h0) i (by omega)
def stopErr (rows : Tb) (balls : Int) (l : List Stp) (i : Nat) : Int :=
  if balls < (gt l i).b ∨ (gt l i).a < 0 ∨ (gt l i).w < 0 ∨ (gt rows 0).length < (gt l i).w then 2 else
  if (gt l i).b < (gt l i).a then 1 else
  if 0 < i ∧ ((gt l (i - 1)).a < (gt l i).b ∨ (gt l i).w < (gt l (i - 1)).w) then 8 else 0
def chkBad (rows : Tb) (per balls : Int) : Prop := per < 1 ∨ 8 < per ∨ balls < 1 ∨ ((rows.length : Int) - 1) * per < balls
instance (rows : Tb) (per balls : Int) : Decidable (chkBad rows per balls) := by unfold chkBad; infer_instance
noncomputable def chkS (rows : Tb) (per balls : Int) (l : List Stp) : Int :=
  if checkS rows ≠ 0 then checkS rows else if chkBad rows per balls then 2 else if 20 < l.length then 9 else ferr (stopErr rows balls l) l.length

abbrev lc_chk_ok (a b c d e f g h i j k m n o p q r s t : AV) : Env := [(0,a),(1,b),(2,c),(3,d),(4,e),(8,f),(9,g),(10,h),(11,i),(15,j),(34,k),(37,m),(38,n),(39,o),(40,p),(41,q),(45,r),(67,s),(73,t)]
theorem chk_ok (lim : Nat) (H : Heap) (rows : Tb) (per balls : Int) (l : List Stp) :
    ACall sig lim 38 [.agg [rowsAV rows], AV.i per, AV.i balls, stopsAV l] H fun r H' => r = AV.i (chkS rows per balls l) ∧ H' = H := by
 refine ACall_pure (fa := fa38) rfl rfl rfl rfl ?_
 have tr : ∀ a0 a1 a2 a3 : AV, env0 fa38.keep [a0, a1, a2, a3] = [(0,a0),(1,a1),(2,a2),(3,a3),(4,.any),(8,.any),(9,.any),(10,.any),(11,.any),(15,.any),(34,.any),(37,.any),(38,.any),(39,.any),(40,.any),(41,.any),(45,.any),(67,.any),(73,.any)] := fun a0 a1 a2 a3 => rfl
 refine W_to (tr _ _ _ _) ?_; clear tr
 refine at_seq rfl ?_
 refine rg rfl ?_
 refine R_box rfl (by simp (disch := first | omega | (simp only [List.length_map, List.length_append, List.length_set, List.length_cons, List.length_nil]; omega)) only [go_sem, ↓reduceIte, Nat.reduceEqDiff, reduceCtorEq] <;> rfl) rfl rfl ?_
 refine Rq ?_
 have tr : ∀ a b c d e f g h i j k m n o p q r s t u v : AV, let l := lc_chk_ok a b c d e f g h i j k m n o p q r s t; trim ((8,v)::(4,u)::l) l = [(0,a),(1,b),(2,c),(3,d),(4,u),(8,v),(9,g),(10,h),(11,i),(15,j),(34,k),(37,m),(38,n),(39,o),(40,p),(41,q),(45,r),(67,s),(73,t)] := by intros; rfl
 refine R_nil (tr ..) ?_; clear tr
 refine then_n ?_
 refine at_seq rfl ?_
 refine at_seq rfl ?_
 refine rg rfl ?_
 refine Rq ?_
 refine Rcall ?_
 refine ACall_eq (check_ok _ _ _) ?_
 refine Rq ?_
 have tr : ∀ a b c d e f g h i j k m n o p q r s t u v w : AV, let l := lc_chk_ok a b c d e f g h i j k m n o p q r s t; trim ((9,w)::(13,v)::(12,u)::l) l = [(0,a),(1,b),(2,c),(3,d),(4,e),(8,f),(9,w),(10,h),(11,i),(15,j),(34,k),(37,m),(38,n),(39,o),(40,p),(41,q),(45,r),(67,s),(73,t)] := by intros; rfl
 refine R_nil (tr ..) ?_; clear tr
 refine then_n ?_
 refine at_seq rfl ?_
 refine rg rfl ?_
 refine Rq ?_
 refine Rq ?_
 have tr : ∀ a b c d e f g h i j k m n o p q r s t u v : AV, let l := lc_chk_ok a b c d e f g h i j k m n o p q r s t; trim ((15,v)::(14,u)::l) l = [(0,a),(1,b),(2,c),(3,d),(4,e),(8,f),(9,g),(10,h),(11,i),(15,v),(34,k),(37,m),(38,n),(39,o),(40,p),(41,q),(45,r),(67,s),(73,t)] := by intros; rfl
 refine R_nil (tr ..) ?_; clear tr
 refine then_n ?_
 refine cdd (fun h1 => ?_) (fun h1 => ?_)
 ·
  try simp only [decide_eq_true_eq, decide_eq_false_iff_not, Bool.not_eq_true', Bool.not_eq_false', beq_iff_eq, beq_eq_false_iff_ne, ne_eq] at h1
  refine at_seq rfl ?_
  refine rg rfl ?_
  refine Rq ?_
  refine Rq ?_
  have tr : ∀ a b c d e f g h i j k m n o p q r s t u v : AV, let l := lc_chk_ok a b c d e f g h i j k m n o p q r s t; trim ((8,v)::(16,u)::l) l = [(0,a),(1,b),(2,c),(3,d),(4,e),(8,v),(9,g),(10,h),(11,i),(15,j),(34,k),(37,m),(38,n),(39,o),(40,p),(41,q),(45,r),(67,s),(73,t)] := by intros; rfl
  refine R_nil (tr ..) ?_; clear tr
  refine then_n ?_
  refine at_ret rfl ?_
  refine then_r ?_
  refine fpure ?_
  refine ⟨?_, rfl⟩
  rw [chkS, if_pos (by assumption)]
 ·
  try simp only [decide_eq_true_eq, decide_eq_false_iff_not, Bool.not_eq_true', Bool.not_eq_false', beq_iff_eq, beq_eq_false_iff_ne, ne_eq] at h1
  refine at_skip rfl ?_
  refine then_n ?_
  refine at_seq rfl ?_
  refine at_seq rfl ?_
  refine rg rfl ?_
  refine Rq ?_
  refine Rq ?_
  refine Rq ?_
  refine Rp_split (fun h2 => ?_) (fun h2 => ?_)
  ·
   try simp only [decide_eq_true_eq, decide_eq_false_iff_not, Bool.not_eq_true', Bool.not_eq_false', beq_iff_eq, beq_eq_false_iff_ne, ne_eq] at h2
   refine Rn ?_
   refine Rn ?_
   refine Rq ?_
   refine Rq ?_
   refine Rn ?_
   refine Rn ?_
   refine Rq ?_
   refine Rq ?_
   refine Rn ?_
   refine Rn ?_
   refine Rn ?_
   refine Rn ?_
   refine Rn ?_
   refine Rn ?_
   refine Rq ?_
   have tr : ∀ a b c d e f g h i j k m n o p q r s t u v w x y z A B C D E F G H I J K L : AV, let l := lc_chk_ok a b c d e f g h i j k m n o p q r s t; trim ((34,L)::(33,K)::(32,J)::(31,I)::(30,H)::(29,G)::(28,F)::(27,E)::(26,D)::(25,C)::(24,B)::(23,A)::(22,z)::(21,y)::(20,x)::(19,w)::(18,v)::(17,u)::l) l = [(0,a),(1,b),(2,c),(3,d),(4,e),(8,f),(9,g),(10,h),(11,i),(15,j),(34,L),(37,m),(38,n),(39,o),(40,p),(41,q),(45,r),(67,s),(73,t)] := by intros; rfl
   refine R_nil (tr ..) ?_; clear tr
   refine then_n ?_
   refine cdt ?_
   refine at_seq rfl ?_
   refine rg rfl ?_
   refine Rq ?_
   have tr : ∀ a b c d e f g h i j k m n o p q r s t u : AV, let l := lc_chk_ok a b c d e f g h i j k m n o p q r s t; trim ((8,u)::l) l = [(0,a),(1,b),(2,c),(3,d),(4,e),(8,u),(9,g),(10,h),(11,i),(15,j),(34,k),(37,m),(38,n),(39,o),(40,p),(41,q),(45,r),(67,s),(73,t)] := by intros; rfl
   refine R_nil (tr ..) ?_; clear tr
   refine then_n ?_
   refine at_ret rfl ?_
   refine then_r ?_
   refine fpure ?_
   refine ⟨?_, rfl⟩
   rw [chkS, if_neg (by omega), if_pos (by unfold chkBad; omega)]
  ·
   try simp only [decide_eq_true_eq, decide_eq_false_iff_not, Bool.not_eq_true', Bool.not_eq_false', beq_iff_eq, beq_eq_false_iff_ne, ne_eq] at h2
   refine Ry ?_
   refine Rq ?_
   refine Ry ?_
   refine Rq ?_
   refine Rq ?_
   refine Rq ?_
   refine Rp_split (fun h3 => ?_) (fun h3 => ?_)
   ·
    try simp only [decide_eq_true_eq, decide_eq_false_iff_not, Bool.not_eq_true', Bool.not_eq_false', beq_iff_eq, beq_eq_false_iff_ne, ne_eq] at h3
    refine Rn ?_
    refine Rn ?_
    refine Rq ?_
    refine Rq ?_
    refine Rn ?_
    refine Rn ?_
    refine Rn ?_
    refine Rn ?_
    refine Rn ?_
    refine Rn ?_
    refine Rq ?_
    have tr : ∀ a b c d e f g h i j k m n o p q r s t u v w x y z A B C D E F G H I J K L : AV, let l := lc_chk_ok a b c d e f g h i j k m n o p q r s t; trim ((34,L)::(33,K)::(32,J)::(31,I)::(30,H)::(29,G)::(28,F)::(27,E)::(26,D)::(25,C)::(24,B)::(23,A)::(22,z)::(21,y)::(20,x)::(19,w)::(18,v)::(17,u)::l) l = [(0,a),(1,b),(2,c),(3,d),(4,e),(8,f),(9,g),(10,h),(11,i),(15,j),(34,L),(37,m),(38,n),(39,o),(40,p),(41,q),(45,r),(67,s),(73,t)] := by intros; rfl
    refine R_nil (tr ..) ?_; clear tr
    refine then_n ?_
    refine cdt ?_
    refine at_seq rfl ?_
    refine rg rfl ?_
    refine Rq ?_
    have tr : ∀ a b c d e f g h i j k m n o p q r s t u : AV, let l := lc_chk_ok a b c d e f g h i j k m n o p q r s t; trim ((8,u)::l) l = [(0,a),(1,b),(2,c),(3,d),(4,e),(8,u),(9,g),(10,h),(11,i),(15,j),(34,k),(37,m),(38,n),(39,o),(40,p),(41,q),(45,r),(67,s),(73,t)] := by intros; rfl
    refine R_nil (tr ..) ?_; clear tr
    refine then_n ?_
    refine at_ret rfl ?_
    refine then_r ?_
    refine fpure ?_
    refine ⟨?_, rfl⟩
    rw [chkS, if_neg (by omega), if_pos (by unfold chkBad; omega)]
   ·
    try simp only [decide_eq_true_eq, decide_eq_false_iff_not, Bool.not_eq_true', Bool.not_eq_false', beq_iff_eq, beq_eq_false_iff_ne, ne_eq] at h3
    refine Ry ?_
    refine Rq ?_
    refine Ry ?_
    refine Rq ?_
    refine Rq ?_
    refine Rq ?_
    refine Rp_split (fun h4 => ?_) (fun h4 => ?_)
    ·
     try simp only [decide_eq_true_eq, decide_eq_false_iff_not, Bool.not_eq_true', Bool.not_eq_false', beq_iff_eq, beq_eq_false_iff_ne, ne_eq] at h4
     refine Rn ?_
     refine Rn ?_
     refine Rn ?_
     refine Rn ?_
     refine Rn ?_
     refine Rn ?_
     refine Rq ?_
     have tr : ∀ a b c d e f g h i j k m n o p q r s t u v w x y z A B C D E F G H I J K L : AV, let l := lc_chk_ok a b c d e f g h i j k m n o p q r s t; trim ((34,L)::(33,K)::(32,J)::(31,I)::(30,H)::(29,G)::(28,F)::(27,E)::(26,D)::(25,C)::(24,B)::(23,A)::(22,z)::(21,y)::(20,x)::(19,w)::(18,v)::(17,u)::l) l = [(0,a),(1,b),(2,c),(3,d),(4,e),(8,f),(9,g),(10,h),(11,i),(15,j),(34,L),(37,m),(38,n),(39,o),(40,p),(41,q),(45,r),(67,s),(73,t)] := by intros; rfl
     refine R_nil (tr ..) ?_; clear tr
     refine then_n ?_
     refine cdt ?_
     refine at_seq rfl ?_
     refine rg rfl ?_
     refine Rq ?_
     have tr : ∀ a b c d e f g h i j k m n o p q r s t u : AV, let l := lc_chk_ok a b c d e f g h i j k m n o p q r s t; trim ((8,u)::l) l = [(0,a),(1,b),(2,c),(3,d),(4,e),(8,u),(9,g),(10,h),(11,i),(15,j),(34,k),(37,m),(38,n),(39,o),(40,p),(41,q),(45,r),(67,s),(73,t)] := by intros; rfl
     refine R_nil (tr ..) ?_; clear tr
     refine then_n ?_
     refine at_ret rfl ?_
     refine then_r ?_
     refine fpure ?_
     refine ⟨?_, rfl⟩
     rw [chkS, if_neg (by omega), if_pos (by unfold chkBad; omega)]
    ·
     try simp only [decide_eq_true_eq, decide_eq_false_iff_not, Bool.not_eq_true', Bool.not_eq_false', beq_iff_eq, beq_eq_false_iff_ne, ne_eq] at h4
     refine Ry ?_
     refine Rq ?_
     refine Ry ?_
     refine Rq ?_
     refine Ry ?_
     refine Rcall ?_
     have s := check_shaped (by assumption : checkS rows = 0)
     have g2 := s.two
     have g91 := s.most
     refine ACall_eq (overs_ok _ _ rows g91 g2) ?_
     have hpm := mul_box (a := (rows.length : Int) - 1) (b := per) (A := 90) (B := 8) (by omega) (by omega) (by omega) (by omega)
     refine Ry ?_
     refine Rq ?_
     refine Ry ?_
     refine Rq ?_
     refine Ry ?_
     refine Rq ?_
     refine Rq ?_
     have tr : ∀ a b c d e f g h i j k m n o p q r s t u v w x y z A B C D E F G H I J K L : AV, let l := lc_chk_ok a b c d e f g h i j k m n o p q r s t; trim ((34,L)::(33,K)::(32,J)::(31,I)::(30,H)::(29,G)::(28,F)::(27,E)::(26,D)::(25,C)::(24,B)::(23,A)::(22,z)::(21,y)::(20,x)::(19,w)::(18,v)::(17,u)::l) l = [(0,a),(1,b),(2,c),(3,d),(4,e),(8,f),(9,g),(10,h),(11,i),(15,j),(34,L),(37,m),(38,n),(39,o),(40,p),(41,q),(45,r),(67,s),(73,t)] := by intros; rfl
     refine R_nil (tr ..) ?_; clear tr
     refine then_n ?_
     refine cdd (fun h5 => ?_) (fun h5 => ?_)
     ·
      try simp only [decide_eq_true_eq, decide_eq_false_iff_not, Bool.not_eq_true', Bool.not_eq_false', beq_iff_eq, beq_eq_false_iff_ne, ne_eq] at h5
      refine at_seq rfl ?_
      refine rg rfl ?_
      refine Rq ?_
      have tr : ∀ a b c d e f g h i j k m n o p q r s t u : AV, let l := lc_chk_ok a b c d e f g h i j k m n o p q r s t; trim ((8,u)::l) l = [(0,a),(1,b),(2,c),(3,d),(4,e),(8,u),(9,g),(10,h),(11,i),(15,j),(34,k),(37,m),(38,n),(39,o),(40,p),(41,q),(45,r),(67,s),(73,t)] := by intros; rfl
      refine R_nil (tr ..) ?_; clear tr
      refine then_n ?_
      refine at_ret rfl ?_
      refine then_r ?_
      refine fpure ?_
      refine ⟨?_, rfl⟩
      rw [chkS, if_neg (by omega), if_pos (by unfold chkBad; omega)]
     ·
      try simp only [decide_eq_true_eq, decide_eq_false_iff_not, Bool.not_eq_true', Bool.not_eq_false', beq_iff_eq, beq_eq_false_iff_ne, ne_eq] at h5
      refine at_skip rfl ?_
      refine then_n ?_
      refine at_seq rfl ?_
      refine at_seq rfl ?_
      refine rg rfl ?_
      refine Rq ?_
      refine Rq ?_
      refine Rq ?_
      have tr : ∀ a b c d e f g h i j k m n o p q r s t u v w : AV, let l := lc_chk_ok a b c d e f g h i j k m n o p q r s t; trim ((37,w)::(36,v)::(35,u)::l) l = [(0,a),(1,b),(2,c),(3,d),(4,e),(8,f),(9,g),(10,h),(11,i),(15,j),(34,k),(37,w),(38,n),(39,o),(40,p),(41,q),(45,r),(67,s),(73,t)] := by intros; rfl
      refine R_nil (tr ..) ?_; clear tr
      refine then_n ?_
      refine cdd (fun h6 => ?_) (fun h6 => ?_)
      ·
       try simp only [decide_eq_true_eq, decide_eq_false_iff_not, Bool.not_eq_true', Bool.not_eq_false', beq_iff_eq, beq_eq_false_iff_ne, ne_eq] at h6
       refine at_seq rfl ?_
       refine rg rfl ?_
       refine Rq ?_
       have tr : ∀ a b c d e f g h i j k m n o p q r s t u : AV, let l := lc_chk_ok a b c d e f g h i j k m n o p q r s t; trim ((8,u)::l) l = [(0,a),(1,b),(2,c),(3,d),(4,e),(8,u),(9,g),(10,h),(11,i),(15,j),(34,k),(37,m),(38,n),(39,o),(40,p),(41,q),(45,r),(67,s),(73,t)] := by intros; rfl
       refine R_nil (tr ..) ?_; clear tr
       refine then_n ?_
       refine at_ret rfl ?_
       refine then_r ?_
       refine fpure ?_
       refine ⟨?_, rfl⟩
       rw [chkS, if_neg (by omega), if_neg (by unfold chkBad; omega), if_pos (by omega)]
      ·
       try simp only [decide_eq_true_eq, decide_eq_false_iff_not, Bool.not_eq_true', Bool.not_eq_false', beq_iff_eq, beq_eq_false_iff_ne, ne_eq] at h6
       refine at_skip rfl ?_
       refine then_n ?_
       refine at_seq rfl ?_
       refine at_seq rfl ?_
       refine rg rfl ?_
       refine Rq ?_
       refine Rq ?_
       refine Rq ?_
       have tr : ∀ a b c d e f g h i j k m n o p q r s t u v w : AV, let l := lc_chk_ok a b c d e f g h i j k m n o p q r s t; trim ((40,w)::(39,v)::(38,u)::l) l = [(0,a),(1,b),(2,c),(3,d),(4,e),(8,f),(9,g),(10,h),(11,i),(15,j),(34,k),(37,m),(38,u),(39,v),(40,w),(41,q),(45,r),(67,s),(73,t)] := by intros; rfl
       refine R_nil (tr ..) ?_; clear tr
       refine then_n ?_
       refine at_block rfl ?_
       refine loop_n rfl (fun mm kv H' => ∃ u : Nat, ∃ X : Heap, ∃ x8 x10 x11 x41 x45 x67 x73 : AV, (kv = [(8, x8), (10, x10), (11, x11), (40, AV.i u), (41, x41), (45, x45), (67, x67), (73, x73)]) ∧ (mm = l.length - u) ∧ (H' = H ++ [some [rowsAV rows]] ++ X) ∧ (u ≤ l.length) ∧ (ferr (stopErr rows balls l) u = 0)) ⟨0, [], _, _, _, _, _, _, _, rfl, rfl, by simp, by omega, by rfl⟩ (by rfl) ?_
       rintro mm kv H1 ⟨u, X, x8, x10, x11, x41, x45, x67, x73, rfl, rfl, hX, hu, hz⟩
       have tr : ∀ a b c d e f g h i j k m n o p q r s t u v w x y z A B : AV, upd [(0,a),(1,b),(2,c),(3,d),(4,e),(8,f),(9,g),(10,h),(11,i),(15,j),(34,k),(37,m),(38,n),(39,o),(40,p),(41,q),(45,r),(67,s),(73,t)] [(8,u),(10,v),(11,w),(40,x),(41,y),(45,z),(67,A),(73,B)] = [(0,a),(1,b),(2,c),(3,d),(4,e),(8,u),(9,g),(10,v),(11,w),(15,j),(34,k),(37,m),(38,n),(39,o),(40,x),(41,y),(45,z),(67,A),(73,B)] := by intros; rfl
       refine W_to (tr ..) ?_; clear tr
       subst hX
       refine at_seq rfl ?_
       refine rg rfl ?_
       refine Rq ?_
       have tr : ∀ a b c d e f g h i j k m n o p q r s t u : AV, let l := lc_chk_ok a b c d e f g h i j k m n o p q r s t; trim ((41,u)::l) l = [(0,a),(1,b),(2,c),(3,d),(4,e),(8,f),(9,g),(10,h),(11,i),(15,j),(34,k),(37,m),(38,n),(39,o),(40,p),(41,u),(45,r),(67,s),(73,t)] := by intros; rfl
       refine R_nil (tr ..) ?_; clear tr
       refine then_n ?_
       refine at_seq rfl ?_
       refine cdd (fun h7 => ?_) (fun h7 => ?_)
       ·
        try simp only [decide_eq_true_eq, decide_eq_false_iff_not, Bool.not_eq_true', Bool.not_eq_false', beq_iff_eq, beq_eq_false_iff_ne, ne_eq] at h7
        refine at_skip rfl ?_
        refine then_n ?_
        refine at_seq rfl ?_
        refine at_block rfl ?_
        refine at_seq rfl ?_
        refine rg rfl ?_
        refine Rq ?_
        refine Rq ?_
        refine Rq ?_
        refine R_alloc (by simp (disch := first | omega | (simp only [List.length_map, List.length_append, List.length_set, List.length_cons, List.length_nil]; omega)) only [go_sem, ↓reduceIte, Nat.reduceEqDiff, reduceCtorEq] <;> rfl) rfl (by simp only [List.map_cons, List.map_nil]; rfl) ?_
        refine Rq ?_
        refine R_store ty56 (by simp (disch := first | omega | (simp only [List.length_map, List.length_append, List.length_set, List.length_cons, List.length_nil]; omega)) only [go_sem, ↓reduceIte, Nat.reduceEqDiff, reduceCtorEq] <;> rfl) (by simp (disch := first | omega | (simp only [List.length_map, List.length_append, List.length_set, List.length_cons, List.length_nil]; omega)) only [go_sem, ↓reduceIte, Nat.reduceEqDiff, reduceCtorEq] <;> rfl) (by simp (disch := first | omega | (simp only [List.length_map, List.length_append, List.length_set, List.length_cons, List.length_nil]; omega)) only [go_sem, ↓reduceIte, Nat.reduceEqDiff, reduceCtorEq] <;> rfl) (by simp) (by rfl) (by simp (disch := first | omega | (simp only [List.length_map, List.length_append, List.length_set, List.length_cons, List.length_nil]; omega)) only [go_sem, ↓reduceIte, Nat.reduceEqDiff, reduceCtorEq] <;> rfl) ?_
        have tr : ∀ a b c d e f g h i j k m n o p q r s t u v w x y : AV, let l := lc_chk_ok a b c d e f g h i j k m n o p q r s t; trim ((10,y)::(11,x)::(44,w)::(43,v)::(42,u)::l) l = [(0,a),(1,b),(2,c),(3,d),(4,e),(8,f),(9,g),(10,y),(11,x),(15,j),(34,k),(37,m),(38,n),(39,o),(40,p),(41,q),(45,r),(67,s),(73,t)] := by intros; rfl
        refine R_nil (tr ..) ?_; clear tr
        refine then_n ?_
        refine at_block rfl ?_
        refine at_seq rfl ?_
        refine rd rfl rfl ?_
        refine Qq ?_
        refine Qq ?_
        refine Qq ?_
        refine Qq ?_
        refine Qq ?_
        refine Qp_split (fun h8 => ?_) (fun h8 => ?_)
        ·
         try simp only [decide_eq_true_eq, decide_eq_false_iff_not, Bool.not_eq_true', Bool.not_eq_false', beq_iff_eq, beq_eq_false_iff_ne, ne_eq] at h8
         refine Qn ?_
         refine Qn ?_
         refine Qn ?_
         refine Qq ?_
         refine Qq ?_
         refine Qn ?_
         refine Qn ?_
         refine Qn ?_
         refine Qq ?_
         refine Qq ?_
         refine Qn ?_
         refine Qn ?_
         refine Qn ?_
         refine Qn ?_
         refine Qn ?_
         refine Qq ?_
         refine Qq ?_
         refine Q_nil ?_
         have tr : ∀ a b c d e f g h i j k m n o p q r s t u v w x y z A B C D E F G H I J K L M N O P : AV, let l := lc_chk_ok a b c d e f g h i j k m n o p q r s t; trim ((45,P)::(66,O)::(65,N)::(64,M)::(63,L)::(62,K)::(61,J)::(60,I)::(59,H)::(58,G)::(57,F)::(56,E)::(55,D)::(54,C)::(53,B)::(52,A)::(51,z)::(50,y)::(49,x)::(48,w)::(47,v)::(46,u)::l) l = [(0,a),(1,b),(2,c),(3,d),(4,e),(8,f),(9,g),(10,h),(11,i),(15,j),(34,k),(37,m),(38,n),(39,o),(40,p),(41,q),(45,P),(67,s),(73,t)] := by intros; rfl
         refine R_nil (tr ..) ?_; clear tr
         refine then_n ?_
         refine cdt ?_
         refine at_seq rfl ?_
         refine rg rfl ?_
         refine Rq ?_
         have tr : ∀ a b c d e f g h i j k m n o p q r s t u : AV, let l := lc_chk_ok a b c d e f g h i j k m n o p q r s t; trim ((8,u)::l) l = [(0,a),(1,b),(2,c),(3,d),(4,e),(8,u),(9,g),(10,h),(11,i),(15,j),(34,k),(37,m),(38,n),(39,o),(40,p),(41,q),(45,r),(67,s),(73,t)] := by intros; rfl
         refine R_nil (tr ..) ?_; clear tr
         refine then_n ?_
         refine at_ret rfl ?_
         refine blk_r ?_
         refine blk_r ?_
         refine then_r ?_
         refine then_r ?_
         refine blk_r ?_
         refine then_r ?_
         refine fpure ?_
         refine ⟨?_, rfl⟩
         have hse : stopErr rows balls l u = 2 := by unfold stopErr; rw [if_pos (by omega)]
         rw [chkS, if_neg (by omega), if_neg (by unfold chkBad; omega), if_neg (by omega), ferr_at hz (by omega) _ (by omega), hse]
        ·
         try simp only [decide_eq_true_eq, decide_eq_false_iff_not, Bool.not_eq_true', Bool.not_eq_false', beq_iff_eq, beq_eq_false_iff_ne, ne_eq] at h8
         refine Qy ?_
         refine Qq ?_
         refine Qy ?_
         refine Qq ?_
         refine Qy ?_
         refine Qq ?_
         refine Qq ?_
         refine Qq ?_
         refine Qp_split (fun h9 => ?_) (fun h9 => ?_)
         ·
          try simp only [decide_eq_true_eq, decide_eq_false_iff_not, Bool.not_eq_true', Bool.not_eq_false', beq_iff_eq, beq_eq_false_iff_ne, ne_eq] at h9
          refine Qn ?_
          refine Qn ?_
          refine Qn ?_
          refine Qq ?_
          refine Qq ?_
          refine Qn ?_
          refine Qn ?_
          refine Qn ?_
          refine Qn ?_
          refine Qn ?_
          refine Qq ?_
          refine Qq ?_
          refine Q_nil ?_
          have tr : ∀ a b c d e f g h i j k m n o p q r s t u v w x y z A B C D E F G H I J K L M N O P : AV, let l := lc_chk_ok a b c d e f g h i j k m n o p q r s t; trim ((45,P)::(66,O)::(65,N)::(64,M)::(63,L)::(62,K)::(61,J)::(60,I)::(59,H)::(58,G)::(57,F)::(56,E)::(55,D)::(54,C)::(53,B)::(52,A)::(51,z)::(50,y)::(49,x)::(48,w)::(47,v)::(46,u)::l) l = [(0,a),(1,b),(2,c),(3,d),(4,e),(8,f),(9,g),(10,h),(11,i),(15,j),(34,k),(37,m),(38,n),(39,o),(40,p),(41,q),(45,P),(67,s),(73,t)] := by intros; rfl
          refine R_nil (tr ..) ?_; clear tr
          refine then_n ?_
          refine cdt ?_
          refine at_seq rfl ?_
          refine rg rfl ?_
          refine Rq ?_
          have tr : ∀ a b c d e f g h i j k m n o p q r s t u : AV, let l := lc_chk_ok a b c d e f g h i j k m n o p q r s t; trim ((8,u)::l) l = [(0,a),(1,b),(2,c),(3,d),(4,e),(8,u),(9,g),(10,h),(11,i),(15,j),(34,k),(37,m),(38,n),(39,o),(40,p),(41,q),(45,r),(67,s),(73,t)] := by intros; rfl
          refine R_nil (tr ..) ?_; clear tr
          refine then_n ?_
          refine at_ret rfl ?_
          refine blk_r ?_
          refine blk_r ?_
          refine then_r ?_
          refine then_r ?_
          refine blk_r ?_
          refine then_r ?_
          refine fpure ?_
          refine ⟨?_, rfl⟩
          have hse : stopErr rows balls l u = 2 := by unfold stopErr; rw [if_pos (by omega)]
          rw [chkS, if_neg (by omega), if_neg (by unfold chkBad; omega), if_neg (by omega), ferr_at hz (by omega) _ (by omega), hse]
         ·
          try simp only [decide_eq_true_eq, decide_eq_false_iff_not, Bool.not_eq_true', Bool.not_eq_false', beq_iff_eq, beq_eq_false_iff_ne, ne_eq] at h9
          refine Qy ?_
          refine Qq ?_
          refine Qy ?_
          refine Qq ?_
          refine Qy ?_
          refine Qq ?_
          refine Qq ?_
          refine Qq ?_
          refine Qp_split (fun h10 => ?_) (fun h10 => ?_)
          ·
           try simp only [decide_eq_true_eq, decide_eq_false_iff_not, Bool.not_eq_true', Bool.not_eq_false', beq_iff_eq, beq_eq_false_iff_ne, ne_eq] at h10
           refine Qn ?_
           refine Qn ?_
           refine Qn ?_
           refine Qn ?_
           refine Qn ?_
           refine Qq ?_
           refine Qq ?_
           refine Q_nil ?_
           have tr : ∀ a b c d e f g h i j k m n o p q r s t u v w x y z A B C D E F G H I J K L M N O P : AV, let l := lc_chk_ok a b c d e f g h i j k m n o p q r s t; trim ((45,P)::(66,O)::(65,N)::(64,M)::(63,L)::(62,K)::(61,J)::(60,I)::(59,H)::(58,G)::(57,F)::(56,E)::(55,D)::(54,C)::(53,B)::(52,A)::(51,z)::(50,y)::(49,x)::(48,w)::(47,v)::(46,u)::l) l = [(0,a),(1,b),(2,c),(3,d),(4,e),(8,f),(9,g),(10,h),(11,i),(15,j),(34,k),(37,m),(38,n),(39,o),(40,p),(41,q),(45,P),(67,s),(73,t)] := by intros; rfl
           refine R_nil (tr ..) ?_; clear tr
           refine then_n ?_
           refine cdt ?_
           refine at_seq rfl ?_
           refine rg rfl ?_
           refine Rq ?_
           have tr : ∀ a b c d e f g h i j k m n o p q r s t u : AV, let l := lc_chk_ok a b c d e f g h i j k m n o p q r s t; trim ((8,u)::l) l = [(0,a),(1,b),(2,c),(3,d),(4,e),(8,u),(9,g),(10,h),(11,i),(15,j),(34,k),(37,m),(38,n),(39,o),(40,p),(41,q),(45,r),(67,s),(73,t)] := by intros; rfl
           refine R_nil (tr ..) ?_; clear tr
           refine then_n ?_
           refine at_ret rfl ?_
           refine blk_r ?_
           refine blk_r ?_
           refine then_r ?_
           refine then_r ?_
           refine blk_r ?_
           refine then_r ?_
           refine fpure ?_
           refine ⟨?_, rfl⟩
           have hse : stopErr rows balls l u = 2 := by unfold stopErr; rw [if_pos (by omega)]
           rw [chkS, if_neg (by omega), if_neg (by unfold chkBad; omega), if_neg (by omega), ferr_at hz (by omega) _ (by omega), hse]
          ·
           try simp only [decide_eq_true_eq, decide_eq_false_iff_not, Bool.not_eq_true', Bool.not_eq_false', beq_iff_eq, beq_eq_false_iff_ne, ne_eq] at h10
           refine Qy ?_
           refine Qq ?_
           refine Qy ?_
           refine Qq ?_
           refine Qy ?_
           refine Qq ?_
           refine Qy ?_
           refine Qcall ?_
           have s := check_shaped (by assumption : checkS rows = 0)
           have g2 := s.two
           refine ACall_eq (wickets_ok _ _ rows g2) ⟨rfl, ?_⟩
           refine Qy ?_
           refine Qq ?_
           refine Qq ?_
           refine Qq ?_
           refine Q_nil ?_
           have tr : ∀ a b c d e f g h i j k m n o p q r s t u v w x y z A B C D E F G H I J K L M N O P : AV, let l := lc_chk_ok a b c d e f g h i j k m n o p q r s t; trim ((45,P)::(66,O)::(65,N)::(64,M)::(63,L)::(62,K)::(61,J)::(60,I)::(59,H)::(58,G)::(57,F)::(56,E)::(55,D)::(54,C)::(53,B)::(52,A)::(51,z)::(50,y)::(49,x)::(48,w)::(47,v)::(46,u)::l) l = [(0,a),(1,b),(2,c),(3,d),(4,e),(8,f),(9,g),(10,h),(11,i),(15,j),(34,k),(37,m),(38,n),(39,o),(40,p),(41,q),(45,P),(67,s),(73,t)] := by intros; rfl
           refine R_nil (tr ..) ?_; clear tr
           refine then_n ?_
           refine cdd (fun h11 => ?_) (fun h11 => ?_)
           ·
            try simp only [decide_eq_true_eq, decide_eq_false_iff_not, Bool.not_eq_true', Bool.not_eq_false', beq_iff_eq, beq_eq_false_iff_ne, ne_eq] at h11
            refine at_seq rfl ?_
            refine rg rfl ?_
            refine Rq ?_
            have tr : ∀ a b c d e f g h i j k m n o p q r s t u : AV, let l := lc_chk_ok a b c d e f g h i j k m n o p q r s t; trim ((8,u)::l) l = [(0,a),(1,b),(2,c),(3,d),(4,e),(8,u),(9,g),(10,h),(11,i),(15,j),(34,k),(37,m),(38,n),(39,o),(40,p),(41,q),(45,r),(67,s),(73,t)] := by intros; rfl
            refine R_nil (tr ..) ?_; clear tr
            refine then_n ?_
            refine at_ret rfl ?_
            refine blk_r ?_
            refine blk_r ?_
            refine then_r ?_
            refine then_r ?_
            refine blk_r ?_
            refine then_r ?_
            refine fpure ?_
            refine ⟨?_, rfl⟩
            have hse : stopErr rows balls l u = 2 := by unfold stopErr; rw [if_pos (by omega)]
            rw [chkS, if_neg (by omega), if_neg (by unfold chkBad; omega), if_neg (by omega), ferr_at hz (by omega) _ (by omega), hse]
           ·
            try simp only [decide_eq_true_eq, decide_eq_false_iff_not, Bool.not_eq_true', Bool.not_eq_false', beq_iff_eq, beq_eq_false_iff_ne, ne_eq] at h11
            refine at_seq rfl ?_
            refine rg rfl ?_
            refine Rq ?_
            refine Rq ?_
            refine Rq ?_
            refine Rq ?_
            refine Rq ?_
            refine Rq ?_
            have tr : ∀ a b c d e f g h i j k m n o p q r s t u v w x y z : AV, let l := lc_chk_ok a b c d e f g h i j k m n o p q r s t; trim ((67,z)::(72,y)::(71,x)::(70,w)::(69,v)::(68,u)::l) l = [(0,a),(1,b),(2,c),(3,d),(4,e),(8,f),(9,g),(10,h),(11,i),(15,j),(34,k),(37,m),(38,n),(39,o),(40,p),(41,q),(45,r),(67,z),(73,t)] := by intros; rfl
            refine R_nil (tr ..) ?_; clear tr
            refine then_n ?_
            refine cdd (fun h12 => ?_) (fun h12 => ?_)
            ·
             try simp only [decide_eq_true_eq, decide_eq_false_iff_not, Bool.not_eq_true', Bool.not_eq_false', beq_iff_eq, beq_eq_false_iff_ne, ne_eq] at h12
             refine at_seq rfl ?_
             refine rg rfl ?_
             refine Rq ?_
             have tr : ∀ a b c d e f g h i j k m n o p q r s t u : AV, let l := lc_chk_ok a b c d e f g h i j k m n o p q r s t; trim ((8,u)::l) l = [(0,a),(1,b),(2,c),(3,d),(4,e),(8,u),(9,g),(10,h),(11,i),(15,j),(34,k),(37,m),(38,n),(39,o),(40,p),(41,q),(45,r),(67,s),(73,t)] := by intros; rfl
             refine R_nil (tr ..) ?_; clear tr
             refine then_n ?_
             refine at_ret rfl ?_
             refine blk_r ?_
             refine blk_r ?_
             refine then_r ?_
             refine then_r ?_
             refine blk_r ?_
             refine then_r ?_
             refine fpure ?_
             refine ⟨?_, rfl⟩
             have hse : stopErr rows balls l u = 1 := by unfold stopErr; rw [if_neg (by omega), if_pos (by omega)]
             rw [chkS, if_neg (by omega), if_neg (by unfold chkBad; omega), if_neg (by omega), ferr_at hz (by omega) _ (by omega), hse]
            ·
             try simp only [decide_eq_true_eq, decide_eq_false_iff_not, Bool.not_eq_true', Bool.not_eq_false', beq_iff_eq, beq_eq_false_iff_ne, ne_eq] at h12
             refine at_seq rfl ?_
             refine rd rfl rfl ?_
             refine Qq ?_
             refine Qq ?_
             refine Qq ?_
             refine Qp_split (fun h13 => ?_) (fun h13 => ?_)
             ·
              try simp only [decide_eq_true_eq, decide_eq_false_iff_not, Bool.not_eq_true', Bool.not_eq_false', beq_iff_eq, beq_eq_false_iff_ne, ne_eq] at h13
              refine Qy ?_
              refine Qq ?_
              refine Qy ?_
              refine Qq ?_
              refine Qy ?_
              refine Qq ?_
              refine Qy ?_
              refine Qq ?_
              refine Qy ?_
              refine Qq ?_
              refine Qy ?_
              refine Qq ?_
              refine Qy ?_
              refine Qq ?_
              refine Qy ?_
              refine Qq ?_
              refine Qy ?_
              refine Qq ?_
              refine Qy ?_
              refine Qq ?_
              refine Qp_split (fun h14 => ?_) (fun h14 => ?_)
              ·
               try simp only [decide_eq_true_eq, decide_eq_false_iff_not, Bool.not_eq_true', Bool.not_eq_false', beq_iff_eq, beq_eq_false_iff_ne, ne_eq] at h14
               refine Qn ?_
               refine Qn ?_
               refine Qn ?_
               refine Qn ?_
               refine Qn ?_
               refine Qn ?_
               refine Qn ?_
               refine Qn ?_
               refine Qn ?_
               refine Qy ?_
               refine Qq ?_
               refine Qq ?_
               refine Qq ?_
               refine Q_nil ?_
               have tr : ∀ a b c d e f g h i j k m n o p q r s t u v w x y z A B C D E F G H I J K L M N O P Q R S : AV, let l := lc_chk_ok a b c d e f g h i j k m n o p q r s t; trim ((73,S)::(97,R)::(96,Q)::(95,P)::(94,O)::(93,N)::(92,M)::(91,L)::(90,K)::(89,J)::(88,I)::(87,H)::(86,G)::(85,F)::(84,E)::(83,D)::(82,C)::(81,B)::(80,A)::(79,z)::(78,y)::(77,x)::(76,w)::(75,v)::(74,u)::l) l = [(0,a),(1,b),(2,c),(3,d),(4,e),(8,f),(9,g),(10,h),(11,i),(15,j),(34,k),(37,m),(38,n),(39,o),(40,p),(41,q),(45,r),(67,s),(73,S)] := by intros; rfl
               refine R_nil (tr ..) ?_; clear tr
               refine then_n ?_
               refine cdt ?_
               refine at_seq rfl ?_
               refine rg rfl ?_
               refine Rq ?_
               have tr : ∀ a b c d e f g h i j k m n o p q r s t u : AV, let l := lc_chk_ok a b c d e f g h i j k m n o p q r s t; trim ((8,u)::l) l = [(0,a),(1,b),(2,c),(3,d),(4,e),(8,u),(9,g),(10,h),(11,i),(15,j),(34,k),(37,m),(38,n),(39,o),(40,p),(41,q),(45,r),(67,s),(73,t)] := by intros; rfl
               refine R_nil (tr ..) ?_; clear tr
               refine then_n ?_
               refine at_ret rfl ?_
               refine blk_r ?_
               refine blk_r ?_
               refine then_r ?_
               refine then_r ?_
               refine blk_r ?_
               refine then_r ?_
               refine fpure ?_
               refine ⟨?_, rfl⟩
               have hse : stopErr rows balls l u = 8 := by unfold stopErr; rw [if_neg (by omega), if_neg (by omega), if_pos (by omega)]
               rw [chkS, if_neg (by omega), if_neg (by unfold chkBad; omega), if_neg (by omega), ferr_at hz (by omega) _ (by omega), hse]
              ·
               try simp only [decide_eq_true_eq, decide_eq_false_iff_not, Bool.not_eq_true', Bool.not_eq_false', beq_iff_eq, beq_eq_false_iff_ne, ne_eq] at h14
               refine Qy ?_
               refine Qq ?_
               refine Qy ?_
               refine Qq ?_
               refine Qy ?_
               refine Qq ?_
               refine Qy ?_
               refine Qq ?_
               refine Qy ?_
               refine Qq ?_
               refine Qy ?_
               refine Qq ?_
               refine Qy ?_
               refine Qq ?_
               refine Qy ?_
               refine Qq ?_
               refine Qy ?_
               refine Qq ?_
               refine Qy ?_
               refine Qq ?_
               refine Qq ?_
               refine Qq ?_
               refine Q_nil ?_
               have tr : ∀ a b c d e f g h i j k m n o p q r s t u v w x y z A B C D E F G H I J K L M N O P Q R S : AV, let l := lc_chk_ok a b c d e f g h i j k m n o p q r s t; trim ((73,S)::(97,R)::(96,Q)::(95,P)::(94,O)::(93,N)::(92,M)::(91,L)::(90,K)::(89,J)::(88,I)::(87,H)::(86,G)::(85,F)::(84,E)::(83,D)::(82,C)::(81,B)::(80,A)::(79,z)::(78,y)::(77,x)::(76,w)::(75,v)::(74,u)::l) l = [(0,a),(1,b),(2,c),(3,d),(4,e),(8,f),(9,g),(10,h),(11,i),(15,j),(34,k),(37,m),(38,n),(39,o),(40,p),(41,q),(45,r),(67,s),(73,S)] := by intros; rfl
               refine R_nil (tr ..) ?_; clear tr
               refine then_n ?_
               refine cdd (fun h15 => ?_) (fun h15 => ?_)
               ·
                try simp only [decide_eq_true_eq, decide_eq_false_iff_not, Bool.not_eq_true', Bool.not_eq_false', beq_iff_eq, beq_eq_false_iff_ne, ne_eq] at h15
                refine at_seq rfl ?_
                refine rg rfl ?_
                refine Rq ?_
                have tr : ∀ a b c d e f g h i j k m n o p q r s t u : AV, let l := lc_chk_ok a b c d e f g h i j k m n o p q r s t; trim ((8,u)::l) l = [(0,a),(1,b),(2,c),(3,d),(4,e),(8,u),(9,g),(10,h),(11,i),(15,j),(34,k),(37,m),(38,n),(39,o),(40,p),(41,q),(45,r),(67,s),(73,t)] := by intros; rfl
                refine R_nil (tr ..) ?_; clear tr
                refine then_n ?_
                refine at_ret rfl ?_
                refine blk_r ?_
                refine blk_r ?_
                refine then_r ?_
                refine then_r ?_
                refine blk_r ?_
                refine then_r ?_
                refine fpure ?_
                refine ⟨?_, rfl⟩
                have hse : stopErr rows balls l u = 8 := by unfold stopErr; rw [if_neg (by omega), if_neg (by omega), if_pos (by omega)]
                rw [chkS, if_neg (by omega), if_neg (by unfold chkBad; omega), if_neg (by omega), ferr_at hz (by omega) _ (by omega), hse]
               ·
                try simp only [decide_eq_true_eq, decide_eq_false_iff_not, Bool.not_eq_true', Bool.not_eq_false', beq_iff_eq, beq_eq_false_iff_ne, ne_eq] at h15
                refine at_skip rfl ?_
                refine blk_n ?_
                refine blk_n ?_
                refine then_n ?_
                refine rg rfl ?_
                refine Rq ?_
                refine Rq ?_
                have tr : ∀ a b c d e f g h i j k m n o p q r s t u v : AV, let l := lc_chk_ok a b c d e f g h i j k m n o p q r s t; trim ((40,v)::(98,u)::l) l = [(0,a),(1,b),(2,c),(3,d),(4,e),(8,f),(9,g),(10,h),(11,i),(15,j),(34,k),(37,m),(38,n),(39,o),(40,v),(41,q),(45,r),(67,s),(73,t)] := by intros; rfl
                refine R_nil (tr ..) ?_; clear tr
                refine then_n ?_
                have hok : stopErr rows balls l u = 0 := by unfold stopErr; rw [if_neg (by omega), if_neg (by omega), if_neg (by omega)]
                exact ⟨_, _, ⟨u + 1, X ++ [some (stC (gt l u))], _, _, _, _, _, _, _, rfl, rfl, by simp; rfl, by omega, by exact ferr_ok hz hok⟩, by rfl, by omega⟩
             ·
              try simp only [decide_eq_true_eq, decide_eq_false_iff_not, Bool.not_eq_true', Bool.not_eq_false', beq_iff_eq, beq_eq_false_iff_ne, ne_eq] at h13
              refine Qn ?_
              refine Qn ?_
              refine Qn ?_
              refine Qn ?_
              refine Qn ?_
              refine Qn ?_
              refine Qn ?_
              refine Qn ?_
              refine Qn ?_
              refine Qn ?_
              refine Qu ?_
              refine Qu ?_
              refine Qu ?_
              refine Qu ?_
              refine Qu ?_
              refine Qu ?_
              refine Qu ?_
              refine Qu ?_
              refine Qu ?_
              refine Qn ?_
              refine Qq ?_
              refine Qq ?_
              refine Q_nil ?_
              have tr : ∀ a b c d e f g h i j k m n o p q r s t u v w x y z A B C D E F G H I J K L M N O P Q R S : AV, let l := lc_chk_ok a b c d e f g h i j k m n o p q r s t; trim ((73,S)::(97,R)::(96,Q)::(95,P)::(94,O)::(93,N)::(92,M)::(91,L)::(90,K)::(89,J)::(88,I)::(87,H)::(86,G)::(85,F)::(84,E)::(83,D)::(82,C)::(81,B)::(80,A)::(79,z)::(78,y)::(77,x)::(76,w)::(75,v)::(74,u)::l) l = [(0,a),(1,b),(2,c),(3,d),(4,e),(8,f),(9,g),(10,h),(11,i),(15,j),(34,k),(37,m),(38,n),(39,o),(40,p),(41,q),(45,r),(67,s),(73,S)] := by intros; rfl
              refine R_nil (tr ..) ?_; clear tr
              refine then_n ?_
              refine cdf ?_
              refine at_skip rfl ?_
              refine blk_n ?_
              refine blk_n ?_
              refine then_n ?_
              refine rg rfl ?_
              refine Rq ?_
              refine Rq ?_
              have tr : ∀ a b c d e f g h i j k m n o p q r s t u v : AV, let l := lc_chk_ok a b c d e f g h i j k m n o p q r s t; trim ((40,v)::(98,u)::l) l = [(0,a),(1,b),(2,c),(3,d),(4,e),(8,f),(9,g),(10,h),(11,i),(15,j),(34,k),(37,m),(38,n),(39,o),(40,v),(41,q),(45,r),(67,s),(73,t)] := by intros; rfl
              refine R_nil (tr ..) ?_; clear tr
              refine then_n ?_
              have hok : stopErr rows balls l u = 0 := by unfold stopErr; rw [if_neg (by omega), if_neg (by omega), if_neg (by omega)]
              exact ⟨_, _, ⟨u + 1, X ++ [some (stC (gt l u))], _, _, _, _, _, _, _, rfl, rfl, by simp; rfl, by omega, by exact ferr_ok hz hok⟩, by rfl, by omega⟩
       ·
        try simp only [decide_eq_true_eq, decide_eq_false_iff_not, Bool.not_eq_true', Bool.not_eq_false', beq_iff_eq, beq_eq_false_iff_ne, ne_eq] at h7
        refine at_exit rfl ?_
        refine then_x ?_
        refine then_x ?_
        refine blk_x ?_
        refine then_n ?_
        refine at_seq rfl ?_
        refine rg rfl ?_
        refine Rq ?_
        have tr : ∀ a b c d e f g h i j k m n o p q r s t u : AV, let l := lc_chk_ok a b c d e f g h i j k m n o p q r s t; trim ((8,u)::l) l = [(0,a),(1,b),(2,c),(3,d),(4,e),(8,u),(9,g),(10,h),(11,i),(15,j),(34,k),(37,m),(38,n),(39,o),(40,p),(41,q),(45,r),(67,s),(73,t)] := by intros; rfl
        refine R_nil (tr ..) ?_; clear tr
        refine then_n ?_
        refine at_ret rfl ?_
        refine fpure ?_
        refine ⟨?_, rfl⟩
        rw [chkS, if_neg (by omega), if_neg (by unfold chkBad; omega), if_neg (by omega), show ferr (stopErr rows balls l) l.length = 0 by rw [show l.length = u by omega]; exact hz]

end Go.Proofs.Ytaoondlakhocnaa
end
section
set_option linter.unusedSimpArgs false
set_option linter.unusedVariables false
set_option maxHeartbeats 40000000
set_option maxRecDepth 4000
namespace Go.Proofs.Ytaoondlakhocnaa
open Go Go.Am

noncomputable def lostS (rows : Tb) (per : Int) (s : Stp) : Int × Int :=
  if (atS rows per s.b s.w).2 ≠ 0 then (0, (atS rows per s.b s.w).2) else if (atS rows per s.a s.w).2 ≠ 0 then (0, (atS rows per s.a s.w).2) else if s.b < s.a then (0, 1) else ((atS rows per s.b s.w).1 - (atS rows per s.a s.w).1, 0)
theorem at_range {rows : Tb} {per balls w : Int} : 0 ≤ (atS rows per balls w).1 ∧ (atS rows per balls w).1 ≤ 160000 := by
  unfold atS
  split
  · exact ⟨by simp, by simp⟩
  · split
    · exact ⟨by simp, by simp⟩
    · split
      · exact ⟨by simp, by simp⟩
      · rename_i h1 h2 h3
        have s := check_shaped (Classical.not_not.mp h1)
        unfold atBad at h2
        have g2 := s.two
        obtain ⟨q0, q1, r0, r1, q2⟩ := at_place (n := (rows.length : Int) - 1) (per := per) (balls := balls) (by omega) (by omega) (by omega)
        have hl1 := s.len (balls / per).toNat (by omega)
        have k1 : 0 ≤ gt (gt rows (balls / per).toNat) w.toNat ∧ gt (gt rows (balls / per).toNat) w.toNat ≤ 10000 := s.rng _ (by omega) _ (by omega)
        have k2 := mul_box (b := per - balls % per) (B := 8) k1.1 k1.2 (by omega) (by omega)
        unfold atV cellI
        by_cases hr : 0 < balls % per
        · have q3 := q2 hr
          have hl2 := s.len (balls / per + 1).toNat (by omega)
          have k3 : 0 ≤ gt (gt rows (balls / per + 1).toNat) w.toNat ∧ gt (gt rows (balls / per + 1).toNat) w.toNat ≤ 10000 := s.rng _ (by omega) _ (by omega)
          have k4 := mul_box (b := balls % per) (B := 8) k3.1 k3.2 (by omega) (by omega)
          rw [if_pos hr]
          exact ⟨by omega, by omega⟩
        · rw [if_neg hr]
          exact ⟨by omega, by omega⟩

abbrev lc_lost_ok (a b c d e f g h i j k m n : AV) : Env := [(0,a),(1,b),(2,c),(3,d),(5,e),(6,f),(7,g),(8,h),(9,i),(10,j),(22,k),(35,m),(41,n)]
theorem lost_ok (lim : Nat) (H : Heap) (rows : Tb) (per : Int) (s : Stp) :
    ACall sig lim 40 [.agg [rowsAV rows], AV.i per, .agg (stC s)] H fun r H' => r = .tup [AV.i (lostS rows per s).1, AV.i (lostS rows per s).2] ∧ H' = H := by
 refine ACall_pure (fa := fa40) rfl rfl rfl rfl ?_
 have tr : ∀ a0 a1 a2 : AV, env0 fa40.keep [a0, a1, a2] = [(0,a0),(1,a1),(2,a2),(3,.any),(5,.any),(6,.any),(7,.any),(8,.any),(9,.any),(10,.any),(22,.any),(35,.any),(41,.any)] := fun a0 a1 a2 => rfl
 refine W_to (tr _ _ _) ?_; clear tr
 refine at_seq rfl ?_
 refine rg rfl ?_
 refine R_box rfl (by simp (disch := first | omega | (simp only [List.length_map, List.length_append, List.length_set, List.length_cons, List.length_nil]; omega)) only [go_sem, ↓reduceIte, Nat.reduceEqDiff, reduceCtorEq] <;> rfl) rfl rfl ?_
 refine R_box rfl (by simp (disch := first | omega | (simp only [List.length_map, List.length_append, List.length_set, List.length_cons, List.length_nil]; omega)) only [go_sem, ↓reduceIte, Nat.reduceEqDiff, reduceCtorEq] <;> rfl) rfl rfl ?_
 refine Rq ?_
 refine Rq ?_
 have tr : ∀ a b c d e f g h i j k m n o p q r : AV, let l := lc_lost_ok a b c d e f g h i j k m n; trim ((7,r)::(6,q)::(5,p)::(3,o)::l) l = [(0,a),(1,b),(2,c),(3,o),(5,p),(6,q),(7,r),(8,h),(9,i),(10,j),(22,k),(35,m),(41,n)] := by intros; rfl
 refine R_nil (tr ..) ?_; clear tr
 refine then_n ?_
 refine at_seq rfl ?_
 refine rg rfl ?_
 refine Rq ?_
 refine Rq ?_
 refine Rq ?_
 refine Rq ?_
 refine Rq ?_
 refine Rq ?_
 refine Rcall ?_
 refine ACall_eq (at_ok _ _ rows per _ _) ?_
 refine Rq ?_
 refine Rq ?_
 refine Rq ?_
 refine Rq ?_
 refine Rq ?_
 have tr : ∀ a b c d e f g h i j k m n o p q r s t u v w x y z : AV, let l := lc_lost_ok a b c d e f g h i j k m n; trim ((9,z)::(8,y)::(20,x)::(19,w)::(11,v)::(18,u)::(17,t)::(16,s)::(15,r)::(14,q)::(13,p)::(12,o)::l) l = [(0,a),(1,b),(2,c),(3,d),(5,e),(6,f),(7,g),(8,y),(9,z),(10,j),(22,k),(35,m),(41,n)] := by intros; rfl
 refine R_nil (tr ..) ?_; clear tr
 refine then_n ?_
 refine at_seq rfl ?_
 refine at_seq rfl ?_
 refine rg rfl ?_
 refine Rq ?_
 refine Rq ?_
 have tr : ∀ a b c d e f g h i j k m n o p : AV, let l := lc_lost_ok a b c d e f g h i j k m n; trim ((22,p)::(21,o)::l) l = [(0,a),(1,b),(2,c),(3,d),(5,e),(6,f),(7,g),(8,h),(9,i),(10,j),(22,p),(35,m),(41,n)] := by intros; rfl
 refine R_nil (tr ..) ?_; clear tr
 refine then_n ?_
 refine cdd (fun h1 => ?_) (fun h1 => ?_)
 ·
  try simp only [decide_eq_true_eq, decide_eq_false_iff_not, Bool.not_eq_true', Bool.not_eq_false', beq_iff_eq, beq_eq_false_iff_ne, ne_eq] at h1
  refine at_seq rfl ?_
  refine rg rfl ?_
  refine Rq ?_
  refine Rq ?_
  refine Rq ?_
  have tr : ∀ a b c d e f g h i j k m n o p q : AV, let l := lc_lost_ok a b c d e f g h i j k m n; trim ((7,q)::(6,p)::(23,o)::l) l = [(0,a),(1,b),(2,c),(3,d),(5,e),(6,p),(7,q),(8,h),(9,i),(10,j),(22,k),(35,m),(41,n)] := by intros; rfl
  refine R_nil (tr ..) ?_; clear tr
  refine then_n ?_
  refine at_ret rfl ?_
  refine then_r ?_
  refine fpure ?_
  refine ⟨?_, rfl⟩
  rw [lostS, if_pos (by assumption)]
 ·
  try simp only [decide_eq_true_eq, decide_eq_false_iff_not, Bool.not_eq_true', Bool.not_eq_false', beq_iff_eq, beq_eq_false_iff_ne, ne_eq] at h1
  refine at_skip rfl ?_
  refine then_n ?_
  refine at_seq rfl ?_
  refine rg rfl ?_
  refine Rq ?_
  refine Rq ?_
  refine Rq ?_
  refine Rq ?_
  refine Rq ?_
  refine Rq ?_
  refine Rcall ?_
  refine ACall_eq (at_ok _ _ rows per _ _) ?_
  refine Rq ?_
  refine Rq ?_
  refine Rq ?_
  refine Rq ?_
  refine Rq ?_
  have tr : ∀ a b c d e f g h i j k m n o p q r s t u v w x y z : AV, let l := lc_lost_ok a b c d e f g h i j k m n; trim ((9,z)::(10,y)::(33,x)::(32,w)::(24,v)::(31,u)::(30,t)::(29,s)::(28,r)::(27,q)::(26,p)::(25,o)::l) l = [(0,a),(1,b),(2,c),(3,d),(5,e),(6,f),(7,g),(8,h),(9,z),(10,y),(22,k),(35,m),(41,n)] := by intros; rfl
  refine R_nil (tr ..) ?_; clear tr
  refine then_n ?_
  refine at_seq rfl ?_
  refine at_seq rfl ?_
  refine rg rfl ?_
  refine Rq ?_
  refine Rq ?_
  have tr : ∀ a b c d e f g h i j k m n o p : AV, let l := lc_lost_ok a b c d e f g h i j k m n; trim ((35,p)::(34,o)::l) l = [(0,a),(1,b),(2,c),(3,d),(5,e),(6,f),(7,g),(8,h),(9,i),(10,j),(22,k),(35,p),(41,n)] := by intros; rfl
  refine R_nil (tr ..) ?_; clear tr
  refine then_n ?_
  refine cdd (fun h2 => ?_) (fun h2 => ?_)
  ·
   try simp only [decide_eq_true_eq, decide_eq_false_iff_not, Bool.not_eq_true', Bool.not_eq_false', beq_iff_eq, beq_eq_false_iff_ne, ne_eq] at h2
   refine at_seq rfl ?_
   refine rg rfl ?_
   refine Rq ?_
   refine Rq ?_
   refine Rq ?_
   have tr : ∀ a b c d e f g h i j k m n o p q : AV, let l := lc_lost_ok a b c d e f g h i j k m n; trim ((7,q)::(6,p)::(36,o)::l) l = [(0,a),(1,b),(2,c),(3,d),(5,e),(6,p),(7,q),(8,h),(9,i),(10,j),(22,k),(35,m),(41,n)] := by intros; rfl
   refine R_nil (tr ..) ?_; clear tr
   refine then_n ?_
   refine at_ret rfl ?_
   refine then_r ?_
   refine fpure ?_
   refine ⟨?_, rfl⟩
   rw [lostS, if_neg (by omega), if_pos (by assumption)]
  ·
   try simp only [decide_eq_true_eq, decide_eq_false_iff_not, Bool.not_eq_true', Bool.not_eq_false', beq_iff_eq, beq_eq_false_iff_ne, ne_eq] at h2
   refine at_skip rfl ?_
   refine then_n ?_
   refine at_seq rfl ?_
   refine at_seq rfl ?_
   refine rg rfl ?_
   refine Rq ?_
   refine Rq ?_
   refine Rq ?_
   refine Rq ?_
   refine Rq ?_
   have tr : ∀ a b c d e f g h i j k m n o p q r s : AV, let l := lc_lost_ok a b c d e f g h i j k m n; trim ((41,s)::(40,r)::(39,q)::(38,p)::(37,o)::l) l = [(0,a),(1,b),(2,c),(3,d),(5,e),(6,f),(7,g),(8,h),(9,i),(10,j),(22,k),(35,m),(41,s)] := by intros; rfl
   refine R_nil (tr ..) ?_; clear tr
   refine then_n ?_
   refine cdd (fun h3 => ?_) (fun h3 => ?_)
   ·
    try simp only [decide_eq_true_eq, decide_eq_false_iff_not, Bool.not_eq_true', Bool.not_eq_false', beq_iff_eq, beq_eq_false_iff_ne, ne_eq] at h3
    refine at_seq rfl ?_
    refine rg rfl ?_
    refine Rq ?_
    refine Rq ?_
    have tr : ∀ a b c d e f g h i j k m n o p : AV, let l := lc_lost_ok a b c d e f g h i j k m n; trim ((7,p)::(6,o)::l) l = [(0,a),(1,b),(2,c),(3,d),(5,e),(6,o),(7,p),(8,h),(9,i),(10,j),(22,k),(35,m),(41,n)] := by intros; rfl
    refine R_nil (tr ..) ?_; clear tr
    refine then_n ?_
    refine at_ret rfl ?_
    refine then_r ?_
    refine fpure ?_
    refine ⟨?_, rfl⟩
    rw [lostS, if_neg (by omega), if_neg (by omega), if_pos (by omega)]
   ·
    try simp only [decide_eq_true_eq, decide_eq_false_iff_not, Bool.not_eq_true', Bool.not_eq_false', beq_iff_eq, beq_eq_false_iff_ne, ne_eq] at h3
    refine at_skip rfl ?_
    refine then_n ?_
    refine at_seq rfl ?_
    refine rg rfl ?_
    have hb := at_range (rows := rows) (per := per) (balls := s.b) (w := s.w)
    have ha := at_range (rows := rows) (per := per) (balls := s.a) (w := s.w)
    refine Rq ?_
    refine Rq ?_
    refine Rq ?_
    refine Rq ?_
    refine Rq ?_
    have tr : ∀ a b c d e f g h i j k m n o p q r s : AV, let l := lc_lost_ok a b c d e f g h i j k m n; trim ((7,s)::(6,r)::(44,q)::(43,p)::(42,o)::l) l = [(0,a),(1,b),(2,c),(3,d),(5,e),(6,r),(7,s),(8,h),(9,i),(10,j),(22,k),(35,m),(41,n)] := by intros; rfl
    refine R_nil (tr ..) ?_; clear tr
    refine then_n ?_
    refine at_ret rfl ?_
    refine fpure ?_
    refine ⟨?_, rfl⟩
    rw [lostS, if_neg (by omega), if_neg (by omega), if_neg (by omega)]

abbrev lc_rlost_ok (a b c d e f g h i j k m n : AV) : Env := [(0,a),(1,b),(2,c),(3,d),(5,e),(6,f),(7,g),(8,h),(9,i),(10,j),(22,k),(35,m),(41,n)]
theorem rlost_ok (lim : Nat) (H : Heap) (rows : Tb) (per : Int) (s : Stp) :
    ACall sig lim 41 [.agg [rowsAV rows], AV.i per, .agg (stC s)] H fun r H' => r = .tup [AV.i (lostS rows per s).1, AV.i (lostS rows per s).2] ∧ H' = H := by
 refine ACall_pure (fa := fa41) rfl rfl rfl rfl ?_
 have tr : ∀ a0 a1 a2 : AV, env0 fa41.keep [a0, a1, a2] = [(0,a0),(1,a1),(2,a2),(3,.any),(5,.any),(6,.any),(7,.any),(8,.any),(9,.any),(10,.any),(22,.any),(35,.any),(41,.any)] := fun a0 a1 a2 => rfl
 refine W_to (tr _ _ _) ?_; clear tr
 refine at_seq rfl ?_
 refine rg rfl ?_
 refine R_box rfl (by simp (disch := first | omega | (simp only [List.length_map, List.length_append, List.length_set, List.length_cons, List.length_nil]; omega)) only [go_sem, ↓reduceIte, Nat.reduceEqDiff, reduceCtorEq] <;> rfl) rfl rfl ?_
 refine R_box rfl (by simp (disch := first | omega | (simp only [List.length_map, List.length_append, List.length_set, List.length_cons, List.length_nil]; omega)) only [go_sem, ↓reduceIte, Nat.reduceEqDiff, reduceCtorEq] <;> rfl) rfl rfl ?_
 refine Rq ?_
 refine Rq ?_
 have tr : ∀ a b c d e f g h i j k m n o p q r : AV, let l := lc_rlost_ok a b c d e f g h i j k m n; trim ((7,r)::(6,q)::(5,p)::(3,o)::l) l = [(0,a),(1,b),(2,c),(3,o),(5,p),(6,q),(7,r),(8,h),(9,i),(10,j),(22,k),(35,m),(41,n)] := by intros; rfl
 refine R_nil (tr ..) ?_; clear tr
 refine then_n ?_
 refine at_seq rfl ?_
 refine rg rfl ?_
 refine Rq ?_
 refine Rq ?_
 refine Rq ?_
 refine Rq ?_
 refine Rq ?_
 refine Rq ?_
 refine Rcall ?_
 refine ACall_eq (rat_ok _ _ rows per _ _) ?_
 refine Rq ?_
 refine Rq ?_
 refine Rq ?_
 refine Rq ?_
 refine Rq ?_
 have tr : ∀ a b c d e f g h i j k m n o p q r s t u v w x y z : AV, let l := lc_rlost_ok a b c d e f g h i j k m n; trim ((9,z)::(8,y)::(20,x)::(19,w)::(11,v)::(18,u)::(17,t)::(16,s)::(15,r)::(14,q)::(13,p)::(12,o)::l) l = [(0,a),(1,b),(2,c),(3,d),(5,e),(6,f),(7,g),(8,y),(9,z),(10,j),(22,k),(35,m),(41,n)] := by intros; rfl
 refine R_nil (tr ..) ?_; clear tr
 refine then_n ?_
 refine at_seq rfl ?_
 refine at_seq rfl ?_
 refine rg rfl ?_
 refine Rq ?_
 refine Rq ?_
 have tr : ∀ a b c d e f g h i j k m n o p : AV, let l := lc_rlost_ok a b c d e f g h i j k m n; trim ((22,p)::(21,o)::l) l = [(0,a),(1,b),(2,c),(3,d),(5,e),(6,f),(7,g),(8,h),(9,i),(10,j),(22,p),(35,m),(41,n)] := by intros; rfl
 refine R_nil (tr ..) ?_; clear tr
 refine then_n ?_
 refine cdd (fun h1 => ?_) (fun h1 => ?_)
 ·
  try simp only [decide_eq_true_eq, decide_eq_false_iff_not, Bool.not_eq_true', Bool.not_eq_false', beq_iff_eq, beq_eq_false_iff_ne, ne_eq] at h1
  refine at_seq rfl ?_
  refine rg rfl ?_
  refine Rq ?_
  refine Rq ?_
  refine Rq ?_
  have tr : ∀ a b c d e f g h i j k m n o p q : AV, let l := lc_rlost_ok a b c d e f g h i j k m n; trim ((7,q)::(6,p)::(23,o)::l) l = [(0,a),(1,b),(2,c),(3,d),(5,e),(6,p),(7,q),(8,h),(9,i),(10,j),(22,k),(35,m),(41,n)] := by intros; rfl
  refine R_nil (tr ..) ?_; clear tr
  refine then_n ?_
  refine at_ret rfl ?_
  refine then_r ?_
  refine fpure ?_
  refine ⟨?_, rfl⟩
  rw [lostS, if_pos (by assumption)]
 ·
  try simp only [decide_eq_true_eq, decide_eq_false_iff_not, Bool.not_eq_true', Bool.not_eq_false', beq_iff_eq, beq_eq_false_iff_ne, ne_eq] at h1
  refine at_skip rfl ?_
  refine then_n ?_
  refine at_seq rfl ?_
  refine rg rfl ?_
  refine Rq ?_
  refine Rq ?_
  refine Rq ?_
  refine Rq ?_
  refine Rq ?_
  refine Rq ?_
  refine Rcall ?_
  refine ACall_eq (rat_ok _ _ rows per _ _) ?_
  refine Rq ?_
  refine Rq ?_
  refine Rq ?_
  refine Rq ?_
  refine Rq ?_
  have tr : ∀ a b c d e f g h i j k m n o p q r s t u v w x y z : AV, let l := lc_rlost_ok a b c d e f g h i j k m n; trim ((9,z)::(10,y)::(33,x)::(32,w)::(24,v)::(31,u)::(30,t)::(29,s)::(28,r)::(27,q)::(26,p)::(25,o)::l) l = [(0,a),(1,b),(2,c),(3,d),(5,e),(6,f),(7,g),(8,h),(9,z),(10,y),(22,k),(35,m),(41,n)] := by intros; rfl
  refine R_nil (tr ..) ?_; clear tr
  refine then_n ?_
  refine at_seq rfl ?_
  refine at_seq rfl ?_
  refine rg rfl ?_
  refine Rq ?_
  refine Rq ?_
  have tr : ∀ a b c d e f g h i j k m n o p : AV, let l := lc_rlost_ok a b c d e f g h i j k m n; trim ((35,p)::(34,o)::l) l = [(0,a),(1,b),(2,c),(3,d),(5,e),(6,f),(7,g),(8,h),(9,i),(10,j),(22,k),(35,p),(41,n)] := by intros; rfl
  refine R_nil (tr ..) ?_; clear tr
  refine then_n ?_
  refine cdd (fun h2 => ?_) (fun h2 => ?_)
  ·
   try simp only [decide_eq_true_eq, decide_eq_false_iff_not, Bool.not_eq_true', Bool.not_eq_false', beq_iff_eq, beq_eq_false_iff_ne, ne_eq] at h2
   refine at_seq rfl ?_
   refine rg rfl ?_
   refine Rq ?_
   refine Rq ?_
   refine Rq ?_
   have tr : ∀ a b c d e f g h i j k m n o p q : AV, let l := lc_rlost_ok a b c d e f g h i j k m n; trim ((7,q)::(6,p)::(36,o)::l) l = [(0,a),(1,b),(2,c),(3,d),(5,e),(6,p),(7,q),(8,h),(9,i),(10,j),(22,k),(35,m),(41,n)] := by intros; rfl
   refine R_nil (tr ..) ?_; clear tr
   refine then_n ?_
   refine at_ret rfl ?_
   refine then_r ?_
   refine fpure ?_
   refine ⟨?_, rfl⟩
   rw [lostS, if_neg (by omega), if_pos (by assumption)]
  ·
   try simp only [decide_eq_true_eq, decide_eq_false_iff_not, Bool.not_eq_true', Bool.not_eq_false', beq_iff_eq, beq_eq_false_iff_ne, ne_eq] at h2
   refine at_skip rfl ?_
   refine then_n ?_
   refine at_seq rfl ?_
   refine at_seq rfl ?_
   refine rg rfl ?_
   refine Rq ?_
   refine Rq ?_
   refine Rq ?_
   refine Rq ?_
   refine Rq ?_
   have tr : ∀ a b c d e f g h i j k m n o p q r s : AV, let l := lc_rlost_ok a b c d e f g h i j k m n; trim ((41,s)::(40,r)::(39,q)::(38,p)::(37,o)::l) l = [(0,a),(1,b),(2,c),(3,d),(5,e),(6,f),(7,g),(8,h),(9,i),(10,j),(22,k),(35,m),(41,s)] := by intros; rfl
   refine R_nil (tr ..) ?_; clear tr
   refine then_n ?_
   refine cdd (fun h3 => ?_) (fun h3 => ?_)
   ·
    try simp only [decide_eq_true_eq, decide_eq_false_iff_not, Bool.not_eq_true', Bool.not_eq_false', beq_iff_eq, beq_eq_false_iff_ne, ne_eq] at h3
    refine at_seq rfl ?_
    refine rg rfl ?_
    refine Rq ?_
    refine Rq ?_
    have tr : ∀ a b c d e f g h i j k m n o p : AV, let l := lc_rlost_ok a b c d e f g h i j k m n; trim ((7,p)::(6,o)::l) l = [(0,a),(1,b),(2,c),(3,d),(5,e),(6,o),(7,p),(8,h),(9,i),(10,j),(22,k),(35,m),(41,n)] := by intros; rfl
    refine R_nil (tr ..) ?_; clear tr
    refine then_n ?_
    refine at_ret rfl ?_
    refine then_r ?_
    refine fpure ?_
    refine ⟨?_, rfl⟩
    rw [lostS, if_neg (by omega), if_neg (by omega), if_pos (by omega)]
   ·
    try simp only [decide_eq_true_eq, decide_eq_false_iff_not, Bool.not_eq_true', Bool.not_eq_false', beq_iff_eq, beq_eq_false_iff_ne, ne_eq] at h3
    refine at_skip rfl ?_
    refine then_n ?_
    refine at_seq rfl ?_
    refine rg rfl ?_
    have hb := at_range (rows := rows) (per := per) (balls := s.b) (w := s.w)
    have ha := at_range (rows := rows) (per := per) (balls := s.a) (w := s.w)
    refine Rq ?_
    refine Rq ?_
    refine Rq ?_
    refine Rq ?_
    refine Rq ?_
    have tr : ∀ a b c d e f g h i j k m n o p q r s : AV, let l := lc_rlost_ok a b c d e f g h i j k m n; trim ((7,s)::(6,r)::(44,q)::(43,p)::(42,o)::l) l = [(0,a),(1,b),(2,c),(3,d),(5,e),(6,r),(7,s),(8,h),(9,i),(10,j),(22,k),(35,m),(41,n)] := by intros; rfl
    refine R_nil (tr ..) ?_; clear tr
    refine then_n ?_
    refine at_ret rfl ?_
    refine fpure ?_
    refine ⟨?_, rfl⟩
    rw [lostS, if_neg (by omega), if_neg (by omega), if_neg (by omega)]

end Go.Proofs.Ytaoondlakhocnaa
end
section
set_option linter.unusedSimpArgs false
set_option linter.unusedVariables false
set_option maxHeartbeats 40000000
set_option maxRecDepth 4000
namespace Go.Proofs.Ytaoondlakhocnaa
open Go Go.Am

structure Chk (rows : Tb) (per balls : Int) (l : List Stp) : Prop where
  tab : checkS rows = 0
  per1 : 1 ≤ per
  per8 : per ≤ 8
  b1 : 1 ≤ balls
  bmax : balls ≤ ((rows.length : Int) - 1) * per
  most : l.length ≤ 20
  stop : ∀ i, i < l.length → (gt l i).b ≤ balls ∧ 0 ≤ (gt l i).a ∧ 0 ≤ (gt l i).w ∧ (gt l i).w ≤ (gt rows 0).length ∧ (gt l i).a ≤ (gt l i).b ∧ (0 < i → (gt l i).b ≤ (gt l (i - 1)).a ∧ (gt l (i - 1)).w ≤ (gt l i).w)
theorem chk_of {rows : Tb} {per balls : Int} {l : List Stp} (h : chkS rows per balls l = 0) : Chk rows per balls l := by
  unfold chkS at h
  split at h
  · rename_i h1; exact absurd h h1
  · split at h
    · cases h
    · split at h
      · cases h
      · rename_i h1 h2 h3
        unfold chkBad at h2
        refine ⟨Decidable.not_not.mp h1, by omega, by omega, by omega, by omega, by omega, fun i hi => ?_⟩
        have := ferr_all h i hi
        unfold stopErr at this
        split at this
        · cases this
        · split at this
          · cases this
          · split at this
            · cases this
            · exact ⟨by omega, by omega, by omega, by omega, by omega, fun h0 => ⟨by omega, by omega⟩⟩
theorem of_chk {rows : Tb} {per balls : Int} {l : List Stp} (h : Chk rows per balls l) : chkS rows per balls l = 0 := by
  have h1 := h.per1
  have h2 := h.per8
  have h3 := h.b1
  have h4 := h.bmax
  have h5 := h.most
  rw [chkS, if_neg (fun hh => hh h.tab), if_neg (by unfold chkBad; omega), if_neg (by omega)]
  have : ∀ n, n ≤ l.length → ferr (stopErr rows balls l) n = 0 := by
    intro n
    induction n with
    | zero => intro _; rfl
    | succ n ih =>
      intro hn
      refine ferr_ok (ih (by omega)) ?_
      have := h.stop n (by omega)
      unfold stopErr
      rw [if_neg (by omega), if_neg (by omega), if_neg (by omega)]
  exact this _ (Nat.le_refl _)
theorem at_err {rows : Tb} {per balls w : Int} (h : checkS rows = 0) (hn : ¬ atBad rows per balls w) : (atS rows per balls w).2 = 0 := by
  rw [atS, if_neg (fun hh => hh h), if_neg hn]
  split <;> rfl
theorem Chk.at0 {rows : Tb} {per balls : Int} {l : List Stp} (h : Chk rows per balls l) : (atS rows per balls 0).2 = 0 := by
  have h1 := h.per1
  have h2 := h.per8
  have h3 := h.b1
  have h4 := h.bmax
  exact at_err h.tab (by unfold atBad; omega)
theorem Chk.lost0 {rows : Tb} {per balls : Int} {l : List Stp} (h : Chk rows per balls l) {i : Nat} (hi : i < l.length) :
    lostS rows per (gt l i) = ((atS rows per (gt l i).b (gt l i).w).1 - (atS rows per (gt l i).a (gt l i).w).1, 0) := by
  have h1 := h.per1
  have h2 := h.per8
  have h3 := h.b1
  have h4 := h.bmax
  have h5 := h.stop i hi
  rw [lostS, if_neg (fun hh => hh (at_err h.tab (by unfold atBad; omega))), if_neg (fun hh => hh (at_err h.tab (by unfold atBad; omega))), if_neg (by omega)]
noncomputable def lsum (rows : Tb) (per : Int) (l : List Stp) : Nat → Int
  | 0 => 0
  | n + 1 => lsum rows per l n + (lostS rows per (gt l n)).1
theorem lost_range {rows : Tb} {per : Int} {s : Stp} : -160000 ≤ (lostS rows per s).1 ∧ (lostS rows per s).1 ≤ 160000 := by
  have hb := at_range (rows := rows) (per := per) (balls := s.b) (w := s.w)
  have ha := at_range (rows := rows) (per := per) (balls := s.a) (w := s.w)
  unfold lostS
  repeat' split
  · exact ⟨by simp, by simp⟩
  · exact ⟨by simp, by simp⟩
  · exact ⟨by simp, by simp⟩
  · exact ⟨by omega, by omega⟩
theorem lsum_range {rows : Tb} {per : Int} {l : List Stp} : ∀ n : Nat, -160000 * (n : Int) ≤ lsum rows per l n ∧ lsum rows per l n ≤ 160000 * (n : Int)
  | 0 => ⟨by simp [lsum], by simp [lsum]⟩
  | n + 1 => by
    have h1 := lsum_range (rows := rows) (per := per) (l := l) n
    have h2 := lost_range (rows := rows) (per := per) (s := gt l n)
    unfold lsum
    exact ⟨by omega, by omega⟩
noncomputable def leftS (rows : Tb) (per balls : Int) (l : List Stp) : Int × Int :=
  if chkS rows per balls l ≠ 0 then (0, chkS rows per balls l) else ((atS rows per balls 0).1 - lsum rows per l l.length, 0)

theorem frz_i (H : Heap) (b d : Nat) (x : Int) : frz H b (d + 1) (AV.i x) = AV.i x := rfl
theorem frz_rows (H : Heap) (b d : Nat) (rows : Tb) : frz H b (d + 3) (rowsAV rows) = rowsAV rows := by
  show AV.sl rows.length ((rows.map rowAV).map (frz H b (d + 2))) = _
  rw [List.map_map]
  congr 1
  apply List.map_congr_left
  intro r _
  show AV.sl r.length ((r.map AV.i).map (frz H b (d + 1))) = _
  rw [List.map_map]
  rfl
theorem frz_stops (H : Heap) (b d : Nat) (l : List Stp) : frz H b (d + 2) (stopsAV l) = stopsAV l := by
  show AV.sl l.length ((flatS l).map (frz H b (d + 1))) = _
  congr 1
  unfold flatS
  rw [List.map_flatten, List.map_map]
  congr 1
abbrev lc_left_fz (a b c d e f g h i j k m n o p q r s t u : AV) : Env := [(0,a),(1,b),(2,c),(3,d),(4,e),(8,f),(9,g),(10,h),(11,i),(12,j),(14,k),(15,m),(16,n),(23,o),(33,p),(35,q),(36,r),(37,s),(38,t),(49,u)]
theorem left_fz (lim : Nat) (H : Heap) (rows : Tb) (per balls : Int) (l : List Stp) (x : AV) (hx : frz H 0 8 x = stopsAV l) :
    ACall sig lim 36 [.agg [rowsAV rows], AV.i per, AV.i balls, x] H fun r H' => r = .tup [AV.i (leftS rows per balls l).1, AV.i (leftS rows per balls l).2] ∧ H' = H := by
 have hargs : [AV.agg [rowsAV rows], AV.i per, AV.i balls, x].map (frz H 0 8) = [.agg [rowsAV rows], AV.i per, AV.i balls, stopsAV l] := by
   show [AV.agg [frz H 0 7 (rowsAV rows)], AV.i per, AV.i balls, frz H 0 8 x] = _
   rw [frz_rows, hx]
 refine ACall_data (fa := fa36) rfl rfl rfl rfl hargs ?_
 have tr : ∀ a0 a1 a2 a3 : AV, env0 fa36.keep [a0, a1, a2, a3] = [(0,a0),(1,a1),(2,a2),(3,a3),(4,.any),(8,.any),(9,.any),(10,.any),(11,.any),(12,.any),(14,.any),(15,.any),(16,.any),(23,.any),(33,.any),(35,.any),(36,.any),(37,.any),(38,.any),(49,.any)] := fun a0 a1 a2 a3 => rfl
 refine W_to (tr _ _ _ _) ?_; clear tr
 refine at_seq rfl ?_
 refine rg rfl ?_
 refine R_box rfl (by simp (disch := first | omega | (simp only [List.length_map, List.length_append, List.length_set, List.length_cons, List.length_nil]; omega)) only [go_sem, ↓reduceIte, Nat.reduceEqDiff, reduceCtorEq] <;> rfl) rfl rfl ?_
 refine Rq ?_
 refine Rq ?_
 have tr : ∀ a b c d e f g h i j k m n o p q r s t u v w x : AV, let l := lc_left_fz a b c d e f g h i j k m n o p q r s t u; trim ((9,x)::(8,w)::(4,v)::l) l = [(0,a),(1,b),(2,c),(3,d),(4,v),(8,w),(9,x),(10,h),(11,i),(12,j),(14,k),(15,m),(16,n),(23,o),(33,p),(35,q),(36,r),(37,s),(38,t),(49,u)] := by intros; rfl
 refine R_nil (tr ..) ?_; clear tr
 refine then_n ?_
 refine at_seq rfl ?_
 refine at_seq rfl ?_
 refine rg rfl ?_
 refine Rq ?_
 refine Rq ?_
 refine Rq ?_
 refine Rq ?_
 refine Rcall ?_
 refine ACall_eq (chk_ok _ _ rows per balls l) ?_
 refine Rq ?_
 have tr : ∀ a b c d e f g h i j k m n o p q r s t u v w x y z A : AV, let l := lc_left_fz a b c d e f g h i j k m n o p q r s t u; trim ((10,A)::(21,z)::(20,y)::(19,x)::(18,w)::(17,v)::l) l = [(0,a),(1,b),(2,c),(3,d),(4,e),(8,f),(9,g),(10,A),(11,i),(12,j),(14,k),(15,m),(16,n),(23,o),(33,p),(35,q),(36,r),(37,s),(38,t),(49,u)] := by intros; rfl
 refine R_nil (tr ..) ?_; clear tr
 refine then_n ?_
 refine at_seq rfl ?_
 refine rg rfl ?_
 refine Rq ?_
 refine Rq ?_
 have tr : ∀ a b c d e f g h i j k m n o p q r s t u v w : AV, let l := lc_left_fz a b c d e f g h i j k m n o p q r s t u; trim ((23,w)::(22,v)::l) l = [(0,a),(1,b),(2,c),(3,d),(4,e),(8,f),(9,g),(10,h),(11,i),(12,j),(14,k),(15,m),(16,n),(23,w),(33,p),(35,q),(36,r),(37,s),(38,t),(49,u)] := by intros; rfl
 refine R_nil (tr ..) ?_; clear tr
 refine then_n ?_
 refine cdd (fun h1 => ?_) (fun h1 => ?_)
 ·
  try simp only [decide_eq_true_eq, decide_eq_false_iff_not, Bool.not_eq_true', Bool.not_eq_false', beq_iff_eq, beq_eq_false_iff_ne, ne_eq] at h1
  refine at_seq rfl ?_
  refine rg rfl ?_
  refine Rq ?_
  refine Rq ?_
  refine Rq ?_
  have tr : ∀ a b c d e f g h i j k m n o p q r s t u v w x : AV, let l := lc_left_fz a b c d e f g h i j k m n o p q r s t u; trim ((9,x)::(8,w)::(24,v)::l) l = [(0,a),(1,b),(2,c),(3,d),(4,e),(8,w),(9,x),(10,h),(11,i),(12,j),(14,k),(15,m),(16,n),(23,o),(33,p),(35,q),(36,r),(37,s),(38,t),(49,u)] := by intros; rfl
  refine R_nil (tr ..) ?_; clear tr
  refine then_n ?_
  refine at_ret rfl ?_
  refine then_r ?_
  refine fpure ?_
  refine ⟨rfl, ?_, rfl⟩
  rw [leftS, if_pos (by assumption)]
 ·
  try simp only [decide_eq_true_eq, decide_eq_false_iff_not, Bool.not_eq_true', Bool.not_eq_false', beq_iff_eq, beq_eq_false_iff_ne, ne_eq] at h1
  refine at_skip rfl ?_
  refine then_n ?_
  refine at_seq rfl ?_
  refine rg rfl ?_
  have hk : chkS rows per balls l = 0 := by assumption
  have c := chk_of hk
  have hat0 := c.at0
  have hatr := at_range (rows := rows) (per := per) (balls := balls) (w := 0)
  have hmost := c.most
  refine Rq ?_
  refine Rq ?_
  refine Rq ?_
  refine Rcall ?_
  refine ACall_eq (at_ok _ _ rows per balls 0) ?_
  refine Rq ?_
  refine Rq ?_
  refine Rq ?_
  refine Rq ?_
  refine Rq ?_
  have tr : ∀ a b c d e f g h i j k m n o p q r s t u v w x y z A B C D : AV, let l := lc_left_fz a b c d e f g h i j k m n o p q r s t u; trim ((12,D)::(11,C)::(31,B)::(30,A)::(25,z)::(29,y)::(28,x)::(27,w)::(26,v)::l) l = [(0,a),(1,b),(2,c),(3,d),(4,e),(8,f),(9,g),(10,h),(11,C),(12,D),(14,k),(15,m),(16,n),(23,o),(33,p),(35,q),(36,r),(37,s),(38,t),(49,u)] := by intros; rfl
  refine R_nil (tr ..) ?_; clear tr
  refine then_n ?_
  refine at_seq rfl ?_
  refine at_seq rfl ?_
  refine rg rfl ?_
  refine Rq ?_
  refine Rq ?_
  have tr : ∀ a b c d e f g h i j k m n o p q r s t u v w : AV, let l := lc_left_fz a b c d e f g h i j k m n o p q r s t u; trim ((33,w)::(32,v)::l) l = [(0,a),(1,b),(2,c),(3,d),(4,e),(8,f),(9,g),(10,h),(11,i),(12,j),(14,k),(15,m),(16,n),(23,o),(33,w),(35,q),(36,r),(37,s),(38,t),(49,u)] := by intros; rfl
  refine R_nil (tr ..) ?_; clear tr
  refine then_n ?_
  refine cdd (fun h2 => ?_) (fun h2 => ?_)
  ·
   try simp only [decide_eq_true_eq, decide_eq_false_iff_not, Bool.not_eq_true', Bool.not_eq_false', beq_iff_eq, beq_eq_false_iff_ne, ne_eq] at h2
   refine at_seq rfl ?_
   refine rg rfl ?_
   refine Rq ?_
   refine Rq ?_
   refine Rq ?_
   have tr : ∀ a b c d e f g h i j k m n o p q r s t u v w x : AV, let l := lc_left_fz a b c d e f g h i j k m n o p q r s t u; trim ((9,x)::(8,w)::(34,v)::l) l = [(0,a),(1,b),(2,c),(3,d),(4,e),(8,w),(9,x),(10,h),(11,i),(12,j),(14,k),(15,m),(16,n),(23,o),(33,p),(35,q),(36,r),(37,s),(38,t),(49,u)] := by intros; rfl
   refine R_nil (tr ..) ?_; clear tr
   refine then_n ?_
   refine at_ret rfl ?_
   refine then_r ?_
   exfalso; omega
  ·
   try simp only [decide_eq_true_eq, decide_eq_false_iff_not, Bool.not_eq_true', Bool.not_eq_false', beq_iff_eq, beq_eq_false_iff_ne, ne_eq] at h2
   refine at_skip rfl ?_
   refine then_n ?_
   refine at_seq rfl ?_
   refine at_seq rfl ?_
   refine rg rfl ?_
   refine Rq ?_
   refine Rq ?_
   refine Rq ?_
   have tr : ∀ a b c d e f g h i j k m n o p q r s t u v w x : AV, let l := lc_left_fz a b c d e f g h i j k m n o p q r s t u; trim ((37,x)::(36,w)::(35,v)::l) l = [(0,a),(1,b),(2,c),(3,d),(4,e),(8,f),(9,g),(10,h),(11,i),(12,j),(14,k),(15,m),(16,n),(23,o),(33,p),(35,v),(36,w),(37,x),(38,t),(49,u)] := by intros; rfl
   refine R_nil (tr ..) ?_; clear tr
   refine then_n ?_
   refine at_block rfl ?_
   refine loop_n rfl (fun mm kv H' => ∃ u : Nat, ∃ n : Int, ∃ X : Heap, ∃ x8 x9 x14 x15 x16 x38 x49 : AV, (kv = [(8, x8), (9, x9), (11, AV.i n), (14, x14), (15, x15), (16, x16), (37, AV.i u), (38, x38), (49, x49)]) ∧ (mm = l.length - u) ∧ (H' = [] ++ [some [rowsAV rows]] ++ X) ∧ (u ≤ l.length) ∧ (n = (atS rows per balls 0).1 - lsum rows per l u)) ⟨0, (atS rows per balls 0).1, [], _, _, _, _, _, _, _, rfl, rfl, by simp, by omega, by simp [lsum]⟩ (by rfl) ?_
   rintro mm kv H1 ⟨u, n, X, x8, x9, x14, x15, x16, x38, x49, rfl, rfl, hX, hu, hn⟩
   have tr : ∀ a b c d e f g h i j k m n o p q r s t u v w x y z A B C D : AV, upd [(0,a),(1,b),(2,c),(3,d),(4,e),(8,f),(9,g),(10,h),(11,i),(12,j),(14,k),(15,m),(16,n),(23,o),(33,p),(35,q),(36,r),(37,s),(38,t),(49,u)] [(8,v),(9,w),(11,x),(14,y),(15,z),(16,A),(37,B),(38,C),(49,D)] = [(0,a),(1,b),(2,c),(3,d),(4,e),(8,v),(9,w),(10,h),(11,x),(12,j),(14,y),(15,z),(16,A),(23,o),(33,p),(35,q),(36,r),(37,B),(38,C),(49,D)] := by intros; rfl
   refine W_to (tr ..) ?_; clear tr
   subst hX
   have hlost : u < l.length → (lostS rows per (gt l u)).2 = 0 := fun hh => by rw [c.lost0 hh]
   refine at_seq rfl ?_
   refine rg rfl ?_
   refine Rq ?_
   have tr : ∀ a b c d e f g h i j k m n o p q r s t u v : AV, let l := lc_left_fz a b c d e f g h i j k m n o p q r s t u; trim ((38,v)::l) l = [(0,a),(1,b),(2,c),(3,d),(4,e),(8,f),(9,g),(10,h),(11,i),(12,j),(14,k),(15,m),(16,n),(23,o),(33,p),(35,q),(36,r),(37,s),(38,v),(49,u)] := by intros; rfl
   refine R_nil (tr ..) ?_; clear tr
   refine then_n ?_
   refine at_seq rfl ?_
   refine cdd (fun h3 => ?_) (fun h3 => ?_)
   ·
    try simp only [decide_eq_true_eq, decide_eq_false_iff_not, Bool.not_eq_true', Bool.not_eq_false', beq_iff_eq, beq_eq_false_iff_ne, ne_eq] at h3
    refine at_skip rfl ?_
    refine then_n ?_
    refine at_seq rfl ?_
    refine at_block rfl ?_
    refine at_seq rfl ?_
    refine rg rfl ?_
    refine Rq ?_
    refine Rq ?_
    refine R_alloc (by simp (disch := first | omega | (simp only [List.length_map, List.length_append, List.length_set, List.length_cons, List.length_nil]; omega)) only [go_sem, ↓reduceIte, Nat.reduceEqDiff, reduceCtorEq] <;> rfl) rfl (by simp only [List.map_cons, List.map_nil]; rfl) ?_
    refine R_store ty56 (by simp (disch := first | omega | (simp only [List.length_map, List.length_append, List.length_set, List.length_cons, List.length_nil]; omega)) only [go_sem, ↓reduceIte, Nat.reduceEqDiff, reduceCtorEq] <;> rfl) (by simp (disch := first | omega | (simp only [List.length_map, List.length_append, List.length_set, List.length_cons, List.length_nil]; omega)) only [go_sem, ↓reduceIte, Nat.reduceEqDiff, reduceCtorEq] <;> rfl) (by simp (disch := first | omega | (simp only [List.length_map, List.length_append, List.length_set, List.length_cons, List.length_nil]; omega)) only [go_sem, ↓reduceIte, Nat.reduceEqDiff, reduceCtorEq] <;> rfl) (by simp) (by rfl) (by simp (disch := first | omega | (simp only [List.length_map, List.length_append, List.length_set, List.length_cons, List.length_nil]; omega)) only [go_sem, ↓reduceIte, Nat.reduceEqDiff, reduceCtorEq] <;> rfl) ?_
    have tr : ∀ a b c d e f g h i j k m n o p q r s t u v w x : AV, let l := lc_left_fz a b c d e f g h i j k m n o p q r s t u; trim ((14,x)::(40,w)::(39,v)::l) l = [(0,a),(1,b),(2,c),(3,d),(4,e),(8,f),(9,g),(10,h),(11,i),(12,j),(14,x),(15,m),(16,n),(23,o),(33,p),(35,q),(36,r),(37,s),(38,t),(49,u)] := by intros; rfl
    refine R_nil (tr ..) ?_; clear tr
    refine then_n ?_
    refine at_seq rfl ?_
    refine rg rfl ?_
    refine Rq ?_
    refine Rq ?_
    refine Rq ?_
    refine Rcall ?_
    refine ACall_eq (lost_ok _ _ rows per (gt l u)) ?_
    refine Rq ?_
    refine Rq ?_
    refine Rq ?_
    refine Rq ?_
    refine Rq ?_
    have tr : ∀ a b c d e f g h i j k m n o p q r s t u v w x y z A B C D : AV, let l := lc_left_fz a b c d e f g h i j k m n o p q r s t u; trim ((16,D)::(15,C)::(47,B)::(46,A)::(41,z)::(45,y)::(44,x)::(43,w)::(42,v)::l) l = [(0,a),(1,b),(2,c),(3,d),(4,e),(8,f),(9,g),(10,h),(11,i),(12,j),(14,k),(15,C),(16,D),(23,o),(33,p),(35,q),(36,r),(37,s),(38,t),(49,u)] := by intros; rfl
    refine R_nil (tr ..) ?_; clear tr
    refine then_n ?_
    refine at_seq rfl ?_
    refine at_seq rfl ?_
    refine rg rfl ?_
    refine Rq ?_
    refine Rq ?_
    have tr : ∀ a b c d e f g h i j k m n o p q r s t u v w : AV, let l := lc_left_fz a b c d e f g h i j k m n o p q r s t u; trim ((49,w)::(48,v)::l) l = [(0,a),(1,b),(2,c),(3,d),(4,e),(8,f),(9,g),(10,h),(11,i),(12,j),(14,k),(15,m),(16,n),(23,o),(33,p),(35,q),(36,r),(37,s),(38,t),(49,w)] := by intros; rfl
    refine R_nil (tr ..) ?_; clear tr
    refine then_n ?_
    refine cdd (fun h4 => ?_) (fun h4 => ?_)
    ·
     try simp only [decide_eq_true_eq, decide_eq_false_iff_not, Bool.not_eq_true', Bool.not_eq_false', beq_iff_eq, beq_eq_false_iff_ne, ne_eq] at h4
     refine at_seq rfl ?_
     refine rg rfl ?_
     refine Rq ?_
     refine Rq ?_
     refine Rq ?_
     have tr : ∀ a b c d e f g h i j k m n o p q r s t u v w x : AV, let l := lc_left_fz a b c d e f g h i j k m n o p q r s t u; trim ((9,x)::(8,w)::(50,v)::l) l = [(0,a),(1,b),(2,c),(3,d),(4,e),(8,w),(9,x),(10,h),(11,i),(12,j),(14,k),(15,m),(16,n),(23,o),(33,p),(35,q),(36,r),(37,s),(38,t),(49,u)] := by intros; rfl
     refine R_nil (tr ..) ?_; clear tr
     refine then_n ?_
     refine at_ret rfl ?_
     refine then_r ?_
     refine blk_r ?_
     refine then_r ?_
     refine then_r ?_
     refine blk_r ?_
     refine then_r ?_
     exfalso; have := hlost (by omega); omega
    ·
     try simp only [decide_eq_true_eq, decide_eq_false_iff_not, Bool.not_eq_true', Bool.not_eq_false', beq_iff_eq, beq_eq_false_iff_ne, ne_eq] at h4
     refine at_skip rfl ?_
     refine then_n ?_
     refine rg rfl ?_
     have hlr := lost_range (rows := rows) (per := per) (s := gt l u)
     have hls := lsum_range (rows := rows) (per := per) (l := l) u
     refine Rq ?_
     refine Rq ?_
     refine Rq ?_
     refine Rq ?_
     have tr : ∀ a b c d e f g h i j k m n o p q r s t u v w x y : AV, let l := lc_left_fz a b c d e f g h i j k m n o p q r s t u; trim ((11,y)::(53,x)::(52,w)::(51,v)::l) l = [(0,a),(1,b),(2,c),(3,d),(4,e),(8,f),(9,g),(10,h),(11,y),(12,j),(14,k),(15,m),(16,n),(23,o),(33,p),(35,q),(36,r),(37,s),(38,t),(49,u)] := by intros; rfl
     refine R_nil (tr ..) ?_; clear tr
     refine blk_n ?_
     refine then_n ?_
     refine rg rfl ?_
     refine Rq ?_
     refine Rq ?_
     have tr : ∀ a b c d e f g h i j k m n o p q r s t u v w : AV, let l := lc_left_fz a b c d e f g h i j k m n o p q r s t u; trim ((37,w)::(54,v)::l) l = [(0,a),(1,b),(2,c),(3,d),(4,e),(8,f),(9,g),(10,h),(11,i),(12,j),(14,k),(15,m),(16,n),(23,o),(33,p),(35,q),(36,r),(37,w),(38,t),(49,u)] := by intros; rfl
     refine R_nil (tr ..) ?_; clear tr
     refine then_n ?_
     have hls2 : lsum rows per l (u + 1) = lsum rows per l u + (lostS rows per (gt l u)).1 := rfl
     exact ⟨_, _, ⟨u + 1, n - (lostS rows per (gt l u)).1, X ++ [some (stC (gt l u))], _, _, _, _, _, _, _, rfl, rfl, by simp; rfl, by omega, by omega⟩, by rfl, by omega⟩
   ·
    try simp only [decide_eq_true_eq, decide_eq_false_iff_not, Bool.not_eq_true', Bool.not_eq_false', beq_iff_eq, beq_eq_false_iff_ne, ne_eq] at h3
    refine at_exit rfl ?_
    refine then_x ?_
    refine then_x ?_
    refine blk_x ?_
    refine then_n ?_
    refine at_seq rfl ?_
    refine rg rfl ?_
    refine Rq ?_
    refine Rq ?_
    refine Rq ?_
    have tr : ∀ a b c d e f g h i j k m n o p q r s t u v w x : AV, let l := lc_left_fz a b c d e f g h i j k m n o p q r s t u; trim ((9,x)::(8,w)::(55,v)::l) l = [(0,a),(1,b),(2,c),(3,d),(4,e),(8,w),(9,x),(10,h),(11,i),(12,j),(14,k),(15,m),(16,n),(23,o),(33,p),(35,q),(36,r),(37,s),(38,t),(49,u)] := by intros; rfl
    refine R_nil (tr ..) ?_; clear tr
    refine then_n ?_
    refine at_ret rfl ?_
    refine fpure ?_
    refine ⟨rfl, ?_, rfl⟩
    have e : lsum rows per l l.length = lsum rows per l u := by rw [show l.length = u by omega]
    rw [leftS, if_neg (fun hh => hh hk), hn, e]

theorem left_ok (lim : Nat) (H : Heap) (rows : Tb) (per balls : Int) (l : List Stp) :
    ACall sig lim 36 [.agg [rowsAV rows], AV.i per, AV.i balls, stopsAV l] H fun r H' => r = .tup [AV.i (leftS rows per balls l).1, AV.i (leftS rows per balls l).2] ∧ H' = H :=
  left_fz lim H rows per balls l _ (frz_stops _ _ _ _)

end Go.Proofs.Ytaoondlakhocnaa
end
section
set_option linter.unusedVariables false
namespace Go.Proofs.Ytaoondlakhocnaa
open Go Go.Am

theorem down_w {rows : Tb} (h : checkS rows = 0) {u w : Nat} (hu : u < rows.length) : ∀ w', w ≤ w' → w' < (gt rows 0).length → gt (gt rows u) w' ≤ gt (gt rows u) w
  | 0, hw, _ => by have : w = 0 := by omega
                   subst this; exact Int.le_refl _
  | w' + 1, hw, hl => by
    by_cases he : w = w' + 1
    · subst he; exact Int.le_refl _
    · have s := check_shaped h
      have h1 := down_w (w := w) h hu w' (by omega) (by omega)
      have h2 := ((check_zero h).2.1 u hu w' (by rw [s.len u hu]; omega)).2 (by rw [s.len u hu]; omega)
      omega
theorem down_u {rows : Tb} (h : checkS rows = 0) {u w : Nat} (hw : w < (gt rows 0).length) : ∀ u', u ≤ u' → u' < rows.length → gt (gt rows u) w ≤ gt (gt rows u') w
  | 0, hu, _ => by have : u = 0 := by omega
                   subst this; exact Int.le_refl _
  | u' + 1, hu, hl => by
    by_cases he : u = u' + 1
    · subst he; exact Int.le_refl _
    · have s := check_shaped h
      have h1 := down_u (u := u) h hw u' (by omega) (by omega)
      have h2 := ((check_zero h).2.1 (u' + 1) hl w (by rw [s.len _ hl]; exact hw)).1 (by omega)
      rw [Nat.add_sub_cancel] at h2
      omega
/-- The number of balls and wickets is in the table. -/
structure InT (rows : Tb) (per b w : Int) : Prop where
  tab : checkS rows = 0
  per1 : 1 ≤ per
  per8 : per ≤ 8
  b0 : 0 ≤ b
  b1 : b ≤ ((rows.length : Int) - 1) * per
  w0 : 0 ≤ w
  w1 : w ≤ (gt rows 0).length
theorem InT.good {rows : Tb} {per b w : Int} (h : InT rows per b w) : ¬ atBad rows per b w := by
  have := h.per1
  have := h.per8
  have := h.b0
  have := h.b1
  have := h.w0
  have := h.w1
  unfold atBad; omega
theorem InT.val {rows : Tb} {per b w : Int} (h : InT rows per b w) : atS rows per b w = if w = (gt rows 0).length then (0, 0) else (atV rows per b w, 0) := by
  rw [atS, if_neg (fun hh => hh h.tab), if_neg h.good]
/-- Between two rows. -/
theorem InT.form {rows : Tb} {per b w : Int} (h : InT rows per b w) (hw : w < (gt rows 0).length) :
    ∃ (q : Nat) (r y : Int), (q : Int) = b / per ∧ r = b % per ∧ q < rows.length ∧ 0 ≤ r ∧ r < per ∧ (0 < r → q + 1 < rows.length ∧ y = gt (gt rows (q + 1)) w.toNat) ∧ (r = 0 → y = gt (gt rows q) w.toNat) ∧ gt (gt rows q) w.toNat ≤ y ∧ (∀ q', q < q' → q' < rows.length → (0 < r → y ≤ gt (gt rows q') w.toNat)) ∧
      atV rows per b w = gt (gt rows q) w.toNat * per + (y - gt (gt rows q) w.toNat) * r := by
  have p1 := h.per1
  have b0 := h.b0
  have w0 := h.w0
  have s := check_shaped h.tab
  have g2 := s.two
  obtain ⟨q0, q1, r0, r1, q2⟩ := at_place (n := (rows.length : Int) - 1) (per := per) (balls := b) p1 b0 h.b1
  obtain ⟨q, hq⟩ := Int.eq_ofNat_of_zero_le q0
  have hwN : w.toNat < (gt rows 0).length := by omega
  by_cases hr : 0 < b % per
  · have q3 := q2 hr
    have e1 : (b / per + 1).toNat = q + 1 := by omega
    have e0 : (b / per).toNat = q := by omega
    refine ⟨q, b % per, gt (gt rows (q + 1)) w.toNat, hq.symm, rfl, by omega, r0, r1, fun _ => ⟨by omega, rfl⟩, fun h0 => by omega, down_u h.tab hwN (q + 1) (by omega) (by omega), fun q' h1 h2 _ => down_u h.tab hwN q' (by omega) h2, ?_⟩
    unfold atV cellI
    rw [if_pos hr, e1, e0, Int.mul_sub, Int.sub_mul]
    omega
  · have e0 : (b / per).toNat = q := by omega
    have er : b % per = 0 := by omega
    refine ⟨q, b % per, gt (gt rows q) w.toNat, hq.symm, rfl, by omega, r0, r1, fun h0 => absurd h0 hr, fun _ => rfl, Int.le_refl _, fun q' _ _ h0 => absurd h0 hr, ?_⟩
    unfold atV cellI
    rw [if_neg hr, e0, er, Int.sub_zero, Int.sub_self]
    omega
theorem at_mono {rows : Tb} {per a b w : Int} (ha : InT rows per a w) (hb : InT rows per b w) (hab : a ≤ b) : (atS rows per a w).1 ≤ (atS rows per b w).1 := by
  rw [ha.val, hb.val]
  by_cases hw : w = (gt rows 0).length
  · rw [if_pos hw, if_pos hw]; exact Int.le_refl _
  · rw [if_neg hw, if_neg hw]
    show atV rows per a w ≤ atV rows per b w
    have hw' : w < (gt rows 0).length := by have := ha.w1; omega
    have w0 := ha.w0
    have p1 := ha.per1
    obtain ⟨q, r, y, eq, er, hq, r0, r1, hy, hy0, hle, hup, ev⟩ := ha.form hw'
    obtain ⟨q', r', y', eq', er', hq', r0', r1', hy', hy0', hle', hup', ev'⟩ := hb.form hw'
    have hdiv : a / per ≤ b / per := Int.ediv_le_ediv (by omega) hab
    rw [ev, ev']
    have low' : 0 ≤ (y' - gt (gt rows q') w.toNat) * r' := Int.mul_nonneg (by omega) r0'
    by_cases hqq : q = q'
    · subst hqq
      have hm : per * (a / per) + a % per = a := Int.mul_ediv_add_emod _ _
      have hm' : per * (b / per) + b % per = b := Int.mul_ediv_add_emod _ _
      have hrr : r ≤ r' := by rw [← eq] at hm; rw [← eq'] at hm'; omega
      by_cases h0 : 0 < r
      · have e1 := (hy h0).2
        have e2 := (hy' (by omega)).2
        have := Int.mul_le_mul_of_nonneg_left hrr (by omega : 0 ≤ y - gt (gt rows q) w.toNat)
        rw [e2, ← e1]
        omega
      · have : r = 0 := by omega
        rw [this, Int.mul_zero]
        omega
    · have hlt : q < q' := by omega
      have up : (y - gt (gt rows q) w.toNat) * r ≤ (y - gt (gt rows q) w.toNat) * per := Int.mul_le_mul_of_nonneg_left (by omega) (by omega)
      have e3 : gt (gt rows q) w.toNat * per + (y - gt (gt rows q) w.toNat) * per = y * per := by rw [Int.sub_mul]; omega
      have cap : y ≤ gt (gt rows q') w.toNat := by
        by_cases h0 : 0 < r
        · exact hup q' hlt hq' h0
        · rw [hy0 (by omega)]
          exact down_u ha.tab (by omega) q' (by omega) hq'
      have := Int.mul_le_mul_of_nonneg_right cap (by omega : 0 ≤ per)
      omega
theorem at_anti {rows : Tb} {per b w w' : Int} (h : InT rows per b w) (h' : InT rows per b w') (hw : w ≤ w') : (atS rows per b w').1 ≤ (atS rows per b w).1 := by
  by_cases hw1 : w' = (gt rows 0).length
  · have := (at_range (rows := rows) (per := per) (balls := b) (w := w)).1
    rw [h'.val, if_pos hw1]; exact this
  · have w1 := h'.w1
    have w0 := h.w0
    rw [h.val, h'.val, if_neg hw1, if_neg (by omega)]
    show atV rows per b w' ≤ atV rows per b w
    have p1 := h.per1
    have s := check_shaped h.tab
    have g2 := s.two
    obtain ⟨q0, q1, r0, r1, q2⟩ := at_place (n := (rows.length : Int) - 1) (per := per) (balls := b) p1 h.b0 h.b1
    unfold atV cellI
    have c1 := down_w h.tab (u := (b / per).toNat) (w := w.toNat) (by omega) w'.toNat (by omega) (by omega)
    have m1 := Int.mul_le_mul_of_nonneg_right c1 (by omega : 0 ≤ per - b % per)
    by_cases hr : 0 < b % per
    · have q3 := q2 hr
      have c2 := down_w h.tab (u := (b / per + 1).toNat) (w := w.toNat) (by omega) w'.toNat (by omega) (by omega)
      have m2 := Int.mul_le_mul_of_nonneg_right c2 (by omega : 0 ≤ b % per)
      rw [if_pos hr, if_pos hr]
      omega
    · rw [if_neg hr, if_neg hr]
      omega
section
variable {rows : Tb} {per balls : Int} {l : List Stp}
theorem Chk.inB (c : Chk rows per balls l) {i : Nat} (hi : i < l.length) : InT rows per (gt l i).b (gt l i).w := by
  have h := c.stop i hi
  have hb := c.bmax
  exact ⟨c.tab, c.per1, c.per8, by omega, by omega, by omega, by omega⟩
theorem Chk.inA (c : Chk rows per balls l) {i : Nat} (hi : i < l.length) : InT rows per (gt l i).a (gt l i).w := by
  have h := c.stop i hi
  have hb := c.bmax
  exact ⟨c.tab, c.per1, c.per8, by omega, by omega, by omega, by omega⟩
theorem Chk.in0 (c : Chk rows per balls l) : InT rows per balls 0 := by
  have h1 := c.b1
  exact ⟨c.tab, c.per1, c.per8, by omega, c.bmax, by omega, by omega⟩
theorem Chk.lost_pos (c : Chk rows per balls l) {i : Nat} (hi : i < l.length) : 0 ≤ (lostS rows per (gt l i)).1 := by
  rw [c.lost0 hi]
  have := at_mono (c.inA hi) (c.inB hi) (c.stop i hi).2.2.2.2.1
  show 0 ≤ _ - _
  omega
theorem Chk.lsum_pos (c : Chk rows per balls l) : ∀ n, n ≤ l.length → 0 ≤ lsum rows per l n
  | 0, _ => Int.le_refl _
  | n + 1, hn => by
    have h1 := c.lsum_pos n (by omega)
    have h2 := c.lost_pos (i := n) (by omega)
    unfold lsum; omega
/-- What is left is never below what the place at hand is worth. -/
theorem Chk.above (c : Chk rows per balls l) : ∀ n, n ≤ l.length → (if n = 0 then (atS rows per balls 0).1 else (atS rows per (gt l (n - 1)).a (gt l (n - 1)).w).1) ≤ (atS rows per balls 0).1 - lsum rows per l n
  | 0, _ => by rw [if_pos rfl]; show _ ≤ _ - 0; omega
  | n + 1, hn => by
    have ih := c.above n (by omega)
    have hs := c.stop n (by omega)
    have e := c.lost0 (i := n) (by omega)
    have hl : lsum rows per l (n + 1) = lsum rows per l n + (lostS rows per (gt l n)).1 := rfl
    rw [if_neg (by omega), Nat.add_sub_cancel, hl, e]
    show _ ≤ _ - (_ + (_ - _))
    by_cases h0 : n = 0
    · subst h0
      rw [if_pos rfl] at ih
      have i0 : InT rows per balls (gt l 0).w := by
        have hb := c.inB (i := 0) (by omega)
        have := c.b1
        exact ⟨c.tab, c.per1, c.per8, by omega, c.bmax, hb.w0, hb.w1⟩
      have m1 := at_anti c.in0 i0 hs.2.2.1
      have m2 := at_mono (c.inB (i := 0) (by omega)) i0 hs.1
      omega
    · rw [if_neg h0] at ih
      have hp := hs.2.2.2.2.2 (by omega)
      have ha := c.inA (i := n - 1) (by omega)
      have hb := c.inB (i := n) (by omega)
      have i1 : InT rows per (gt l n).b (gt l (n - 1)).w := ⟨c.tab, c.per1, c.per8, hb.b0, hb.b1, ha.w0, ha.w1⟩
      have m1 := at_mono i1 ha hp.1
      have m2 := at_anti i1 hb hp.2
      omega
theorem Chk.left_pos (c : Chk rows per balls l) : 0 ≤ (atS rows per balls 0).1 - lsum rows per l l.length := by
  have h := c.above l.length (Nat.le_refl _)
  have r1 := (at_range (rows := rows) (per := per) (balls := balls) (w := 0)).1
  have r2 := (at_range (rows := rows) (per := per) (balls := (gt l (l.length - 1)).a) (w := (gt l (l.length - 1)).w)).1
  split at h <;> omega
end
theorem left_err {rows : Tb} {per balls : Int} {l : List Stp} (h : (leftS rows per balls l).2 ≠ 0) : leftS rows per balls l = (0, chkS rows per balls l) := by
  by_cases hk : chkS rows per balls l ≠ 0
  · rw [leftS, if_pos hk]
  · rw [leftS, if_neg hk] at h; exact absurd rfl h
theorem left_zero {rows : Tb} {per balls : Int} {l : List Stp} (h : (leftS rows per balls l).2 = 0) : Chk rows per balls l ∧ leftS rows per balls l = ((atS rows per balls 0).1 - lsum rows per l l.length, 0) := by
  by_cases hk : chkS rows per balls l = 0
  · exact ⟨chk_of hk, by rw [leftS, if_neg (fun hh => hh hk)]⟩
  · rw [leftS, if_pos hk] at h; exact absurd h hk
end Go.Proofs.Ytaoondlakhocnaa
end
section
namespace Go.Am
open Go
/-- One block was made, the others are as they were. -/
structure MNew (H H' : Heap) (k : Blk) : Prop where
  len : H'.length = H.length + 1
  new : hget H' H.length = some k
  old : ∀ b, b < H.length → hget H' b = hget H b
/-- One block was written. -/
structure MWrote (H : Heap) (b : Nat) (H' : Heap) (k : Blk) : Prop where
  len : H'.length = H.length
  new : hget H' b = some k
  old : ∀ c, c ≠ b → hget H' c = hget H c
/-- One block was made in place of another one. -/
structure MGrew (H : Heap) (b : Nat) (H' : Heap) (k : Blk) : Prop where
  len : H'.length = H.length + 1
  new : hget H' H.length = some k
  old : ∀ c, c ≠ b → c < H.length → hget H' c = hget H c
theorem MNew.of (H : Heap) (k : Blk) : MNew H (H ++ [some k]) k := ⟨by simp, by simp [hget], fun b hb => hget_low _ _ _ hb⟩
theorem MWrote.of (H : Heap) {b : Nat} (k : Blk) (hb : b < H.length) : MWrote H b (hset H b (some k)) k :=
  ⟨by simp [hset], by simp [hget, hset, hb], fun c hc => by simp [hget, hset, Ne.symm hc]⟩
theorem MGrew.of (H : Heap) (b : Nat) (k : Blk) : MGrew H b (hset H b none ++ [some k]) k :=
  ⟨by simp [hset], by simp [hget, hset], fun c hc hl => by
    rw [hget_low _ _ _ (by simpa [hset] using hl)]
    simp [hget, hset, Ne.symm hc]⟩
theorem MGrew.ofNew {H H' : Heap} {k : Blk} (b : Nat) (h : MNew H H' k) : MGrew H b H' k := ⟨h.len, h.new, fun c _ hl => h.old c hl⟩
section
variable {S : Sig} {lim : Nat} {ops : Array Oper} {l : List Oper} {e : Env} {H : Heap} {K : Env → Heap → Prop} {d : Option Tmp} {ty : TypeId} {pos : String} {af : Array Edge}
theorem A_alloc {t : TypeId} {z : List Value} (hz : (tyOf S.P t).bind (fun ty => ty.zero) = some z) (hk : ∀ H', MNew H H' (z.map .v) → Rp S lim ops l (e.put d (.ptr H.length 0)) H' K) : Rp S lim ops (⟨d, .alloc t, ty, pos, af, none⟩ :: l) e H K :=
  R_alloc hz rfl rfl (hk _ (MNew.of _ _))
theorem A_box {t : TypeId} {x : Operand} {c : List AV} (ht : (tyOf S.P t).isSome = true) (hc : cellsOf (evO e x) = some c) (hk : ∀ H', MNew H H' c → Rp S lim ops l (e.put d (.ptr H.length 0)) H' K) : Rp S lim ops (⟨d, .box t x, ty, pos, af, none⟩ :: l) e H K :=
  R_box ht hc rfl rfl (hk _ (MNew.of _ _))
theorem A_store {t : TypeId} {tyy : Ty} {a x : Operand} {b o : Nat} {c : List AV} {k : Blk} (ht : tyOf S.P t = some tyy) (ha : evO e a = .ptr b o) (hc : cellsOf (evO e x) = some c) (hb : hget H b = some k) (hl : lim ≤ b ∧ c.length = tyy.size ∧ o + tyy.size ≤ k.length) {k' : Blk} (hk' : setL k o c = k')
    (hk : ∀ H', MWrote H b H' k' → Rp S lim ops l (e.put d (.v undef)) H' K) : Rp S lim ops (⟨d, .store t a x, ty, pos, af, none⟩ :: l) e H K :=
  R_store ht ha hc hb hl hk' rfl (hk _ (MWrote.of _ _ (hget_lt hb)))
theorem A_append {x y : Operand} {t : TypeId} {r : AV} {b : Nat} {k : Blk} (h : ∃ H', appendV S.P lim H t (evO e x) (evO e y) = some (r, H') ∧ MGrew H b H' k) (hk : ∀ H', MGrew H b H' k → Rp S lim ops l (e.put d r) H' K) :
    Rp S lim ops (⟨d, .call ⟨.builtin .append, #[x, y], #[t, t]⟩, ty, pos, af, none⟩ :: l) e H K := by
  obtain ⟨H', h1, h2⟩ := h
  exact R_append h1 (hk _ h2)
theorem A_buildSlice {t : TypeId} {n : Nat} {parts : Array (Nat × Operand)} {r : AV} {k : Blk} (h : effV S.P lim (.buildSlice t n parts) (evO e) H = some (r, H ++ [some k])) (hk : ∀ H', MNew H H' k → Rp S lim ops l (e.put d r) H' K) : Rp S lim ops (⟨d, .buildSlice t n parts, ty, pos, af, none⟩ :: l) e H K :=
  R_buildSlice h (hk _ (MNew.of _ _))
theorem A_makeSlice {t : TypeId} {n c : Operand} {r : AV} {k : Blk} (h : effV S.P lim (.makeSlice t n c) (evO e) H = some (r, H ++ [some k])) (hk : ∀ H', MNew H H' k → Rp S lim ops l (e.put d r) H' K) : Rp S lim ops (⟨d, .makeSlice t n c, ty, pos, af, none⟩ :: l) e H K :=
  R_makeSlice h (hk _ (MNew.of _ _))
theorem Rp_env {e' : Env} (h : e = e') (hk : Rp S lim ops l e' H K) : Rp S lim ops l e H K := h ▸ hk
end
theorem wrC_store {R : List Nat} {d : Option Tmp} {ty : TypeId} {pos : String} {af : Array Edge} {g : Option (Nat × Bool)} {t : TypeId} {a x : Operand} {e : Env} {b o : Nat} (h : evO e a = .ptr b o) (hb : b ∉ R) : wrC R ⟨d, .store t a x, ty, pos, af, g⟩ e = true := by
  simp only [wrC, wrV, h]
  simpa using hb
theorem rls2 {S : Sig} {lim : Nat} {dr : List (Nat × Draw)} {loc : Env} {H : Heap} {Q : Ex → St → Prop} {c : Code} {p : List Nat} {id : Nat} {ops : Array Oper} {lead m m2 fin live keep : List Nat} {ms : List (List Nat)} (h : at' c p = .region id ops true) (hd : dr.lookup id = some (.led lead (m :: m2 :: ms) fin live keep))
    (hw : Lp S ops H (fun e _ => Rp S H.length ops (pick ops m) e H (fun e1 H1 => Alts S ops live keep H.length e H e1 H1 (m2 :: ms) ∧
      Rp S lim ops (pick ops fin) (cutE ops live loc e1) (keepOnly keep H.length H1) fun e' H' => Q .normal ⟨trim e' loc, H'⟩)) (pick ops lead) loc []) : W S lim dr (at' c p) ⟨loc, H⟩ Q := by
  rw [h]
  obtain ⟨e, R, h1, hw⟩ := runLead_of_Lp _ _ _ hw
  obtain ⟨n1, e1', H1', h2, ha, hf⟩ := runOps_of_Rp _ _ _ _ hw
  obtain ⟨n2, h3⟩ := altsOK_of _ ha
  obtain ⟨n3, e3, H3, h4, hw⟩ := runOps_of_Rp _ _ _ _ hf
  refine ⟨max n1 (max n2 n3) + 1, .normal, ⟨trim e3 loc, H3⟩, ?_, hw⟩
  simp only [exec, region, if_true, hd, led, h1, runOps_mono (acall_mono S n1 (max n1 (max n2 n3) + 1) (by omega)) _ _ _ _ h2, altsOK_mono (acall_mono S n2 (max n1 (max n2 n3) + 1) (by omega)) _ h3, runOps_mono (acall_mono S n3 (max n1 (max n2 n3) + 1) (by omega)) _ _ _ _ h4, Option.map_some]
theorem rls3 {S : Sig} {lim : Nat} {dr : List (Nat × Draw)} {loc : Env} {H : Heap} {Q : Ex → St → Prop} {c : Code} {p : List Nat} {id : Nat} {ops : Array Oper} {lead mid lead2 m m2 fin live keep : List Nat} {ms : List (List Nat)} (h : at' c p = .region id ops true) (hd : dr.lookup id = some (.led2 lead mid lead2 (m :: m2 :: ms) fin live keep))
    (hw : Lp S ops H (fun e R => Rp S H.length ops (pick ops mid) e H (fun e1 H1 => H1 = H ∧ Lp S ops H (fun e2 _ => Rp S H.length ops (pick ops m) e2 H (fun e3 H3 => Alts S ops live keep H.length e2 H e3 H3 (m2 :: ms) ∧
      Rp S lim ops (pick ops fin) (cutE ops live loc e3) (keepOnly keep H.length H3) fun e' H' => Q .normal ⟨trim e' loc, H'⟩)) (pick ops lead2) e1 R)) (pick ops lead) loc []) : W S lim dr (at' c p) ⟨loc, H⟩ Q := by
  rw [h]
  obtain ⟨e, R, h1, hw⟩ := runLead_of_Lp _ _ _ hw
  obtain ⟨n0, e1, H1, h2, rfl, hw⟩ := runOps_of_Rp _ _ _ _ hw
  obtain ⟨e2, R2, h3, hw⟩ := runLead_of_Lp _ _ _ hw
  obtain ⟨n1, e3, H3, h4, ha, hf⟩ := runOps_of_Rp _ _ _ _ hw
  obtain ⟨n2, h5⟩ := altsOK_of _ ha
  obtain ⟨n3, e4, H4, h6, hw⟩ := runOps_of_Rp _ _ _ _ hf
  refine ⟨max (max n0 n1) (max n2 n3) + 1, .normal, ⟨trim e4 loc, H4⟩, ?_, hw⟩
  simp only [exec, region, if_true, hd, led23, led2, h1, runOps_mono (acall_mono S n0 (max (max n0 n1) (max n2 n3) + 1) (by omega)) _ _ _ _ h2, h3, runOps_mono (acall_mono S n1 (max (max n0 n1) (max n2 n3) + 1) (by omega)) _ _ _ _ h4, altsOK_mono (acall_mono S n2 (max (max n0 n1) (max n2 n3) + 1) (by omega)) _ h5, runOps_mono (acall_mono S n3 (max (max n0 n1) (max n2 n3) + 1) (by omega)) _ _ _ _ h6, Option.map_some]
theorem rl3 {S : Sig} {lim : Nat} {dr : List (Nat × Draw)} {loc : Env} {H : Heap} {Q : Ex → St → Prop} {c : Code} {p : List Nat} {id : Nat} {ops : Array Oper} {lead mid lead2 m fin live keep : List Nat} (h : at' c p = .region id ops true) (hd : dr.lookup id = some (.led2 lead mid lead2 [m] fin live keep)) (hm0 : ¬ mid = [])
    (hw : Lp S ops H (fun e R => Mp S lim ops R (fun e1 H1 => Lp S ops H1 (fun e2 R2 => Mp S lim ops R2 (fun e3 H3 => Rp S lim ops (pick ops fin) e3 H3 fun e' H' => Q .normal ⟨trim e' loc, H'⟩) (pick ops m) e2 H1) (pick ops lead2) e1 []) (pick ops mid) e H) (pick ops lead) loc []) : W S lim dr (at' c p) ⟨loc, H⟩ Q := by
  rw [h]
  obtain ⟨e, R, h1, hw⟩ := runLead_of_Lp _ _ _ hw
  obtain ⟨n0, e1, H1, h2, hw⟩ := runMid_of_Mp _ _ _ hw
  obtain ⟨e2, R2, h3, hw⟩ := runLead_of_Lp _ _ _ hw
  obtain ⟨n2, e3, H3, h5, hf⟩ := runMid_of_Mp _ _ _ hw
  obtain ⟨n3, e4, H4, h6, hw⟩ := runOps_of_Rp _ _ _ _ hf
  refine ⟨max n0 (max n2 n3) + 1, .normal, ⟨trim e4 loc, H4⟩, ?_, hw⟩
  simp only [exec, region, if_true, hd, led23, if_neg hm0, led3, h1, runMid_mono (acall_mono S n0 (max n0 (max n2 n3) + 1) (by omega)) _ _ _ _ h2, h3, runMid_mono (acall_mono S n2 (max n0 (max n2 n3) + 1) (by omega)) _ _ _ _ h5, runOps_mono (acall_mono S n3 (max n0 (max n2 n3) + 1) (by omega)) _ _ _ _ h6, Option.map_some]
theorem rl4 {S : Sig} {lim : Nat} {dr : List (Nat × Draw)} {loc : Env} {H : Heap} {Q : Ex → St → Prop} {c : Code} {p : List Nat} {id : Nat} {ops : Array Oper} {lead lead2 m fin live keep : List Nat} (h : at' c p = .region id ops true) (hd : dr.lookup id = some (.led2 lead [] lead2 [m] fin live keep))
    (hw : Lp S ops H (fun e R => Lp S ops H (fun e2 _ => Mp S lim ops R (fun e3 H3 => Rp S lim ops (pick ops fin) e3 H3 fun e' H' => Q .normal ⟨trim e' loc, H'⟩) (pick ops m) e2 H) (pick ops lead2) e R) (pick ops lead) loc []) : W S lim dr (at' c p) ⟨loc, H⟩ Q := by
  rw [h]
  obtain ⟨e, R, h1, hw⟩ := runLead_of_Lp _ _ _ hw
  obtain ⟨e2, R2, h3, hw⟩ := runLead_of_Lp _ _ _ hw
  obtain ⟨n2, e3, H3, h5, hf⟩ := runMid_of_Mp _ _ _ hw
  obtain ⟨n3, e4, H4, h6, hw⟩ := runOps_of_Rp _ _ _ _ hf
  refine ⟨max n2 n3 + 1, .normal, ⟨trim e4 loc, H4⟩, ?_, hw⟩
  simp only [exec, region, if_true, hd, led23, led4, h1, h3, runMid_mono (acall_mono S n2 (max n2 n3 + 1) (by omega)) _ _ _ _ h5, runOps_mono (acall_mono S n3 (max n2 n3 + 1) (by omega)) _ _ _ _ h6, Option.map_some]
/-- Two blocks that are made in either order. -/
theorem two_same {H : Heap} {live : List Nat} {e0 e1 : Env} {A B : Blk} (hA : ∀ f, A.map (ren f 8) = A) (hB : ∀ f, B.map (ren f 8) = B)
    (hl : ∀ t ∈ live, (ren (rnB H.length [1, 0]) 8 (e1.get t)) = e0.get t) : SameUp H.length live [0, 1] e0 (H ++ [some A] ++ [some B]) e1 (H ++ [some B] ++ [some A]) := by
  refine ⟨[1, 0], by simp, by simp, by simp, by decide, by decide, by decide, hl, ?_⟩
  intro k hk
  simp only [List.mem_cons, List.not_mem_nil, or_false] at hk
  rcases hk with rfl | rfl
  · simp [hget, hA]
  · simp [hget, hB]
theorem two_id {H : Heap} {live : List Nat} {e0 e1 : Env} {A B : Blk} (hA : ∀ f, A.map (ren f 8) = A) (hB : ∀ f, B.map (ren f 8) = B)
    (hl : ∀ t ∈ live, (ren (rnB H.length [0, 1]) 8 (e1.get t)) = e0.get t) : SameUp H.length live [0, 1] e0 (H ++ [some A] ++ [some B]) e1 (H ++ [some A] ++ [some B]) := by
  refine ⟨[0, 1], by simp, by simp, by simp, by decide, by decide, by decide, hl, ?_⟩
  intro k hk
  simp only [List.mem_cons, List.not_mem_nil, or_false] at hk
  rcases hk with rfl | rfl
  · simp [hget, hA]
  · simp [hget, hB]
theorem keep_two (H : Heap) (A B : Option Blk) : keepOnly [0, 1] H.length (H ++ [A] ++ [B]) = H ++ [A] ++ [B] := by
  unfold keepOnly
  apply List.ext_getElem?
  intro i
  rw [List.getElem?_mapIdx]
  by_cases h : i < H.length
  · simp [h]
  · by_cases h2 : i < (H ++ [A] ++ [B]).length
    · have : i - H.length = 0 ∨ i - H.length = 1 := by simp at h2; omega
      rcases this with h3 | h3 <;> simp [h3]
    · rw [List.getElem?_eq_none (by omega)]; rfl
end Go.Am
end
section
set_option linter.unusedVariables false
namespace Go.Proofs.Ytaoondlakhocnaa
open Go Go.Am

theorem flatS_app (l : List Stp) (s : Stp) : flatS (l ++ [s]) = flatS l ++ stC s := by
  unfold flatS
  rw [List.map_append, List.flatten_append]
  simp
theorem flatS_st (l : List Stp) : (flatS l).all storable = true := by
  induction l with
  | nil => rfl
  | cons s l ih =>
    have e : flatS (s :: l) = stC s ++ flatS l := rfl
    rw [e, List.all_append, ih]; rfl
theorem ren_flat (f : Nat → Nat) (l : List Stp) : (flatS l).map (ren f 8) = flatS l := by
  unfold flatS
  rw [List.map_flatten, List.map_map]
  congr 1
theorem bs25e (lim : Nat) (H : Heap) (ev : Operand → AV) : effV Try.prog lim (.buildSlice 25 0 #[]) ev H = some (.own 3 H.length 0 0, H ++ [some []]) := by
  simp only [effV, tk25, ty56]
  rw [if_pos ⟨rfl, by decide, by decide⟩]
  rfl
theorem bs25 (lim : Nat) (H : Heap) (x : Operand) (ev : Operand → AV) (s : Stp) (h : ev x = .agg (stC s)) :
    effV Try.prog lim (.buildSlice 25 1 #[(0, x)]) ev H = some (.own 3 H.length 0 1, H ++ [some (stC s)]) := by
  simp only [effV, tk25, ty56]
  rw [if_pos ⟨rfl, by decide, by decide⟩]
  simp only [List.map_cons, List.map_nil, h]
  rfl
theorem app25e {lim : Nat} {H : Heap} {b : Nat} {l : List Stp} (hb : hget H b = some []) (hl : lim ≤ b) (hm : l.length ≤ 1000000) :
    appendV Try.prog lim H 25 (.own 3 b 0 0) (stopsAV l) = some (.own 3 H.length 0 l.length, hset H b none ++ [some (flatS l)]) := by
  simp only [appendV, tk25, ty56, srcCells, hb]
  rw [if_pos (by rw [flat_len]; omega)]
  simp only
  rw [if_pos ⟨rfl, by decide, by rw [List.take_of_length_le (by rw [flat_len]; omega)]; exact flatS_st l⟩]
  simp only [List.drop_nil, List.take_nil, List.nil_append, Nat.zero_add]
  rw [if_pos ⟨hl, trivial, by simp, by omega, by omega⟩, List.take_of_length_le (by rw [flat_len]; omega)]
theorem app25s {lim : Nat} {H : Heap} {b c : Nat} {l : List Stp} {s : Stp} (hb : hget H b = some (flatS l)) (hc : hget H c = some (stC s)) (hl : lim ≤ b) (hm : l.length ≤ 1000000) :
    appendV Try.prog lim H 25 (.own 3 b 0 l.length) (.own 3 c 0 1) = some (.own 3 H.length 0 (l.length + 1), hset H b none ++ [some (flatS (l ++ [s]))]) := by
  simp only [appendV, tk25, ty56, srcCells, hb, hc]
  rw [if_pos (by simp)]
  simp only [List.length_cons, List.length_nil]
  rw [if_pos ⟨trivial, by decide, rfl⟩]
  simp only [List.drop_zero, flat_len]
  rw [if_pos ⟨hl, trivial, by omega, by omega, by omega⟩]
  rw [List.take_of_length_le (by rw [flat_len]; omega), flatS_app]
  rfl
theorem frz_own3 {H : Heap} {b n d : Nat} {l : List Stp} (hb : hget H b = some (flatS l)) (hn : n = l.length) : frz H 0 (d + 2) (.own 3 b 0 n) = stopsAV l := by
  subst hn
  have h0 : ¬ b < 0 := by omega
  simp only [frz, if_neg h0, hb, List.drop_zero]
  congr 1
  unfold flatS
  rw [List.map_flatten, List.map_map]
  congr 1
theorem keep_all {l : List Nat} {n : Nat} {H : Heap} (h : ∀ i, i < H.length → i < n ∨ (i - n) ∈ l) : keepOnly l n H = H := by
  unfold keepOnly
  apply List.ext_getElem?
  intro i
  rw [List.getElem?_mapIdx]
  by_cases hi : i < H.length
  · rw [List.getElem?_eq_getElem hi, Option.map_some, if_pos (h i hi)]
  · rw [List.getElem?_eq_none (by omega)]; rfl
theorem ren_rows (f : Nat → Nat) (d : Nat) (rows : Tb) : ren f (d + 3) (rowsAV rows) = rowsAV rows := by
  show AV.sl rows.length ((rows.map rowAV).map (ren f (d + 2))) = _
  rw [List.map_map]
  congr 1
  apply List.map_congr_left
  intro r _
  show AV.sl r.length ((r.map AV.i).map (ren f (d + 1))) = _
  rw [List.map_map]
  rfl
theorem ren_stops (f : Nat → Nat) (d : Nat) (l : List Stp) : ren f (d + 2) (stopsAV l) = stopsAV l := by
  show AV.sl l.length ((flatS l).map (ren f (d + 1))) = _
  congr 1
  unfold flatS
  rw [List.map_flatten, List.map_map]
  congr 1
theorem ren_ch (f : Nat → Nat) (rows : Tb) (a b c d : Int) (l m : List Stp) : [rowsAV rows, AV.i a, AV.i b, AV.i c, AV.i d, stopsAV l, stopsAV m].map (ren f 8) = [rowsAV rows, AV.i a, AV.i b, AV.i c, AV.i d, stopsAV l, stopsAV m] := by
  show [ren f 8 (rowsAV rows), AV.i a, AV.i b, AV.i c, AV.i d, ren f 8 (stopsAV l), ren f 8 (stopsAV m)] = _
  rw [ren_rows, ren_stops, ren_stops]
theorem ren_ch7 (f : Nat → Nat) (rows : Tb) (a b c d : Int) (l m : List Stp) : [rowsAV rows, AV.i a, AV.i b, AV.i c, AV.i d, stopsAV l, stopsAV m].map (ren f 7) = [rowsAV rows, AV.i a, AV.i b, AV.i c, AV.i d, stopsAV l, stopsAV m] := by
  show [ren f 7 (rowsAV rows), AV.i a, AV.i b, AV.i c, AV.i d, ren f 7 (stopsAV l), ren f 7 (stopsAV m)] = _
  rw [ren_rows, ren_stops, ren_stops]
theorem gt_app (l : List Stp) (s : Stp) (k : Nat) (h : k < l.length) : gt (l ++ [s]) k = gt l k := by
  simp [gt, List.getD_eq_getElem?_getD, List.getElem?_append_left h]
theorem lsum_app {rows : Tb} {per : Int} {l : List Stp} {s : Stp} : ∀ n, n ≤ l.length → lsum rows per (l ++ [s]) n = lsum rows per l n
  | 0, _ => rfl
  | n + 1, h => by rw [lsum, lsum, lsum_app n (by omega), gt_app l s n (by omega)]
/-- With one more interruption no more is left. -/
theorem left_more {rows : Tb} {per balls : Int} {l : List Stp} {s : Stp} (h : (leftS rows per balls l).2 = 0) (h' : (leftS rows per balls (l ++ [s])).2 = 0) : (leftS rows per balls (l ++ [s])).1 ≤ (leftS rows per balls l).1 := by
  obtain ⟨c, e⟩ := left_zero h
  obtain ⟨c', e'⟩ := left_zero h'
  have hlen : (l ++ [s]).length = l.length + 1 := by simp
  have hp := c'.lost_pos (i := l.length) (by omega)
  rw [e, e', hlen]
  show _ - lsum rows per (l ++ [s]) (l.length + 1) ≤ _ - _
  rw [lsum, lsum_app l.length (Nat.le_refl _)]
  omega
end Go.Proofs.Ytaoondlakhocnaa
end
