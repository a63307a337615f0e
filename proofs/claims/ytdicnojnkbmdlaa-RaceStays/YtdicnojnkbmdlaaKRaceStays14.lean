/-
  Texts of RaceStays, part 15 of 16. Walks of chapters 52 and 53. The steps are written by program (walk.py).
-/
import Derived.Test.YtdicnojnkbmdlaaKRaceStays12
import Derived.Test.YtdicnojnkbmdlaaKRaceStays8
import Derived.Test.YtdicnojnkbmdlaaKRaceStays4
import Derived.Test.YtdicnojnkbmdlaaKRaceStays3
import Derived.Test.YtdicnojnkbmdlaaKRaceStays13
import Derived.Test.YtdicnojnkbmdlaaKRaceStays2
import Derived.ProofKit
import Derived.ChangeArms
import Derived.DataReads
section
set_option linter.unusedSimpArgs false
set_option linter.unusedVariables false
set_option maxHeartbeats 40000000
set_option maxRecDepth 4000
namespace Go.Proofs.Ytdicnojnkbmdlaa
open Go Go.Am

abbrev lc_thr_ok (a b c d e f g h i j k m n : AV) : Env := [(0,a),(1,b),(2,c),(4,d),(5,e),(6,f),(8,g),(9,h),(17,i),(21,j),(22,k),(23,m),(38,n)]
theorem thr_x (lim : Nat) (H : Heap) (P : List Int) (L : List Pr) (t : Int) (x : AV) (hx : frz H 0 8 x = .agg (raceC P L)) :
    ACall sig lim 30 [x, AV.i t] H fun r H' => r = .tup [.v (.bool (thruS P L t).1), AV.i (thruS P L t).2.1, AV.i (thruS P L t).2.2] ∧ H' = H := by
 have hargs : [x, AV.i t].map (frz H 0 8) = [.agg (raceC P L), AV.i t] := by
  show [frz H 0 8 x, AV.i t] = _
  rw [hx]
 refine ACall_data (fa := fa30) rfl rfl rfl rfl hargs ?_
 have tr : ∀ a0 a1 : AV, env0 fa30.keep [a0, a1] = [(0,a0),(1,a1),(2,.any),(4,.any),(5,.any),(6,.any),(8,.any),(9,.any),(17,.any),(21,.any),(22,.any),(23,.any),(38,.any)] := fun a0 a1 => rfl
 refine W_to (tr _ _) ?_; clear tr
 refine at_seq rfl ?_
 refine rg rfl ?_
 refine R_box rfl (by simp (disch := first | omega | (simp only [List.length_map, List.length_append, List.length_set, List.length_cons, List.length_nil]; omega)) only [go_sem, ↓reduceIte, Nat.reduceEqDiff, reduceCtorEq] <;> rfl) rfl rfl ?_
 refine Rq ?_
 refine Rq ?_
 refine Rq ?_
 have tr : ∀ a b c d e f g h i j k m n o p q r : AV, let l := lc_thr_ok a b c d e f g h i j k m n; trim ((6,r)::(5,q)::(4,p)::(2,o)::l) l = [(0,a),(1,b),(2,o),(4,p),(5,q),(6,r),(8,g),(9,h),(17,i),(21,j),(22,k),(23,m),(38,n)] := by intros; rfl
 refine R_nil (tr ..) ?_; clear tr
 refine then_n ?_
 refine at_seq rfl ?_
 refine at_seq rfl ?_
 refine rg rfl ?_
 refine Rq ?_
 refine Rq ?_
 refine Rcall ?_
 refine ACall_eq (mst_ok _ _ P L t) ?_
 refine Rq ?_
 refine Rq ?_
 refine Rq ?_
 refine Rq ?_
 refine Rq ?_
 have tr : ∀ a b c d e f g h i j k m n o p q r s t u v : AV, let l := lc_thr_ok a b c d e f g h i j k m n; trim ((8,v)::(7,u)::(15,t)::(14,s)::(10,r)::(13,q)::(12,p)::(11,o)::l) l = [(0,a),(1,b),(2,c),(4,d),(5,e),(6,f),(8,v),(9,h),(17,i),(21,j),(22,k),(23,m),(38,n)] := by intros; rfl
 refine R_nil (tr ..) ?_; clear tr
 refine then_n ?_
 refine at_seq rfl ?_
 refine rg rfl ?_
 refine Rq ?_
 refine Rq ?_
 have tr : ∀ a b c d e f g h i j k m n o p : AV, let l := lc_thr_ok a b c d e f g h i j k m n; trim ((17,p)::(16,o)::l) l = [(0,a),(1,b),(2,c),(4,d),(5,e),(6,f),(8,g),(9,h),(17,p),(21,j),(22,k),(23,m),(38,n)] := by intros; rfl
 refine R_nil (tr ..) ?_; clear tr
 refine then_n ?_
 refine cdd (fun h1 => ?_) (fun h1 => ?_)
 ·
  try simp only [decide_eq_true_eq, decide_eq_false_iff_not, Bool.not_eq_true', Bool.not_eq_false', beq_iff_eq, beq_eq_false_iff_ne, ne_eq] at h1
  refine at_seq rfl ?_
  refine rg rfl ?_
  refine Rq ?_
  refine Rq ?_
  refine Rq ?_
  refine Rq ?_
  have tr : ∀ a b c d e f g h i j k m n o p q r : AV, let l := lc_thr_ok a b c d e f g h i j k m n; trim ((6,r)::(5,q)::(4,p)::(18,o)::l) l = [(0,a),(1,b),(2,c),(4,p),(5,q),(6,r),(8,g),(9,h),(17,i),(21,j),(22,k),(23,m),(38,n)] := by intros; rfl
  refine R_nil (tr ..) ?_; clear tr
  refine then_n ?_
  refine at_ret rfl ?_
  refine then_r ?_
  refine fpure ?_
  refine ⟨rfl, ?_, rfl⟩
  rw [thruS, if_pos (by assumption)]
 ·
  try simp only [decide_eq_true_eq, decide_eq_false_iff_not, Bool.not_eq_true', Bool.not_eq_false', beq_iff_eq, beq_eq_false_iff_ne, ne_eq] at h1
  refine at_skip rfl ?_
  refine then_n ?_
  refine at_seq rfl ?_
  refine at_seq rfl ?_
  refine rg rfl ?_
  have hm0 : (mostS P L t).2 = 0 := by assumption
  obtain ⟨g, ht0, ht1⟩ := most_of hm0
  have g20 := g.n20
  refine Rq ?_
  refine Rq ?_
  refine Rq ?_
  refine Rq ?_
  have tr : ∀ a b c d e f g h i j k m n o p q r : AV, let l := lc_thr_ok a b c d e f g h i j k m n; trim ((22,r)::(21,q)::(20,p)::(19,o)::l) l = [(0,a),(1,b),(2,c),(4,d),(5,e),(6,f),(8,g),(9,h),(17,i),(21,q),(22,r),(23,m),(38,n)] := by intros; rfl
  refine R_nil (tr ..) ?_; clear tr
  refine then_n ?_
  refine at_block rfl ?_
  refine loop_n rfl (fun mm kv H' => ∃ u : Nat, ∃ x4 x5 x6 x9 x23 x38 : AV, (kv = [(4, x4), (5, x5), (6, x6), (9, x9), (22, AV.i u), (23, x23), (38, x38)]) ∧ (mm = P.length - u) ∧ (H' = [] ++ [some (raceC P L)]) ∧ (u ≤ P.length) ∧ (passN P L t u = -1)) ⟨0, _, _, _, _, _, _, rfl, rfl, rfl, by omega, by rfl⟩ (by rfl) ?_
  rintro mm kv H' ⟨u, x4, x5, x6, x9, x23, x38, rfl, rfl, rfl, hu, hq⟩
  have tr : ∀ a b c d e f g h i j k m n o p q r s t u : AV, upd [(0,a),(1,b),(2,c),(4,d),(5,e),(6,f),(8,g),(9,h),(17,i),(21,j),(22,k),(23,m),(38,n)] [(4,o),(5,p),(6,q),(9,r),(22,s),(23,t),(38,u)] = [(0,a),(1,b),(2,c),(4,o),(5,p),(6,q),(8,g),(9,r),(17,i),(21,j),(22,s),(23,t),(38,u)] := by intros; rfl
  refine W_to (tr ..) ?_; clear tr
  refine at_seq rfl ?_
  refine rg rfl ?_
  refine Rq ?_
  have tr : ∀ a b c d e f g h i j k m n o : AV, let l := lc_thr_ok a b c d e f g h i j k m n; trim ((23,o)::l) l = [(0,a),(1,b),(2,c),(4,d),(5,e),(6,f),(8,g),(9,h),(17,i),(21,j),(22,k),(23,o),(38,n)] := by intros; rfl
  refine R_nil (tr ..) ?_; clear tr
  refine then_n ?_
  refine at_seq rfl ?_
  refine cdd (fun h2 => ?_) (fun h2 => ?_)
  ·
   try simp only [decide_eq_true_eq, decide_eq_false_iff_not, Bool.not_eq_true', Bool.not_eq_false', beq_iff_eq, beq_eq_false_iff_ne, ne_eq] at h2
   refine at_skip rfl ?_
   refine then_n ?_
   refine at_seq rfl ?_
   refine at_block rfl ?_
   refine at_seq rfl ?_
   refine rg rfl ?_
   refine Rq ?_
   refine Rq ?_
   have tr : ∀ a b c d e f g h i j k m n o p : AV, let l := lc_thr_ok a b c d e f g h i j k m n; trim ((9,p)::(24,o)::l) l = [(0,a),(1,b),(2,c),(4,d),(5,e),(6,f),(8,g),(9,p),(17,i),(21,j),(22,k),(23,m),(38,n)] := by intros; rfl
   refine R_nil (tr ..) ?_; clear tr
   refine then_n ?_
   refine at_seq rfl ?_
   refine rd rfl rfl ?_
   refine Qq ?_
   refine Qq ?_
   refine Qq ?_
   refine Qq ?_
   refine Qp_split (fun h3 => ?_) (fun h3 => ?_)
   ·
    try simp only [decide_eq_true_eq, decide_eq_false_iff_not, Bool.not_eq_true', Bool.not_eq_false', beq_iff_eq, beq_eq_false_iff_ne, ne_eq] at h3
    refine Qy ?_
    refine Qq ?_
    refine Qy ?_
    refine Qq ?_
    refine Qy ?_
    refine Qcall ?_
    refine ACall_eq (most_ok _ _ P L u g (by omega) (by omega)) ?_
    refine ⟨rfl, ?_⟩
    refine Qy ?_
    refine Qq ?_
    refine Qy ?_
    refine Qq ?_
    refine Qy ?_
    refine Qq ?_
    refine Qy ?_
    refine Qq ?_
    refine Qy ?_
    refine Qq ?_
    refine Qy ?_
    refine Qq ?_
    refine Qq ?_
    refine Q_nil ?_
    have tr : ∀ a b c d e f g h i j k m n o p q r s t u v w x y z A B : AV, let l := lc_thr_ok a b c d e f g h i j k m n; trim ((38,B)::(37,A)::(36,z)::(35,y)::(34,x)::(33,w)::(32,v)::(31,u)::(30,t)::(29,s)::(28,r)::(27,q)::(26,p)::(25,o)::l) l = [(0,a),(1,b),(2,c),(4,d),(5,e),(6,f),(8,g),(9,h),(17,i),(21,j),(22,k),(23,m),(38,B)] := by intros; rfl
    refine R_nil (tr ..) ?_; clear tr
    refine then_n ?_
    refine cdd (fun h4 => ?_) (fun h4 => ?_)
    ·
     try simp only [decide_eq_true_eq, decide_eq_false_iff_not, Bool.not_eq_true', Bool.not_eq_false', beq_iff_eq, beq_eq_false_iff_ne, ne_eq] at h4
     refine at_seq rfl ?_
     refine rg rfl ?_
     refine Rq ?_
     refine Rq ?_
     refine Rq ?_
     refine Rq ?_
     have tr : ∀ a b c d e f g h i j k m n o p q r : AV, let l := lc_thr_ok a b c d e f g h i j k m n; trim ((6,r)::(5,q)::(4,p)::(39,o)::l) l = [(0,a),(1,b),(2,c),(4,p),(5,q),(6,r),(8,g),(9,h),(17,i),(21,j),(22,k),(23,m),(38,n)] := by intros; rfl
     refine R_nil (tr ..) ?_; clear tr
     refine then_n ?_
     refine at_ret rfl ?_
     refine blk_r ?_
     refine then_r ?_
     refine then_r ?_
     refine blk_r ?_
     refine then_r ?_
     refine fpure ?_
     refine ⟨rfl, ?_, rfl⟩
     have e := pass_at hq (by omega) (by omega) P.length (by omega)
     rw [thruS, if_neg (fun hh => hh hm0), e, decide_eq_false (by omega)]
    ·
     try simp only [decide_eq_true_eq, decide_eq_false_iff_not, Bool.not_eq_true', Bool.not_eq_false', beq_iff_eq, beq_eq_false_iff_ne, ne_eq] at h4
     refine at_skip rfl ?_
     refine blk_n ?_
     refine then_n ?_
     refine rg rfl ?_
     refine Rq ?_
     refine Rq ?_
     have tr : ∀ a b c d e f g h i j k m n o p : AV, let l := lc_thr_ok a b c d e f g h i j k m n; trim ((22,p)::(40,o)::l) l = [(0,a),(1,b),(2,c),(4,d),(5,e),(6,f),(8,g),(9,h),(17,i),(21,j),(22,p),(23,m),(38,n)] := by intros; rfl
     refine R_nil (tr ..) ?_; clear tr
     refine then_n ?_
     exact ⟨_, _, ⟨u + 1, _, _, _, _, _, _, rfl, rfl, rfl, by omega, by exact pass_on hq (by omega)⟩, by rfl, by omega⟩
   ·
    try simp only [decide_eq_true_eq, decide_eq_false_iff_not, Bool.not_eq_true', Bool.not_eq_false', beq_iff_eq, beq_eq_false_iff_ne, ne_eq] at h3
    refine Qn ?_
    refine Qn ?_
    refine Qn ?_
    refine Qn ?_
    refine Qn ?_
    refine Qn ?_
    refine Qn ?_
    refine Qn ?_
    refine Qn ?_
    refine Qq ?_
    refine Q_nil ?_
    have tr : ∀ a b c d e f g h i j k m n o p q r s t u v w x y z A B : AV, let l := lc_thr_ok a b c d e f g h i j k m n; trim ((38,B)::(37,A)::(36,z)::(35,y)::(34,x)::(33,w)::(32,v)::(31,u)::(30,t)::(29,s)::(28,r)::(27,q)::(26,p)::(25,o)::l) l = [(0,a),(1,b),(2,c),(4,d),(5,e),(6,f),(8,g),(9,h),(17,i),(21,j),(22,k),(23,m),(38,B)] := by intros; rfl
    refine R_nil (tr ..) ?_; clear tr
    refine then_n ?_
    refine cdf ?_
    refine at_skip rfl ?_
    refine blk_n ?_
    refine then_n ?_
    refine rg rfl ?_
    refine Rq ?_
    refine Rq ?_
    have tr : ∀ a b c d e f g h i j k m n o p : AV, let l := lc_thr_ok a b c d e f g h i j k m n; trim ((22,p)::(40,o)::l) l = [(0,a),(1,b),(2,c),(4,d),(5,e),(6,f),(8,g),(9,h),(17,i),(21,j),(22,p),(23,m),(38,n)] := by intros; rfl
    refine R_nil (tr ..) ?_; clear tr
    refine then_n ?_
    exact ⟨_, _, ⟨u + 1, _, _, _, _, _, _, rfl, rfl, rfl, by omega, by exact pass_on hq (by omega)⟩, by rfl, by omega⟩
  ·
   try simp only [decide_eq_true_eq, decide_eq_false_iff_not, Bool.not_eq_true', Bool.not_eq_false', beq_iff_eq, beq_eq_false_iff_ne, ne_eq] at h2
   refine at_exit rfl ?_
   refine then_x ?_
   refine then_x ?_
   refine blk_x ?_
   refine then_n ?_
   refine at_seq rfl ?_
   refine rg rfl ?_
   refine Rq ?_
   refine Rq ?_
   refine Rq ?_
   have tr : ∀ a b c d e f g h i j k m n o p q : AV, let l := lc_thr_ok a b c d e f g h i j k m n; trim ((6,q)::(5,p)::(4,o)::l) l = [(0,a),(1,b),(2,c),(4,o),(5,p),(6,q),(8,g),(9,h),(17,i),(21,j),(22,k),(23,m),(38,n)] := by intros; rfl
   refine R_nil (tr ..) ?_; clear tr
   refine then_n ?_
   refine at_ret rfl ?_
   refine fpure ?_
   refine ⟨rfl, ?_, rfl⟩
   have e : passN P L t P.length = -1 := by rw [show P.length = u by omega]; exact hq
   rw [thruS, if_neg (fun hh => hh hm0), e]
   rfl

theorem thr_ok (lim : Nat) (H : Heap) (P : List Int) (L : List Pr) (t : Int) :
    ACall sig lim 30 [.agg (raceC P L), AV.i t] H fun r H' => r = .tup [.v (.bool (thruS P L t).1), AV.i (thruS P L t).2.1, AV.i (thruS P L t).2.2] ∧ H' = H :=
  thr_x lim H P L t _ (frz_race H P L)

abbrev lc_rthr_ok (a b c d e f g h i j k m n : AV) : Env := [(0,a),(1,b),(2,c),(4,d),(5,e),(6,f),(8,g),(9,h),(17,i),(21,j),(22,k),(23,m),(38,n)]
theorem rthr_ok (lim : Nat) (H : Heap) (P : List Int) (L : List Pr) (t : Int) :
    ACall sig lim 42 [.agg (raceC P L), AV.i t] H fun r H' => r = .tup [.v (.bool (thruS P L t).1), AV.i (thruS P L t).2.1, AV.i (thruS P L t).2.2] ∧ H' = H := by
 refine ACall_pure (fa := fa42) rfl rfl rfl rfl ?_
 have tr : ∀ a0 a1 : AV, env0 fa42.keep [a0, a1] = [(0,a0),(1,a1),(2,.any),(4,.any),(5,.any),(6,.any),(8,.any),(9,.any),(17,.any),(21,.any),(22,.any),(23,.any),(38,.any)] := fun a0 a1 => rfl
 refine W_to (tr _ _) ?_; clear tr
 refine at_seq rfl ?_
 refine rg rfl ?_
 refine R_box rfl (by simp (disch := first | omega | (simp only [List.length_map, List.length_append, List.length_set, List.length_cons, List.length_nil]; omega)) only [go_sem, ↓reduceIte, Nat.reduceEqDiff, reduceCtorEq] <;> rfl) rfl rfl ?_
 refine Rq ?_
 refine Rq ?_
 refine Rq ?_
 have tr : ∀ a b c d e f g h i j k m n o p q r : AV, let l := lc_rthr_ok a b c d e f g h i j k m n; trim ((6,r)::(5,q)::(4,p)::(2,o)::l) l = [(0,a),(1,b),(2,o),(4,p),(5,q),(6,r),(8,g),(9,h),(17,i),(21,j),(22,k),(23,m),(38,n)] := by intros; rfl
 refine R_nil (tr ..) ?_; clear tr
 refine then_n ?_
 refine at_seq rfl ?_
 refine at_seq rfl ?_
 refine rg rfl ?_
 refine Rq ?_
 refine Rq ?_
 refine Rcall ?_
 refine ACall_eq (rmst_ok _ _ P L t) ?_
 refine Rq ?_
 refine Rq ?_
 refine Rq ?_
 refine Rq ?_
 refine Rq ?_
 have tr : ∀ a b c d e f g h i j k m n o p q r s t u v : AV, let l := lc_rthr_ok a b c d e f g h i j k m n; trim ((8,v)::(7,u)::(15,t)::(14,s)::(10,r)::(13,q)::(12,p)::(11,o)::l) l = [(0,a),(1,b),(2,c),(4,d),(5,e),(6,f),(8,v),(9,h),(17,i),(21,j),(22,k),(23,m),(38,n)] := by intros; rfl
 refine R_nil (tr ..) ?_; clear tr
 refine then_n ?_
 refine at_seq rfl ?_
 refine rg rfl ?_
 refine Rq ?_
 refine Rq ?_
 have tr : ∀ a b c d e f g h i j k m n o p : AV, let l := lc_rthr_ok a b c d e f g h i j k m n; trim ((17,p)::(16,o)::l) l = [(0,a),(1,b),(2,c),(4,d),(5,e),(6,f),(8,g),(9,h),(17,p),(21,j),(22,k),(23,m),(38,n)] := by intros; rfl
 refine R_nil (tr ..) ?_; clear tr
 refine then_n ?_
 refine cdd (fun h1 => ?_) (fun h1 => ?_)
 ·
  try simp only [decide_eq_true_eq, decide_eq_false_iff_not, Bool.not_eq_true', Bool.not_eq_false', beq_iff_eq, beq_eq_false_iff_ne, ne_eq] at h1
  refine at_seq rfl ?_
  refine rg rfl ?_
  refine Rq ?_
  refine Rq ?_
  refine Rq ?_
  refine Rq ?_
  have tr : ∀ a b c d e f g h i j k m n o p q r : AV, let l := lc_rthr_ok a b c d e f g h i j k m n; trim ((6,r)::(5,q)::(4,p)::(18,o)::l) l = [(0,a),(1,b),(2,c),(4,p),(5,q),(6,r),(8,g),(9,h),(17,i),(21,j),(22,k),(23,m),(38,n)] := by intros; rfl
  refine R_nil (tr ..) ?_; clear tr
  refine then_n ?_
  refine at_ret rfl ?_
  refine then_r ?_
  refine fpure ?_
  refine ⟨?_, rfl⟩
  rw [thruS, if_pos (by assumption)]
 ·
  try simp only [decide_eq_true_eq, decide_eq_false_iff_not, Bool.not_eq_true', Bool.not_eq_false', beq_iff_eq, beq_eq_false_iff_ne, ne_eq] at h1
  refine at_skip rfl ?_
  refine then_n ?_
  refine at_seq rfl ?_
  refine at_seq rfl ?_
  refine rg rfl ?_
  have hm0 : (mostS P L t).2 = 0 := by assumption
  obtain ⟨g, ht0, ht1⟩ := most_of hm0
  have g20 := g.n20
  refine Rq ?_
  refine Rq ?_
  refine Rq ?_
  refine Rq ?_
  have tr : ∀ a b c d e f g h i j k m n o p q r : AV, let l := lc_rthr_ok a b c d e f g h i j k m n; trim ((22,r)::(21,q)::(20,p)::(19,o)::l) l = [(0,a),(1,b),(2,c),(4,d),(5,e),(6,f),(8,g),(9,h),(17,i),(21,q),(22,r),(23,m),(38,n)] := by intros; rfl
  refine R_nil (tr ..) ?_; clear tr
  refine then_n ?_
  refine at_block rfl ?_
  refine loop_n rfl (fun mm kv H' => ∃ u : Nat, ∃ x4 x5 x6 x9 x23 x38 : AV, (kv = [(4, x4), (5, x5), (6, x6), (9, x9), (22, AV.i u), (23, x23), (38, x38)]) ∧ (mm = P.length - u) ∧ (H' = H ++ [some (raceC P L)]) ∧ (u ≤ P.length) ∧ (passN P L t u = -1)) ⟨0, _, _, _, _, _, _, rfl, rfl, rfl, by omega, by rfl⟩ (by rfl) ?_
  rintro mm kv H' ⟨u, x4, x5, x6, x9, x23, x38, rfl, rfl, rfl, hu, hq⟩
  have tr : ∀ a b c d e f g h i j k m n o p q r s t u : AV, upd [(0,a),(1,b),(2,c),(4,d),(5,e),(6,f),(8,g),(9,h),(17,i),(21,j),(22,k),(23,m),(38,n)] [(4,o),(5,p),(6,q),(9,r),(22,s),(23,t),(38,u)] = [(0,a),(1,b),(2,c),(4,o),(5,p),(6,q),(8,g),(9,r),(17,i),(21,j),(22,s),(23,t),(38,u)] := by intros; rfl
  refine W_to (tr ..) ?_; clear tr
  refine at_seq rfl ?_
  refine rg rfl ?_
  refine Rq ?_
  have tr : ∀ a b c d e f g h i j k m n o : AV, let l := lc_rthr_ok a b c d e f g h i j k m n; trim ((23,o)::l) l = [(0,a),(1,b),(2,c),(4,d),(5,e),(6,f),(8,g),(9,h),(17,i),(21,j),(22,k),(23,o),(38,n)] := by intros; rfl
  refine R_nil (tr ..) ?_; clear tr
  refine then_n ?_
  refine at_seq rfl ?_
  refine cdd (fun h2 => ?_) (fun h2 => ?_)
  ·
   try simp only [decide_eq_true_eq, decide_eq_false_iff_not, Bool.not_eq_true', Bool.not_eq_false', beq_iff_eq, beq_eq_false_iff_ne, ne_eq] at h2
   refine at_skip rfl ?_
   refine then_n ?_
   refine at_seq rfl ?_
   refine at_block rfl ?_
   refine at_seq rfl ?_
   refine rg rfl ?_
   refine Rq ?_
   refine Rq ?_
   have tr : ∀ a b c d e f g h i j k m n o p : AV, let l := lc_rthr_ok a b c d e f g h i j k m n; trim ((9,p)::(24,o)::l) l = [(0,a),(1,b),(2,c),(4,d),(5,e),(6,f),(8,g),(9,p),(17,i),(21,j),(22,k),(23,m),(38,n)] := by intros; rfl
   refine R_nil (tr ..) ?_; clear tr
   refine then_n ?_
   refine at_seq rfl ?_
   refine rd rfl rfl ?_
   refine Qq ?_
   refine Qq ?_
   refine Qq ?_
   refine Qq ?_
   refine Qp_split (fun h3 => ?_) (fun h3 => ?_)
   ·
    try simp only [decide_eq_true_eq, decide_eq_false_iff_not, Bool.not_eq_true', Bool.not_eq_false', beq_iff_eq, beq_eq_false_iff_ne, ne_eq] at h3
    refine Qy ?_
    refine Qq ?_
    refine Qy ?_
    refine Qq ?_
    refine Qy ?_
    refine Qcall ?_
    refine ACall_eq (rmost_ok _ _ P L u g (by omega) (by omega)) ?_
    refine ⟨rfl, ?_⟩
    refine Qy ?_
    refine Qq ?_
    refine Qy ?_
    refine Qq ?_
    refine Qy ?_
    refine Qq ?_
    refine Qy ?_
    refine Qq ?_
    refine Qy ?_
    refine Qq ?_
    refine Qy ?_
    refine Qq ?_
    refine Qq ?_
    refine Q_nil ?_
    have tr : ∀ a b c d e f g h i j k m n o p q r s t u v w x y z A B : AV, let l := lc_rthr_ok a b c d e f g h i j k m n; trim ((38,B)::(37,A)::(36,z)::(35,y)::(34,x)::(33,w)::(32,v)::(31,u)::(30,t)::(29,s)::(28,r)::(27,q)::(26,p)::(25,o)::l) l = [(0,a),(1,b),(2,c),(4,d),(5,e),(6,f),(8,g),(9,h),(17,i),(21,j),(22,k),(23,m),(38,B)] := by intros; rfl
    refine R_nil (tr ..) ?_; clear tr
    refine then_n ?_
    refine cdd (fun h4 => ?_) (fun h4 => ?_)
    ·
     try simp only [decide_eq_true_eq, decide_eq_false_iff_not, Bool.not_eq_true', Bool.not_eq_false', beq_iff_eq, beq_eq_false_iff_ne, ne_eq] at h4
     refine at_seq rfl ?_
     refine rg rfl ?_
     refine Rq ?_
     refine Rq ?_
     refine Rq ?_
     refine Rq ?_
     have tr : ∀ a b c d e f g h i j k m n o p q r : AV, let l := lc_rthr_ok a b c d e f g h i j k m n; trim ((6,r)::(5,q)::(4,p)::(39,o)::l) l = [(0,a),(1,b),(2,c),(4,p),(5,q),(6,r),(8,g),(9,h),(17,i),(21,j),(22,k),(23,m),(38,n)] := by intros; rfl
     refine R_nil (tr ..) ?_; clear tr
     refine then_n ?_
     refine at_ret rfl ?_
     refine blk_r ?_
     refine then_r ?_
     refine then_r ?_
     refine blk_r ?_
     refine then_r ?_
     refine fpure ?_
     refine ⟨?_, rfl⟩
     have e := pass_at hq (by omega) (by omega) P.length (by omega)
     rw [thruS, if_neg (fun hh => hh hm0), e, decide_eq_false (by omega)]
    ·
     try simp only [decide_eq_true_eq, decide_eq_false_iff_not, Bool.not_eq_true', Bool.not_eq_false', beq_iff_eq, beq_eq_false_iff_ne, ne_eq] at h4
     refine at_skip rfl ?_
     refine blk_n ?_
     refine then_n ?_
     refine rg rfl ?_
     refine Rq ?_
     refine Rq ?_
     have tr : ∀ a b c d e f g h i j k m n o p : AV, let l := lc_rthr_ok a b c d e f g h i j k m n; trim ((22,p)::(40,o)::l) l = [(0,a),(1,b),(2,c),(4,d),(5,e),(6,f),(8,g),(9,h),(17,i),(21,j),(22,p),(23,m),(38,n)] := by intros; rfl
     refine R_nil (tr ..) ?_; clear tr
     refine then_n ?_
     exact ⟨_, _, ⟨u + 1, _, _, _, _, _, _, rfl, rfl, rfl, by omega, by exact pass_on hq (by omega)⟩, by rfl, by omega⟩
   ·
    try simp only [decide_eq_true_eq, decide_eq_false_iff_not, Bool.not_eq_true', Bool.not_eq_false', beq_iff_eq, beq_eq_false_iff_ne, ne_eq] at h3
    refine Qn ?_
    refine Qn ?_
    refine Qn ?_
    refine Qn ?_
    refine Qn ?_
    refine Qn ?_
    refine Qn ?_
    refine Qn ?_
    refine Qn ?_
    refine Qq ?_
    refine Q_nil ?_
    have tr : ∀ a b c d e f g h i j k m n o p q r s t u v w x y z A B : AV, let l := lc_rthr_ok a b c d e f g h i j k m n; trim ((38,B)::(37,A)::(36,z)::(35,y)::(34,x)::(33,w)::(32,v)::(31,u)::(30,t)::(29,s)::(28,r)::(27,q)::(26,p)::(25,o)::l) l = [(0,a),(1,b),(2,c),(4,d),(5,e),(6,f),(8,g),(9,h),(17,i),(21,j),(22,k),(23,m),(38,B)] := by intros; rfl
    refine R_nil (tr ..) ?_; clear tr
    refine then_n ?_
    refine cdf ?_
    refine at_skip rfl ?_
    refine blk_n ?_
    refine then_n ?_
    refine rg rfl ?_
    refine Rq ?_
    refine Rq ?_
    have tr : ∀ a b c d e f g h i j k m n o p : AV, let l := lc_rthr_ok a b c d e f g h i j k m n; trim ((22,p)::(40,o)::l) l = [(0,a),(1,b),(2,c),(4,d),(5,e),(6,f),(8,g),(9,h),(17,i),(21,j),(22,p),(23,m),(38,n)] := by intros; rfl
    refine R_nil (tr ..) ?_; clear tr
    refine then_n ?_
    exact ⟨_, _, ⟨u + 1, _, _, _, _, _, _, rfl, rfl, rfl, by omega, by exact pass_on hq (by omega)⟩, by rfl, by omega⟩
  ·
   try simp only [decide_eq_true_eq, decide_eq_false_iff_not, Bool.not_eq_true', Bool.not_eq_false', beq_iff_eq, beq_eq_false_iff_ne, ne_eq] at h2
   refine at_exit rfl ?_
   refine then_x ?_
   refine then_x ?_
   refine blk_x ?_
   refine then_n ?_
   refine at_seq rfl ?_
   refine rg rfl ?_
   refine Rq ?_
   refine Rq ?_
   refine Rq ?_
   have tr : ∀ a b c d e f g h i j k m n o p q : AV, let l := lc_rthr_ok a b c d e f g h i j k m n; trim ((6,q)::(5,p)::(4,o)::l) l = [(0,a),(1,b),(2,c),(4,o),(5,p),(6,q),(8,g),(9,h),(17,i),(21,j),(22,k),(23,m),(38,n)] := by intros; rfl
   refine R_nil (tr ..) ?_; clear tr
   refine then_n ?_
   refine at_ret rfl ?_
   refine fpure ?_
   refine ⟨?_, rfl⟩
   have e : passN P L t P.length = -1 := by rw [show P.length = u by omega]; exact hq
   rw [thruS, if_neg (fun hh => hh hm0), e]
   rfl

end Go.Proofs.Ytdicnojnkbmdlaa
end
section
namespace Go.Proofs.Ytdicnojnkbmdlaa
open Go Go.Am
set_option maxRecDepth 100000
theorem awake53_ok (lim : Nat) (H : Heap) : acall sig 400 lim 33 [] H = some (.v (.bool true), H) := by kernel_rfl
end Go.Proofs.Ytdicnojnkbmdlaa
end
section
set_option linter.unusedSimpArgs false
set_option linter.unusedVariables false
set_option maxHeartbeats 40000000
set_option maxRecDepth 4000
namespace Go.Proofs.Ytdicnojnkbmdlaa
open Go Go.Am

abbrev lc_stays_ok (a b c d e f g h i j k m n o p q r s t u v : AV) : Env := [(0,a),(1,b),(2,c),(3,d),(6,e),(7,f),(8,g),(9,h),(11,i),(12,j),(13,k),(14,m),(15,n),(16,o),(18,p),(20,q),(23,r),(42,s),(51,t),(55,u),(114,v)]
theorem stays_ok (lim : Nat) (H : Heap) (P : List Int) (L : List Pr) (t : Int) (x : Int) (hx0 : 0 ≤ x) (hx1 : x ≤ 255) : ACall sig lim 9 [.agg (raceC P L), AV.i t, .v (.int .u8 x)] H fun r _ => r = .v (.bool true) := by
 have q0 : True := trivial
 have q7 : True := trivial
 have qn : True := trivial
 have qp : True := trivial
 have qw : True := trivial
 refine ACall_pure (fa := fa9) rfl rfl rfl rfl ?_
 have tr : ∀ a0 a1 a2 : AV, env0 fa9.keep [a0, a1, a2] = [(0,a0),(1,a1),(2,a2),(3,.any),(6,.any),(7,.any),(8,.any),(9,.any),(11,.any),(12,.any),(13,.any),(14,.any),(15,.any),(16,.any),(18,.any),(20,.any),(23,.any),(42,.any),(51,.any),(55,.any),(114,.any)] := fun a0 a1 a2 => rfl
 refine W_to (tr _ _ _) ?_; clear tr
 refine at_seq rfl ?_
 refine rg rfl ?_
 refine A_box rfl (by simp (disch := first | omega | (simp only [List.length_map, List.length_append, List.length_set, List.length_cons, List.length_nil]; omega)) only [go_sem, ↓reduceIte, Nat.reduceEqDiff, reduceCtorEq] <;> rfl) ?_
 intro H1 n0
 have en0 := n0.len
 have q0 := n0.new
 refine Rq ?_
 have tr : ∀ a b c d e f g h i j k m n o p q r s t u v w x : AV, let l := lc_stays_ok a b c d e f g h i j k m n o p q r s t u v; trim ((6,x)::(3,w)::l) l = [(0,a),(1,b),(2,c),(3,w),(6,x),(7,f),(8,g),(9,h),(11,i),(12,j),(13,k),(14,m),(15,n),(16,o),(18,p),(20,q),(23,r),(42,s),(51,t),(55,u),(114,v)] := by intros; rfl
 refine R_nil (tr ..) ?_; clear tr
 refine then_n ?_
 refine at_seq rfl ?_
 refine at_seq rfl ?_
 refine rg rfl ?_
 refine Rcall ?_
 refine ACall_eval 400 (awake53_ok _ _) ?_
 refine Rq ?_
 have tr : ∀ a b c d e f g h i j k m n o p q r s t u v w x : AV, let l := lc_stays_ok a b c d e f g h i j k m n o p q r s t u v; trim ((20,x)::(19,w)::l) l = [(0,a),(1,b),(2,c),(3,d),(6,e),(7,f),(8,g),(9,h),(11,i),(12,j),(13,k),(14,m),(15,n),(16,o),(18,p),(20,x),(23,r),(42,s),(51,t),(55,u),(114,v)] := by intros; rfl
 refine R_nil (tr ..) ?_; clear tr
 refine then_n ?_
 refine cdf ?_
 refine at_skip rfl ?_
 refine then_n ?_
 refine at_seq rfl ?_
 refine at_seq rfl ?_
 refine rg rfl ?_
 refine R_q rfl (by simp (disch := first | omega | (simp only [List.length_map, List.length_append, List.length_set, List.length_cons, List.length_nil]; omega)) only [go_sem, ↓reduceIte, Nat.reduceEqDiff, reduceCtorEq, q0, q7, qn, qp, qw] <;> rfl) ?_
 refine Rcall ?_
 refine ACall_eq (small53_ok _ _ P L) ?_
 refine Rq ?_
 have tr : ∀ a b c d e f g h i j k m n o p q r s t u v w x y : AV, let l := lc_stays_ok a b c d e f g h i j k m n o p q r s t u v; trim ((23,y)::(22,x)::(21,w)::l) l = [(0,a),(1,b),(2,c),(3,d),(6,e),(7,f),(8,g),(9,h),(11,i),(12,j),(13,k),(14,m),(15,n),(16,o),(18,p),(20,q),(23,y),(42,s),(51,t),(55,u),(114,v)] := by intros; rfl
 refine R_nil (tr ..) ?_; clear tr
 refine then_n ?_
 refine cdd (fun h1 => ?_) (fun h1 => ?_)
 ·
  try simp only [decide_eq_true_eq, decide_eq_false_iff_not, Bool.not_eq_true', Bool.not_eq_false', beq_iff_eq, beq_eq_false_iff_ne, ne_eq] at h1
  refine at_seq rfl ?_
  refine rg rfl ?_
  refine Rq ?_
  have tr : ∀ a b c d e f g h i j k m n o p q r s t u v w : AV, let l := lc_stays_ok a b c d e f g h i j k m n o p q r s t u v; trim ((6,w)::l) l = [(0,a),(1,b),(2,c),(3,d),(6,w),(7,f),(8,g),(9,h),(11,i),(12,j),(13,k),(14,m),(15,n),(16,o),(18,p),(20,q),(23,r),(42,s),(51,t),(55,u),(114,v)] := by intros; rfl
  refine R_nil (tr ..) ?_; clear tr
  refine then_n ?_
  refine at_ret rfl ?_
  refine then_r ?_
  refine fpure ?_
  first | rfl | (simp; done) | exact congrArg _ (congrArg _ (by simp_all))
 ·
  try simp only [decide_eq_true_eq, decide_eq_false_iff_not, Bool.not_eq_true', Bool.not_eq_false', beq_iff_eq, beq_eq_false_iff_ne, ne_eq] at h1
  refine at_skip rfl ?_
  refine then_n ?_
  refine at_seq rfl ?_
  refine rg rfl ?_
  refine R_q rfl (by simp (disch := first | omega | (simp only [List.length_map, List.length_append, List.length_set, List.length_cons, List.length_nil]; omega)) only [go_sem, ↓reduceIte, Nat.reduceEqDiff, reduceCtorEq, q0, q7, qn, qp, qw] <;> rfl) ?_
  refine Rq ?_
  refine Rcall ?_
  refine ACall_mono (first_ok _ _ P L t) ?_
  rintro r H6 ⟨⟨R1, o1, rfl, hv1⟩, rfl⟩
  obtain ⟨ho1, hl1⟩ := firstP_o hv1
  refine Rq ?_
  refine Rq ?_
  refine Rq ?_
  refine A_alloc rfl ?_
  intro H2 n1
  have en1 := n1.len
  have q0 := (n1.old _ (hget_lt q0)).trans q0
  have q7 := n1.new
  have lq0 := hget_lt q0
  have lq7 := hget_lt q7
  refine A_store ty46 (by simp (disch := first | omega | (simp only [List.length_map, List.length_append, List.length_set, List.length_cons, List.length_nil]; omega)) only [go_sem, ↓reduceIte, Nat.reduceEqDiff, reduceCtorEq, q0, q7, qn, qp, qw] <;> rfl) (by simp (disch := first | omega | (simp only [List.length_map, List.length_append, List.length_set, List.length_cons, List.length_nil]; omega)) only [go_sem, ↓reduceIte, Nat.reduceEqDiff, reduceCtorEq, q0, q7, qn, qp, qw, Bool.and_self, storA (firstS P L t), ho1.stor] <;> rfl) q7 ⟨by omega, rfl, by first | exact Nat.le_refl _ | simp⟩ (show _ = [.v (.bool (firstB P L t)), outA (firstS P L t), o1] from rfl) ?_
  intro H3 w1
  have ew1 := w1.len
  have q0 := (w1.old _ (by omega)).trans q0
  have q7 := w1.new
  refine Rq ?_
  have tr : ∀ a b c d e f g h i j k m n o p q r s t u v w x y z A B C D : AV, let l := lc_stays_ok a b c d e f g h i j k m n o p q r s t u v; trim ((8,D)::(7,C)::(29,B)::(28,A)::(24,z)::(27,y)::(26,x)::(25,w)::l) l = [(0,a),(1,b),(2,c),(3,d),(6,e),(7,C),(8,D),(9,h),(11,i),(12,j),(13,k),(14,m),(15,n),(16,o),(18,p),(20,q),(23,r),(42,s),(51,t),(55,u),(114,v)] := by intros; rfl
  refine R_nil (tr ..) ?_; clear tr
  refine then_n ?_
  refine at_seq rfl ?_
  refine rg rfl ?_
  refine R_q rfl (by simp (disch := first | omega | (simp only [List.length_map, List.length_append, List.length_set, List.length_cons, List.length_nil]; omega)) only [go_sem, ↓reduceIte, Nat.reduceEqDiff, reduceCtorEq, q0, q7, qn, qp, qw] <;> rfl) ?_
  refine Rq ?_
  refine Rcall ?_
  refine ACall_eq (thr_ok _ _ P L t) ?_
  rewrite [thru_err]
  refine Rq ?_
  refine Rq ?_
  refine Rq ?_
  refine Rq ?_
  refine Rq ?_
  refine Rq ?_
  refine Rq ?_
  have tr : ∀ a b c d e f g h i j k m n o p q r s t u v w x y z A B C D E F : AV, let l := lc_stays_ok a b c d e f g h i j k m n o p q r s t u v; trim ((11,F)::(10,E)::(9,D)::(36,C)::(35,B)::(34,A)::(30,z)::(33,y)::(32,x)::(31,w)::l) l = [(0,a),(1,b),(2,c),(3,d),(6,e),(7,f),(8,g),(9,D),(11,F),(12,j),(13,k),(14,m),(15,n),(16,o),(18,p),(20,q),(23,r),(42,s),(51,t),(55,u),(114,v)] := by intros; rfl
  refine R_nil (tr ..) ?_; clear tr
  refine then_n ?_
  refine at_seq rfl ?_
  refine at_seq rfl ?_
  refine rg rfl ?_
  refine Rq ?_
  refine Rq ?_
  refine Rq ?_
  refine Rp_split (fun h2 => ?_) (fun h2 => ?_)
  ·
   try simp only [decide_eq_true_eq, decide_eq_false_iff_not, Bool.not_eq_true', Bool.not_eq_false', beq_iff_eq, beq_eq_false_iff_ne, ne_eq] at h2
   refine Rn ?_
   refine Rn ?_
   refine Rq ?_
   have tr : ∀ a b c d e f g h i j k m n o p q r s t u v w x y z A B : AV, let l := lc_stays_ok a b c d e f g h i j k m n o p q r s t u v; trim ((42,B)::(41,A)::(40,z)::(39,y)::(38,x)::(37,w)::l) l = [(0,a),(1,b),(2,c),(3,d),(6,e),(7,f),(8,g),(9,h),(11,i),(12,j),(13,k),(14,m),(15,n),(16,o),(18,p),(20,q),(23,r),(42,B),(51,t),(55,u),(114,v)] := by intros; rfl
   refine R_nil (tr ..) ?_; clear tr
   refine then_n ?_
   refine cdt ?_
   refine at_seq rfl ?_
   refine rg rfl ?_
   refine Rq ?_
   refine Rq ?_
   refine Rq ?_
   refine Rq ?_
   have tr : ∀ a b c d e f g h i j k m n o p q r s t u v w x y z : AV, let l := lc_stays_ok a b c d e f g h i j k m n o p q r s t u v; trim ((6,z)::(45,y)::(44,x)::(43,w)::l) l = [(0,a),(1,b),(2,c),(3,d),(6,z),(7,f),(8,g),(9,h),(11,i),(12,j),(13,k),(14,m),(15,n),(16,o),(18,p),(20,q),(23,r),(42,s),(51,t),(55,u),(114,v)] := by intros; rfl
   refine R_nil (tr ..) ?_; clear tr
   refine then_n ?_
   refine at_ret rfl ?_
   refine then_r ?_
   refine fpure ?_
   first | rfl | (simp; done) | exact congrArg _ (congrArg _ (by simp_all))
  ·
   try simp only [decide_eq_true_eq, decide_eq_false_iff_not, Bool.not_eq_true', Bool.not_eq_false', beq_iff_eq, beq_eq_false_iff_ne, ne_eq] at h2
   refine Ry ?_
   refine Rq ?_
   refine Ry ?_
   refine Rq ?_
   refine Rq ?_
   have tr : ∀ a b c d e f g h i j k m n o p q r s t u v w x y z A B : AV, let l := lc_stays_ok a b c d e f g h i j k m n o p q r s t u v; trim ((42,B)::(41,A)::(40,z)::(39,y)::(38,x)::(37,w)::l) l = [(0,a),(1,b),(2,c),(3,d),(6,e),(7,f),(8,g),(9,h),(11,i),(12,j),(13,k),(14,m),(15,n),(16,o),(18,p),(20,q),(23,r),(42,B),(51,t),(55,u),(114,v)] := by intros; rfl
   refine R_nil (tr ..) ?_; clear tr
   refine then_n ?_
   refine cdd (fun h3 => ?_) (fun h3 => ?_)
   ·
    try simp only [decide_eq_true_eq, decide_eq_false_iff_not, Bool.not_eq_true', Bool.not_eq_false', beq_iff_eq, beq_eq_false_iff_ne, ne_eq] at h3
    refine at_seq rfl ?_
    refine rg rfl ?_
    refine Rq ?_
    refine Rq ?_
    refine Rq ?_
    refine Rq ?_
    have tr : ∀ a b c d e f g h i j k m n o p q r s t u v w x y z : AV, let l := lc_stays_ok a b c d e f g h i j k m n o p q r s t u v; trim ((6,z)::(45,y)::(44,x)::(43,w)::l) l = [(0,a),(1,b),(2,c),(3,d),(6,z),(7,f),(8,g),(9,h),(11,i),(12,j),(13,k),(14,m),(15,n),(16,o),(18,p),(20,q),(23,r),(42,s),(51,t),(55,u),(114,v)] := by intros; rfl
    refine R_nil (tr ..) ?_; clear tr
    refine then_n ?_
    refine at_ret rfl ?_
    refine then_r ?_
    refine fpure ?_
    first | rfl | (simp; done) | exact congrArg _ (congrArg _ (by simp_all))
   ·
    try simp only [decide_eq_true_eq, decide_eq_false_iff_not, Bool.not_eq_true', Bool.not_eq_false', beq_iff_eq, beq_eq_false_iff_ne, ne_eq] at h3
    refine at_skip rfl ?_
    refine then_n ?_
    refine at_seq rfl ?_
    refine at_seq rfl ?_
    refine rg rfl ?_
    have hm0 : (mostS P L t).2 = 0 := by assumption
    obtain ⟨g, t0, t1⟩ := most_of hm0
    have g20 := g.n20
    have gel := g.el
    have hfc := first_can hm0 hv1
    have hti := thru_iff hm0
    have hen : L = [] → canBe P L t → allBe P L t := stay_nil
    have hcz : allBe P L t → canBe P L t := can_zero
    refine Rq ?_
    refine Rq ?_
    refine Rp_split (fun h4 => ?_) (fun h4 => ?_)
    ·
     try simp only [decide_eq_true_eq, decide_eq_false_iff_not, Bool.not_eq_true', Bool.not_eq_false', beq_iff_eq, beq_eq_false_iff_ne, ne_eq] at h4
     refine Ry ?_
     refine Rq ?_
     refine Ry ?_
     refine R_q rfl (by simp (disch := first | omega | (simp only [List.length_map, List.length_append, List.length_set, List.length_cons, List.length_nil]; omega)) only [go_sem, ↓reduceIte, Nat.reduceEqDiff, reduceCtorEq, q0, q7, qn, qp, qw] <;> rfl) ?_
     refine Ry ?_
     refine Rq ?_
     refine Rq ?_
     have tr : ∀ a b c d e f g h i j k m n o p q r s t u v w x y z A B : AV, let l := lc_stays_ok a b c d e f g h i j k m n o p q r s t u v; trim ((51,B)::(50,A)::(49,z)::(48,y)::(47,x)::(46,w)::l) l = [(0,a),(1,b),(2,c),(3,d),(6,e),(7,f),(8,g),(9,h),(11,i),(12,j),(13,k),(14,m),(15,n),(16,o),(18,p),(20,q),(23,r),(42,s),(51,B),(55,u),(114,v)] := by intros; rfl
     refine R_nil (tr ..) ?_; clear tr
     refine then_n ?_
     refine cdd (fun h5 => ?_) (fun h5 => ?_)
     ·
      try simp only [decide_eq_true_eq, decide_eq_false_iff_not, Bool.not_eq_true', Bool.not_eq_false', beq_iff_eq, beq_eq_false_iff_ne, ne_eq] at h5
      refine at_seq rfl ?_
      refine rg rfl ?_
      refine Rq ?_
      have tr : ∀ a b c d e f g h i j k m n o p q r s t u v w : AV, let l := lc_stays_ok a b c d e f g h i j k m n o p q r s t u v; trim ((6,w)::l) l = [(0,a),(1,b),(2,c),(3,d),(6,w),(7,f),(8,g),(9,h),(11,i),(12,j),(13,k),(14,m),(15,n),(16,o),(18,p),(20,q),(23,r),(42,s),(51,t),(55,u),(114,v)] := by intros; rfl
      refine R_nil (tr ..) ?_; clear tr
      refine then_n ?_
      refine at_ret rfl ?_
      refine then_r ?_
      refine fpure ?_
      first | rfl | (simp; done) | exact congrArg _ (congrArg _ (by simp_all))
     ·
      try simp only [decide_eq_true_eq, decide_eq_false_iff_not, Bool.not_eq_true', Bool.not_eq_false', beq_iff_eq, beq_eq_false_iff_ne, ne_eq] at h5
      refine at_skip rfl ?_
      refine then_n ?_
      refine at_seq rfl ?_
      refine at_seq rfl ?_
      refine rg rfl ?_
      refine Rq ?_
      refine R_q rfl (by simp (disch := first | omega | (simp only [List.length_map, List.length_append, List.length_set, List.length_cons, List.length_nil]; omega)) only [go_sem, ↓reduceIte, Nat.reduceEqDiff, reduceCtorEq, q0, q7, qn, qp, qw] <;> rfl) ?_
      refine Rq ?_
      refine Rq ?_
      have tr : ∀ a b c d e f g h i j k m n o p q r s t u v w x y z : AV, let l := lc_stays_ok a b c d e f g h i j k m n o p q r s t u v; trim ((55,z)::(54,y)::(53,x)::(52,w)::l) l = [(0,a),(1,b),(2,c),(3,d),(6,e),(7,f),(8,g),(9,h),(11,i),(12,j),(13,k),(14,m),(15,n),(16,o),(18,p),(20,q),(23,r),(42,s),(51,t),(55,z),(114,v)] := by intros; rfl
      refine R_nil (tr ..) ?_; clear tr
      refine then_n ?_
      refine cdd (fun h6 => ?_) (fun h6 => ?_)
      ·
       try simp only [decide_eq_true_eq, decide_eq_false_iff_not, Bool.not_eq_true', Bool.not_eq_false', beq_iff_eq, beq_eq_false_iff_ne, ne_eq] at h6
       refine at_seq rfl ?_
       refine rg rfl ?_
       refine Rq ?_
       refine Rq ?_
       refine R_q rfl (by simp (disch := first | omega | (simp only [List.length_map, List.length_append, List.length_set, List.length_cons, List.length_nil]; omega)) only [go_sem, ↓reduceIte, Nat.reduceEqDiff, reduceCtorEq, q0, q7, qn, qp, qw] <;> rfl) ?_
       refine Rq ?_
       refine Rq ?_
       have tr : ∀ a b c d e f g h i j k m n o p q r s t u v w x y z A : AV, let l := lc_stays_ok a b c d e f g h i j k m n o p q r s t u v; trim ((6,A)::(59,z)::(58,y)::(57,x)::(56,w)::l) l = [(0,a),(1,b),(2,c),(3,d),(6,A),(7,f),(8,g),(9,h),(11,i),(12,j),(13,k),(14,m),(15,n),(16,o),(18,p),(20,q),(23,r),(42,s),(51,t),(55,u),(114,v)] := by intros; rfl
       refine R_nil (tr ..) ?_; clear tr
       refine then_n ?_
       refine at_ret rfl ?_
       refine then_r ?_
       refine fpure ?_
       first | rfl | (simp; done) | exact congrArg _ (congrArg _ (by simp_all))
      ·
       try simp only [decide_eq_true_eq, decide_eq_false_iff_not, Bool.not_eq_true', Bool.not_eq_false', beq_iff_eq, beq_eq_false_iff_ne, ne_eq] at h6
       refine at_skip rfl ?_
       refine then_n ?_
       refine at_seq rfl ?_
       refine rg rfl ?_
       have he := g.ed 0 (by omega)
       have hpa := g.pt (gt L 0).a.toNat (by omega)
       have hpb := g.pt (gt L 0).b.toNat (by omega)
       have hxm : 0 ≤ x % 3 ∧ x % 3 ≤ 2 := by omega
       refine Rq ?_
       refine Rq ?_
       refine Rq ?_
       refine Rq ?_
       have tr : ∀ a b c d e f g h i j k m n o p q r s t u v w x y z : AV, let l := lc_stays_ok a b c d e f g h i j k m n o p q r s t u v; trim ((12,z)::(62,y)::(61,x)::(60,w)::l) l = [(0,a),(1,b),(2,c),(3,d),(6,e),(7,f),(8,g),(9,h),(11,i),(12,z),(13,k),(14,m),(15,n),(16,o),(18,p),(20,q),(23,r),(42,s),(51,t),(55,u),(114,v)] := by intros; rfl
       refine R_nil (tr ..) ?_; clear tr
       refine then_n ?_
       refine at_seq rfl ?_
       refine rls2 rfl rfl ?_
       refine Lq ?_
       refine L_q rfl (by simp (disch := first | omega | (simp only [List.length_map, List.length_append, List.length_set, List.length_cons, List.length_nil]; omega)) only [go_sem, ↓reduceIte, Nat.reduceEqDiff, reduceCtorEq, q0, q7, qn, qp, qw] <;> rfl) rfl ?_
       refine Lq ?_
       refine L_q rfl (by simp (disch := first | omega | (simp only [List.length_map, List.length_append, List.length_set, List.length_cons, List.length_nil]; omega)) only [go_sem, ↓reduceIte, Nat.reduceEqDiff, reduceCtorEq, q0, q7, qn, qp, qw] <;> rfl) rfl ?_
       refine L_q rfl (by simp (disch := first | omega | (simp only [List.length_map, List.length_append, List.length_set, List.length_cons, List.length_nil]; omega)) only [go_sem, ↓reduceIte, Nat.reduceEqDiff, reduceCtorEq, q0, q7, qn, qp, qw]; exact slT L (by omega)) rfl ?_
       refine L_nil ?_
       refine R_buildSlice (bs40e _ _ _) ?_
       refine R_append (by simp (disch := first | omega | (simp only [List.length_map, List.length_append, List.length_set, List.length_cons, List.length_nil]; omega)) only [go_sem, ↓reduceIte, Nat.reduceEqDiff, reduceCtorEq, q0, q7, qn, qp, qw]; exact appA (Nat.le_refl _) (by omega)) ?_
       refine Rq ?_
       refine R_alloc (by simp (disch := first | omega | (simp only [List.length_map, List.length_append, List.length_set, List.length_cons, List.length_nil]; omega)) only [go_sem, ↓reduceIte, Nat.reduceEqDiff, reduceCtorEq, q0, q7, qn, qp, qw] <;> rfl) rfl (by simp only [List.map_cons, List.map_nil]; rfl) ?_
       refine R_end ⟨?_, ?_⟩
       ·
        refine ⟨?_, ?_⟩
        ·
         refine R_buildSlice (bs40e _ _ _) ?_
         refine R_append (by simp (disch := first | omega | (simp only [List.length_map, List.length_append, List.length_set, List.length_cons, List.length_nil]; omega)) only [go_sem, ↓reduceIte, Nat.reduceEqDiff, reduceCtorEq, q0, q7, qn, qp, qw]; exact appA (Nat.le_refl _) (by omega)) ?_
         refine R_alloc (by simp (disch := first | omega | (simp only [List.length_map, List.length_append, List.length_set, List.length_cons, List.length_nil]; omega)) only [go_sem, ↓reduceIte, Nat.reduceEqDiff, reduceCtorEq, q0, q7, qn, qp, qw] <;> rfl) rfl (by simp only [List.map_cons, List.map_nil]; rfl) ?_
         refine Rq ?_
         refine R_end ?_
         refine three_A (H := H3) (A := P.map AV.i) (B := [nilP, nilP]) (ints_ren P) (fun f => rfl) ?_
         intro t2 ht
         simp only [List.mem_cons, List.not_mem_nil, or_false] at ht
         rcases ht with rfl | rfl
         · simp only [get_cons, put_some, ↓reduceIte, Nat.reduceEqDiff, hlen2, hlen1, ren_pp, ren_own8, ren_ptr8]
           first | rfl | (simp only [rnB_add, rnB_zero, ix_A1, ix_A2, ix_C1, ix_C2, ix_D0, ix_D2, Nat.add_zero, Nat.add_assoc, Nat.reduceAdd]; done) | (simp only [rnB_add, rnB_zero, ix_A1, ix_A2, ix_C1, ix_C2, ix_D0, ix_D2, Nat.add_zero, Nat.add_assoc, Nat.reduceAdd]; rfl)
         · simp only [get_cons, put_some, ↓reduceIte, Nat.reduceEqDiff, hlen2, hlen1, ren_pp, ren_own8, ren_ptr8]
           first | rfl | (simp only [rnB_add, rnB_zero, ix_A1, ix_A2, ix_C1, ix_C2, ix_D0, ix_D2, Nat.add_zero, Nat.add_assoc, Nat.reduceAdd]; done) | (simp only [rnB_add, rnB_zero, ix_A1, ix_A2, ix_C1, ix_C2, ix_D0, ix_D2, Nat.add_zero, Nat.add_assoc, Nat.reduceAdd]; rfl)
        refine ⟨?_, ?_⟩
        ·
         refine R_buildSlice (bs40e _ _ _) ?_
         refine R_alloc (by simp (disch := first | omega | (simp only [List.length_map, List.length_append, List.length_set, List.length_cons, List.length_nil]; omega)) only [go_sem, ↓reduceIte, Nat.reduceEqDiff, reduceCtorEq, q0, q7, qn, qp, qw] <;> rfl) rfl (by simp only [List.map_cons, List.map_nil]; rfl) ?_
         refine R_append (by simp (disch := first | omega | (simp only [List.length_map, List.length_append, List.length_set, List.length_cons, List.length_nil]; omega)) only [go_sem, ↓reduceIte, Nat.reduceEqDiff, reduceCtorEq, q0, q7, qn, qp, qw]; exact appC (Nat.le_refl _) (by omega)) ?_
         refine Rq ?_
         refine R_end ?_
         refine three_C (H := H3) (A := P.map AV.i) (B := [nilP, nilP]) (ints_ren P) (fun f => rfl) ?_
         intro t2 ht
         simp only [List.mem_cons, List.not_mem_nil, or_false] at ht
         rcases ht with rfl | rfl
         · simp only [get_cons, put_some, ↓reduceIte, Nat.reduceEqDiff, hlen2, hlen1, ren_pp, ren_own8, ren_ptr8]
           first | rfl | (simp only [rnB_add, rnB_zero, ix_A1, ix_A2, ix_C1, ix_C2, ix_D0, ix_D2, Nat.add_zero, Nat.add_assoc, Nat.reduceAdd]; done) | (simp only [rnB_add, rnB_zero, ix_A1, ix_A2, ix_C1, ix_C2, ix_D0, ix_D2, Nat.add_zero, Nat.add_assoc, Nat.reduceAdd]; rfl)
         · simp only [get_cons, put_some, ↓reduceIte, Nat.reduceEqDiff, hlen2, hlen1, ren_pp, ren_own8, ren_ptr8]
           first | rfl | (simp only [rnB_add, rnB_zero, ix_A1, ix_A2, ix_C1, ix_C2, ix_D0, ix_D2, Nat.add_zero, Nat.add_assoc, Nat.reduceAdd]; done) | (simp only [rnB_add, rnB_zero, ix_A1, ix_A2, ix_C1, ix_C2, ix_D0, ix_D2, Nat.add_zero, Nat.add_assoc, Nat.reduceAdd]; rfl)
        refine ⟨?_, ?_⟩
        ·
         refine R_alloc (by simp (disch := first | omega | (simp only [List.length_map, List.length_append, List.length_set, List.length_cons, List.length_nil]; omega)) only [go_sem, ↓reduceIte, Nat.reduceEqDiff, reduceCtorEq, q0, q7, qn, qp, qw] <;> rfl) rfl (by simp only [List.map_cons, List.map_nil]; rfl) ?_
         refine R_buildSlice (bs40e _ _ _) ?_
         refine R_append (by simp (disch := first | omega | (simp only [List.length_map, List.length_append, List.length_set, List.length_cons, List.length_nil]; omega)) only [go_sem, ↓reduceIte, Nat.reduceEqDiff, reduceCtorEq, q0, q7, qn, qp, qw]; exact appD (Nat.le_refl _) (by omega)) ?_
         refine Rq ?_
         refine R_end ?_
         refine three_D (H := H3) (A := P.map AV.i) (B := [nilP, nilP]) (ints_ren P) (fun f => rfl) ?_
         intro t2 ht
         simp only [List.mem_cons, List.not_mem_nil, or_false] at ht
         rcases ht with rfl | rfl
         · simp only [get_cons, put_some, ↓reduceIte, Nat.reduceEqDiff, hlen2, hlen1, ren_pp, ren_own8, ren_ptr8]
           first | rfl | (simp only [rnB_add, rnB_zero, ix_A1, ix_A2, ix_C1, ix_C2, ix_D0, ix_D2, Nat.add_zero, Nat.add_assoc, Nat.reduceAdd]; done) | (simp only [rnB_add, rnB_zero, ix_A1, ix_A2, ix_C1, ix_C2, ix_D0, ix_D2, Nat.add_zero, Nat.add_assoc, Nat.reduceAdd]; rfl)
         · simp only [get_cons, put_some, ↓reduceIte, Nat.reduceEqDiff, hlen2, hlen1, ren_pp, ren_own8, ren_ptr8]
           first | rfl | (simp only [rnB_add, rnB_zero, ix_A1, ix_A2, ix_C1, ix_C2, ix_D0, ix_D2, Nat.add_zero, Nat.add_assoc, Nat.reduceAdd]; done) | (simp only [rnB_add, rnB_zero, ix_A1, ix_A2, ix_C1, ix_C2, ix_D0, ix_D2, Nat.add_zero, Nat.add_assoc, Nat.reduceAdd]; rfl)
        exact trivial
       rewrite [keep_three]
       refine Rp_env (e' := [(70, _), (13, _), (63, .any), (64, .any), (65, .any), (66, .any), (67, .any), (68, .any), (69, .any), (70, .any), (13, .any), (0, _), (1, _), (2, _), (3, _), (6, _), (7, _), (8, _), (9, _), (11, _), (12, _), (13, _), (14, _), (15, _), (16, _), (18, _), (20, _), (23, _), (42, _), (51, _), (55, _), (114, _)]) rfl ?_
       simp only [put_some, get_cons, ↓reduceIte, Nat.reduceEqDiff]
       simp only [hlen2, hlen1]
       have q0 := (three_low (A := none) (B := some (P.map AV.i)) (C := some [nilP, nilP]) (hget_lt q0)).trans q0
       have q7 := (three_low (A := none) (B := some (P.map AV.i)) (C := some [nilP, nilP]) (hget_lt q7)).trans q7
       have qp := three_1 H3 none (some (P.map AV.i)) (some [nilP, nilP])
       have qn := three_2 H3 none (some (P.map AV.i)) (some [nilP, nilP])
       have eHN : (H3 ++ [none] ++ [some (P.map AV.i)] ++ [some [nilP, nilP]]).length = H3.length + 3 := by simp
       generalize H3 ++ [none] ++ [some (P.map AV.i)] ++ [some [nilP, nilP]] = HN at q0 q7 qp qn eHN ⊢
       have lq0 := hget_lt q0
       have lq7 := hget_lt q7
       have lqn := hget_lt qn
       have lqp := hget_lt qp
       refine A_store ty43 (by simp (disch := first | omega | (simp only [List.length_map, List.length_append, List.length_set, List.length_cons, List.length_nil]; omega)) only [go_sem, ↓reduceIte, Nat.reduceEqDiff, reduceCtorEq, q0, q7, qn, qp, qw] <;> rfl) (by simp (disch := first | omega | (simp only [List.length_map, List.length_append, List.length_set, List.length_cons, List.length_nil]; omega)) only [go_sem, ↓reduceIte, Nat.reduceEqDiff, reduceCtorEq, q0, q7, qn, qp, qw] <;> rfl) qn ⟨by omega, rfl, by first | exact Nat.le_refl _ | simp⟩ (show _ = [.own 1 (H3.length + 1) 0 P.length, prsAV L.tail] from rfl) ?_
       intro H5 w3
       have ew3 := w3.len
       have q0 := (w3.old _ (by omega)).trans q0
       have q7 := (w3.old _ (by omega)).trans q7
       have qp := (w3.old _ (by omega)).trans qp
       have qn := w3.new
       have tr : ∀ a b c d e f g h i j k m n o p q r s t u v w x y z A B C D E F G : AV, let l := lc_stays_ok a b c d e f g h i j k m n o p q r s t u v; trim ((70,G)::(13,F)::(63,E)::(64,D)::(65,C)::(66,B)::(67,A)::(68,z)::(69,y)::(70,x)::(13,w)::l) l = [(0,a),(1,b),(2,c),(3,d),(6,e),(7,f),(8,g),(9,h),(11,i),(12,j),(13,F),(14,m),(15,n),(16,o),(18,p),(20,q),(23,r),(42,s),(51,t),(55,u),(114,v)] := by intros; rfl
       refine R_nil (tr ..) ?_; clear tr
       refine then_n ?_
       refine at_seq rfl ?_
       refine rd rfl rfl ?_
       refine Qq ?_
       refine Q_q rfl (by simp (disch := first | omega | (simp only [List.length_map, List.length_append, List.length_set, List.length_cons, List.length_nil]; omega)) only [go_sem, ↓reduceIte, Nat.reduceEqDiff, reduceCtorEq, q0, q7, qn, qp, qw] <;> rfl) ?_
       refine Qq ?_
       refine Q_q rfl (by simp (disch := first | omega | (simp only [List.length_map, List.length_append, List.length_set, List.length_cons, List.length_nil]; omega)) only [go_sem, ↓reduceIte, Nat.reduceEqDiff, reduceCtorEq, q0, q7, qn, qp, qw] <;> rfl) ?_
       refine Qq ?_
       refine Qq ?_
       refine Q_q rfl (by simp (disch := first | omega | (simp only [List.length_map, List.length_append, List.length_set, List.length_cons, List.length_nil]; omega)) only [go_sem, ↓reduceIte, Nat.reduceEqDiff, reduceCtorEq, q0, q7, qn, qp, qw] <;> rfl) ?_
       refine Qq ?_
       refine Q_q rfl (by simp (disch := first | omega | (simp only [List.length_map, List.length_append, List.length_set, List.length_cons, List.length_nil]; omega)) only [go_sem, ↓reduceIte, Nat.reduceEqDiff, reduceCtorEq, q0, q7, qn, qp, qw] <;> rfl) ?_
       refine Qq ?_
       refine Qq ?_
       refine Qq ?_
       refine Q_nil ?_
       have lq0 := hget_lt q0
       have lq7 := hget_lt q7
       have lqn := hget_lt qn
       have lqp := hget_lt qp
       refine A_store ty3 (by simp (disch := first | omega | (simp only [List.length_map, List.length_append, List.length_set, List.length_cons, List.length_nil]; omega)) only [go_sem, ↓reduceIte, Nat.reduceEqDiff, reduceCtorEq, q0, q7, qn, qp, qw] <;> rfl) (by simp (disch := first | omega | (simp only [List.length_map, List.length_append, List.length_set, List.length_cons, List.length_nil]; omega)) only [go_sem, ↓reduceIte, Nat.reduceEqDiff, reduceCtorEq, q0, q7, qn, qp, qw] <;> rfl) qp ⟨by omega, rfl, by simp only [List.length_map]; omega⟩ (k' := (P.set (gt L 0).a.toNat (gt P (gt L 0).a.toNat + x % 3)).map AV.i) (by rw [setL_map] <;> rfl) ?_
       intro H6_ w4
       have ew4 := w4.len
       have q0 := (w4.old _ (by omega)).trans q0
       have q7 := (w4.old _ (by omega)).trans q7
       have qn := (w4.old _ (by omega)).trans qn
       have qp := w4.new
       have tr : ∀ a b c d e f g h i j k m n o p q r s t u v w x y z A B C D E F G H : AV, let l := lc_stays_ok a b c d e f g h i j k m n o p q r s t u v; trim ((82,H)::(81,G)::(80,F)::(79,E)::(78,D)::(77,C)::(76,B)::(75,A)::(74,z)::(73,y)::(72,x)::(71,w)::l) l = [(0,a),(1,b),(2,c),(3,d),(6,e),(7,f),(8,g),(9,h),(11,i),(12,j),(13,k),(14,m),(15,n),(16,o),(18,p),(20,q),(23,r),(42,s),(51,t),(55,u),(114,v)] := by intros; rfl
       refine R_nil (tr ..) ?_; clear tr
       refine then_n ?_
       refine at_seq rfl ?_
       refine rd rfl rfl ?_
       have hq1 : 0 ≤ gt (P.set (gt L 0).a.toNat (gt P (gt L 0).a.toNat + x % 3)) (gt L 0).b.toNat ∧ gt (P.set (gt L 0).a.toNat (gt P (gt L 0).a.toNat + x % 3)) (gt L 0).b.toNat ≤ 802 := by
         rw [gt_set _ _ _ _ (by omega)]
         split <;> omega
       have hpl1 : (P.set (gt L 0).a.toNat (gt P (gt L 0).a.toNat + x % 3)).length = P.length := by rw [List.length_set]
       refine Qq ?_
       refine Q_q rfl (by simp (disch := first | omega | (simp only [List.length_map, List.length_append, List.length_set, List.length_cons, List.length_nil]; omega)) only [go_sem, ↓reduceIte, Nat.reduceEqDiff, reduceCtorEq, q0, q7, qn, qp, qw] <;> rfl) ?_
       refine Qq ?_
       refine Q_q rfl (by simp (disch := first | omega | (simp only [List.length_map, List.length_append, List.length_set, List.length_cons, List.length_nil]; omega)) only [go_sem, ↓reduceIte, Nat.reduceEqDiff, reduceCtorEq, q0, q7, qn, qp, qw] <;> rfl) ?_
       refine Qq ?_
       refine Qq ?_
       refine Q_q rfl (by simp (disch := first | omega | (simp only [List.length_map, List.length_append, List.length_set, List.length_cons, List.length_nil]; omega)) only [go_sem, ↓reduceIte, Nat.reduceEqDiff, reduceCtorEq, q0, q7, qn, qp, qw] <;> rfl) ?_
       refine Qq ?_
       refine Q_q rfl (by simp (disch := first | omega | (simp only [List.length_map, List.length_append, List.length_set, List.length_cons, List.length_nil]; omega)) only [go_sem, ↓reduceIte, Nat.reduceEqDiff, reduceCtorEq, q0, q7, qn, qp, qw] <;> rfl) ?_
       refine Qq ?_
       refine Qq ?_
       refine Qq ?_
       refine Qq ?_
       refine Q_nil ?_
       have lq0 := hget_lt q0
       have lq7 := hget_lt q7
       have lqn := hget_lt qn
       have lqp := hget_lt qp
       refine A_store ty3 (by simp (disch := first | omega | (simp only [List.length_map, List.length_append, List.length_set, List.length_cons, List.length_nil]; omega)) only [go_sem, ↓reduceIte, Nat.reduceEqDiff, reduceCtorEq, q0, q7, qn, qp, qw] <;> rfl) (by simp (disch := first | omega | (simp only [List.length_map, List.length_append, List.length_set, List.length_cons, List.length_nil]; omega)) only [go_sem, ↓reduceIte, Nat.reduceEqDiff, reduceCtorEq, q0, q7, qn, qp, qw] <;> rfl) qp ⟨by omega, rfl, by simp only [List.length_map]; omega⟩ (k' := (step1 P (gt L 0) (x % 3)).map AV.i) (by rw [setL_map]; rfl) ?_
       intro H8 w5
       have ew5 := w5.len
       have q0 := (w5.old _ (by omega)).trans q0
       have q7 := (w5.old _ (by omega)).trans q7
       have qn := (w5.old _ (by omega)).trans qn
       have qp := w5.new
       have hpn : (step1 P (gt L 0) (x % 3)).length = P.length := step1_len _ _ _
       rw [← hpn] at qn
       have tr : ∀ a b c d e f g h i j k m n o p q r s t u v w x y z A B C D E F G H I : AV, let l := lc_stays_ok a b c d e f g h i j k m n o p q r s t u v; trim ((95,I)::(94,H)::(93,G)::(92,F)::(91,E)::(90,D)::(89,C)::(88,B)::(87,A)::(86,z)::(85,y)::(84,x)::(83,w)::l) l = [(0,a),(1,b),(2,c),(3,d),(6,e),(7,f),(8,g),(9,h),(11,i),(12,j),(13,k),(14,m),(15,n),(16,o),(18,p),(20,q),(23,r),(42,s),(51,t),(55,u),(114,v)] := by intros; rfl
       refine R_nil (tr ..) ?_; clear tr
       refine then_n ?_
       refine at_seq rfl ?_
       refine rg rfl ?_
       refine R_q rfl (by simp (disch := first | omega | (simp only [List.length_map, List.length_append, List.length_set, List.length_cons, List.length_nil]; omega)) only [go_sem, ↓reduceIte, Nat.reduceEqDiff, reduceCtorEq, q0, q7, qn, qp, qw] <;> rfl) ?_
       refine Rq ?_
       refine Rcall ?_
       refine ACall_mono (firstO_ok _ _ (step1 P (gt L 0) (x % 3)) L.tail t _ qp) ?_
       rintro r HB ⟨⟨R2, o2, rfl, hv2⟩, rfl⟩
       obtain ⟨ho2, hl2⟩ := firstP_o hv2
       have hL0 : 0 < L.length := by omega
       have hmr : (mostS (step1 P (gt L 0) (x % 3)) L.tail t).2 ≠ 0 → rchkS (step1 P (gt L 0) (x % 3)) L.tail ≠ 0 := fun h => most_rchk h t0 (by rw [hpn]; exact t1)
       have hsc : (mostS (step1 P (gt L 0) (x % 3)) L.tail t).2 = 0 → firstB (step1 P (gt L 0) (x % 3)) L.tail t = true → canBe P L t := fun h7 h8 => stay_can hL0 hxm ((first_can h7 hv2).1 h8)
       have hsa : (mostS (step1 P (gt L 0) (x % 3)) L.tail t).2 = 0 → (thruS P L t).1 = true → (thruS (step1 P (gt L 0) (x % 3)) L.tail t).1 = true := fun h7 h8 => (thru_iff h7).2 (stay_all hL0 hxm (hti.1 h8))
       refine Rq ?_
       refine Rq ?_
       refine Rq ?_
       refine A_alloc rfl ?_
       intro H9 n6
       have en6 := n6.len
       have q0 := (n6.old _ (hget_lt q0)).trans q0
       have q7 := (n6.old _ (hget_lt q7)).trans q7
       have qn := (n6.old _ (hget_lt qn)).trans qn
       have qp := (n6.old _ (hget_lt qp)).trans qp
       have qw := n6.new
       have lq0 := hget_lt q0
       have lq7 := hget_lt q7
       have lqn := hget_lt qn
       have lqp := hget_lt qp
       have lqw := hget_lt qw
       refine A_store ty46 (by simp (disch := first | omega | (simp only [List.length_map, List.length_append, List.length_set, List.length_cons, List.length_nil]; omega)) only [go_sem, ↓reduceIte, Nat.reduceEqDiff, reduceCtorEq, q0, q7, qn, qp, qw] <;> rfl) (by simp (disch := first | omega | (simp only [List.length_map, List.length_append, List.length_set, List.length_cons, List.length_nil]; omega)) only [go_sem, ↓reduceIte, Nat.reduceEqDiff, reduceCtorEq, q0, q7, qn, qp, qw, Bool.and_self, storA (firstS (step1 P (gt L 0) (x % 3)) L.tail t), ho2.stor] <;> rfl) qw ⟨by omega, rfl, by first | exact Nat.le_refl _ | simp⟩ (show _ = [.v (.bool (firstB (step1 P (gt L 0) (x % 3)) L.tail t)), outA (firstS (step1 P (gt L 0) (x % 3)) L.tail t), o2] from rfl) ?_
       intro HA w6
       have ew6 := w6.len
       have q0 := (w6.old _ (by omega)).trans q0
       have q7 := (w6.old _ (by omega)).trans q7
       have qn := (w6.old _ (by omega)).trans qn
       have qp := (w6.old _ (by omega)).trans qp
       have qw := w6.new
       refine Rq ?_
       have tr : ∀ a b c d e f g h i j k m n o p q r s t u v w x y z A B C D : AV, let l := lc_stays_ok a b c d e f g h i j k m n o p q r s t u v; trim ((15,D)::(14,C)::(101,B)::(100,A)::(96,z)::(99,y)::(98,x)::(97,w)::l) l = [(0,a),(1,b),(2,c),(3,d),(6,e),(7,f),(8,g),(9,h),(11,i),(12,j),(13,k),(14,C),(15,D),(16,o),(18,p),(20,q),(23,r),(42,s),(51,t),(55,u),(114,v)] := by intros; rfl
       refine R_nil (tr ..) ?_; clear tr
       refine then_n ?_
       refine at_seq rfl ?_
       refine rg rfl ?_
       refine R_q rfl (by simp (disch := first | omega | (simp only [List.length_map, List.length_append, List.length_set, List.length_cons, List.length_nil]; omega)) only [go_sem, ↓reduceIte, Nat.reduceEqDiff, reduceCtorEq, q0, q7, qn, qp, qw] <;> rfl) ?_
       refine Rq ?_
       refine Rcall ?_
       refine ACall_eq (thr_x _ _ (step1 P (gt L 0) (x % 3)) L.tail t _ (frz_raceO L.tail qp)) ?_
       rewrite [thru_err]
       refine Rq ?_
       refine Rq ?_
       refine Rq ?_
       refine Rq ?_
       refine Rq ?_
       refine Rq ?_
       refine Rq ?_
       have tr : ∀ a b c d e f g h i j k m n o p q r s t u v w x y z A B C D E F : AV, let l := lc_stays_ok a b c d e f g h i j k m n o p q r s t u v; trim ((18,F)::(17,E)::(16,D)::(108,C)::(107,B)::(106,A)::(102,z)::(105,y)::(104,x)::(103,w)::l) l = [(0,a),(1,b),(2,c),(3,d),(6,e),(7,f),(8,g),(9,h),(11,i),(12,j),(13,k),(14,m),(15,n),(16,D),(18,F),(20,q),(23,r),(42,s),(51,t),(55,u),(114,v)] := by intros; rfl
       refine R_nil (tr ..) ?_; clear tr
       refine then_n ?_
       refine at_seq rfl ?_
       refine at_seq rfl ?_
       refine rg rfl ?_
       refine Rq ?_
       refine Rq ?_
       refine Rq ?_
       refine Rp_split (fun h7 => ?_) (fun h7 => ?_)
       ·
        try simp only [decide_eq_true_eq, decide_eq_false_iff_not, Bool.not_eq_true', Bool.not_eq_false', beq_iff_eq, beq_eq_false_iff_ne, ne_eq] at h7
        refine Rn ?_
        refine Rn ?_
        refine Rq ?_
        have tr : ∀ a b c d e f g h i j k m n o p q r s t u v w x y z A B : AV, let l := lc_stays_ok a b c d e f g h i j k m n o p q r s t u v; trim ((114,B)::(113,A)::(112,z)::(111,y)::(110,x)::(109,w)::l) l = [(0,a),(1,b),(2,c),(3,d),(6,e),(7,f),(8,g),(9,h),(11,i),(12,j),(13,k),(14,m),(15,n),(16,o),(18,p),(20,q),(23,r),(42,s),(51,t),(55,u),(114,B)] := by intros; rfl
        refine R_nil (tr ..) ?_; clear tr
        refine then_n ?_
        refine cdt ?_
        refine at_seq rfl ?_
        refine rg rfl ?_
        refine R_q rfl (by simp (disch := first | omega | (simp only [List.length_map, List.length_append, List.length_set, List.length_cons, List.length_nil]; omega)) only [go_sem, ↓reduceIte, Nat.reduceEqDiff, reduceCtorEq, q0, q7, qn, qp, qw] <;> rfl) ?_
        refine Rcall ?_
        refine ACall_eq (chk53_x _ _ (step1 P (gt L 0) (x % 3)) L.tail _ (frz_raceO L.tail qp)) ?_
        refine Rq ?_
        refine Rq ?_
        have tr : ∀ a b c d e f g h i j k m n o p q r s t u v w x y z : AV, let l := lc_stays_ok a b c d e f g h i j k m n o p q r s t u v; trim ((6,z)::(117,y)::(116,x)::(115,w)::l) l = [(0,a),(1,b),(2,c),(3,d),(6,z),(7,f),(8,g),(9,h),(11,i),(12,j),(13,k),(14,m),(15,n),(16,o),(18,p),(20,q),(23,r),(42,s),(51,t),(55,u),(114,v)] := by intros; rfl
        refine R_nil (tr ..) ?_; clear tr
        refine then_n ?_
        refine at_ret rfl ?_
        refine then_r ?_
        refine fpure ?_
        first | rfl | (simp; done) | exact congrArg _ (congrArg _ (by simp_all))
       ·
        try simp only [decide_eq_true_eq, decide_eq_false_iff_not, Bool.not_eq_true', Bool.not_eq_false', beq_iff_eq, beq_eq_false_iff_ne, ne_eq] at h7
        refine Ry ?_
        refine Rq ?_
        refine Ry ?_
        refine Rq ?_
        refine Rq ?_
        have tr : ∀ a b c d e f g h i j k m n o p q r s t u v w x y z A B : AV, let l := lc_stays_ok a b c d e f g h i j k m n o p q r s t u v; trim ((114,B)::(113,A)::(112,z)::(111,y)::(110,x)::(109,w)::l) l = [(0,a),(1,b),(2,c),(3,d),(6,e),(7,f),(8,g),(9,h),(11,i),(12,j),(13,k),(14,m),(15,n),(16,o),(18,p),(20,q),(23,r),(42,s),(51,t),(55,u),(114,B)] := by intros; rfl
        refine R_nil (tr ..) ?_; clear tr
        refine then_n ?_
        refine cdd (fun h8 => ?_) (fun h8 => ?_)
        ·
         try simp only [decide_eq_true_eq, decide_eq_false_iff_not, Bool.not_eq_true', Bool.not_eq_false', beq_iff_eq, beq_eq_false_iff_ne, ne_eq] at h8
         refine at_seq rfl ?_
         refine rg rfl ?_
         refine R_q rfl (by simp (disch := first | omega | (simp only [List.length_map, List.length_append, List.length_set, List.length_cons, List.length_nil]; omega)) only [go_sem, ↓reduceIte, Nat.reduceEqDiff, reduceCtorEq, q0, q7, qn, qp, qw] <;> rfl) ?_
         refine Rcall ?_
         refine ACall_eq (chk53_x _ _ (step1 P (gt L 0) (x % 3)) L.tail _ (frz_raceO L.tail qp)) ?_
         refine Rq ?_
         refine Rq ?_
         have tr : ∀ a b c d e f g h i j k m n o p q r s t u v w x y z : AV, let l := lc_stays_ok a b c d e f g h i j k m n o p q r s t u v; trim ((6,z)::(117,y)::(116,x)::(115,w)::l) l = [(0,a),(1,b),(2,c),(3,d),(6,z),(7,f),(8,g),(9,h),(11,i),(12,j),(13,k),(14,m),(15,n),(16,o),(18,p),(20,q),(23,r),(42,s),(51,t),(55,u),(114,v)] := by intros; rfl
         refine R_nil (tr ..) ?_; clear tr
         refine then_n ?_
         refine at_ret rfl ?_
         refine then_r ?_
         refine fpure ?_
         first | rfl | (simp; done) | exact congrArg _ (congrArg _ (by simp_all))
        ·
         try simp only [decide_eq_true_eq, decide_eq_false_iff_not, Bool.not_eq_true', Bool.not_eq_false', beq_iff_eq, beq_eq_false_iff_ne, ne_eq] at h8
         refine at_skip rfl ?_
         refine then_n ?_
         refine at_seq rfl ?_
         refine rg rfl ?_
         refine Rq ?_
         refine R_q rfl (by simp (disch := first | omega | (simp only [List.length_map, List.length_append, List.length_set, List.length_cons, List.length_nil]; omega)) only [go_sem, ↓reduceIte, Nat.reduceEqDiff, reduceCtorEq, q0, q7, qn, qp, qw] <;> rfl) ?_
         refine Rq ?_
         refine Rp_split (fun h9 => ?_) (fun h9 => ?_)
         ·
          try simp only [decide_eq_true_eq, decide_eq_false_iff_not, Bool.not_eq_true', Bool.not_eq_false', beq_iff_eq, beq_eq_false_iff_ne, ne_eq] at h9
          refine Rn ?_
          refine Rn ?_
          refine Rn ?_
          refine Rq ?_
          refine Rq ?_
          refine Ry ?_
          refine Rq ?_
          refine Ry ?_
          refine Rq ?_
          refine Ry ?_
          refine Rq ?_
          refine Rp_split (fun h10 => ?_) (fun h10 => ?_)
          ·
           try simp only [decide_eq_true_eq, decide_eq_false_iff_not, Bool.not_eq_true', Bool.not_eq_false', beq_iff_eq, beq_eq_false_iff_ne, ne_eq] at h10
           refine Rn ?_
           refine Ry ?_
           refine Rq ?_
           refine Rq ?_
           refine Rq ?_
           have tr : ∀ a b c d e f g h i j k m n o p q r s t u v w x y z A B C D E F G H I J K : AV, let l := lc_stays_ok a b c d e f g h i j k m n o p q r s t u v; trim ((6,K)::(131,J)::(130,I)::(129,H)::(128,G)::(127,F)::(126,E)::(125,D)::(124,C)::(123,B)::(122,A)::(121,z)::(120,y)::(119,x)::(118,w)::l) l = [(0,a),(1,b),(2,c),(3,d),(6,K),(7,f),(8,g),(9,h),(11,i),(12,j),(13,k),(14,m),(15,n),(16,o),(18,p),(20,q),(23,r),(42,s),(51,t),(55,u),(114,v)] := by intros; rfl
           refine R_nil (tr ..) ?_; clear tr
           refine then_n ?_
           refine at_ret rfl ?_
           refine fpure ?_
           first | rfl | (simp; done) | exact congrArg _ (congrArg _ (by simp_all))
          ·
           try simp only [decide_eq_true_eq, decide_eq_false_iff_not, Bool.not_eq_true', Bool.not_eq_false', beq_iff_eq, beq_eq_false_iff_ne, ne_eq] at h10
           refine Ry ?_
           refine Rq ?_
           refine Ry ?_
           refine Rq ?_
           refine Rq ?_
           refine Rq ?_
           have tr : ∀ a b c d e f g h i j k m n o p q r s t u v w x y z A B C D E F G H I J K : AV, let l := lc_stays_ok a b c d e f g h i j k m n o p q r s t u v; trim ((6,K)::(131,J)::(130,I)::(129,H)::(128,G)::(127,F)::(126,E)::(125,D)::(124,C)::(123,B)::(122,A)::(121,z)::(120,y)::(119,x)::(118,w)::l) l = [(0,a),(1,b),(2,c),(3,d),(6,K),(7,f),(8,g),(9,h),(11,i),(12,j),(13,k),(14,m),(15,n),(16,o),(18,p),(20,q),(23,r),(42,s),(51,t),(55,u),(114,v)] := by intros; rfl
           refine R_nil (tr ..) ?_; clear tr
           refine then_n ?_
           refine at_ret rfl ?_
           refine fpure ?_
           first | rfl | (simp; done) | exact congrArg _ (congrArg _ (by simp_all))
         ·
          try simp only [decide_eq_true_eq, decide_eq_false_iff_not, Bool.not_eq_true', Bool.not_eq_false', beq_iff_eq, beq_eq_false_iff_ne, ne_eq] at h9
          refine Ry ?_
          refine Rq ?_
          refine Ry ?_
          refine R_q rfl (by simp (disch := first | omega | (simp only [List.length_map, List.length_append, List.length_set, List.length_cons, List.length_nil]; omega)) only [go_sem, ↓reduceIte, Nat.reduceEqDiff, reduceCtorEq, q0, q7, qn, qp, qw] <;> rfl) ?_
          refine Ry ?_
          refine Rq ?_
          refine Rq ?_
          refine Rq ?_
          refine Rp_split (fun h11 => ?_) (fun h11 => ?_)
          ·
           try simp only [decide_eq_true_eq, decide_eq_false_iff_not, Bool.not_eq_true', Bool.not_eq_false', beq_iff_eq, beq_eq_false_iff_ne, ne_eq] at h11
           refine Ry ?_
           refine Rq ?_
           refine Ry ?_
           refine Rq ?_
           refine Ry ?_
           refine Rq ?_
           refine Rp_split (fun h12 => ?_) (fun h12 => ?_)
           ·
            try simp only [decide_eq_true_eq, decide_eq_false_iff_not, Bool.not_eq_true', Bool.not_eq_false', beq_iff_eq, beq_eq_false_iff_ne, ne_eq] at h12
            refine Rn ?_
            refine Ry ?_
            refine Rq ?_
            refine Rq ?_
            refine Rq ?_
            have tr : ∀ a b c d e f g h i j k m n o p q r s t u v w x y z A B C D E F G H I J K : AV, let l := lc_stays_ok a b c d e f g h i j k m n o p q r s t u v; trim ((6,K)::(131,J)::(130,I)::(129,H)::(128,G)::(127,F)::(126,E)::(125,D)::(124,C)::(123,B)::(122,A)::(121,z)::(120,y)::(119,x)::(118,w)::l) l = [(0,a),(1,b),(2,c),(3,d),(6,K),(7,f),(8,g),(9,h),(11,i),(12,j),(13,k),(14,m),(15,n),(16,o),(18,p),(20,q),(23,r),(42,s),(51,t),(55,u),(114,v)] := by intros; rfl
            refine R_nil (tr ..) ?_; clear tr
            refine then_n ?_
            refine at_ret rfl ?_
            refine fpure ?_
            first | rfl | (simp; done) | exact congrArg _ (congrArg _ (by simp_all))
           ·
            try simp only [decide_eq_true_eq, decide_eq_false_iff_not, Bool.not_eq_true', Bool.not_eq_false', beq_iff_eq, beq_eq_false_iff_ne, ne_eq] at h12
            refine Ry ?_
            refine Rq ?_
            refine Ry ?_
            refine Rq ?_
            refine Rq ?_
            refine Rq ?_
            have tr : ∀ a b c d e f g h i j k m n o p q r s t u v w x y z A B C D E F G H I J K : AV, let l := lc_stays_ok a b c d e f g h i j k m n o p q r s t u v; trim ((6,K)::(131,J)::(130,I)::(129,H)::(128,G)::(127,F)::(126,E)::(125,D)::(124,C)::(123,B)::(122,A)::(121,z)::(120,y)::(119,x)::(118,w)::l) l = [(0,a),(1,b),(2,c),(3,d),(6,K),(7,f),(8,g),(9,h),(11,i),(12,j),(13,k),(14,m),(15,n),(16,o),(18,p),(20,q),(23,r),(42,s),(51,t),(55,u),(114,v)] := by intros; rfl
            refine R_nil (tr ..) ?_; clear tr
            refine then_n ?_
            refine at_ret rfl ?_
            refine fpure ?_
            first | rfl | (simp; done) | exact congrArg _ (congrArg _ (by simp_all))
          ·
           try simp only [decide_eq_true_eq, decide_eq_false_iff_not, Bool.not_eq_true', Bool.not_eq_false', beq_iff_eq, beq_eq_false_iff_ne, ne_eq] at h11
           refine Rn ?_
           refine Rn ?_
           refine Rn ?_
           refine Ru ?_
           refine Rn ?_
           refine Rq ?_
           refine Rq ?_
           have tr : ∀ a b c d e f g h i j k m n o p q r s t u v w x y z A B C D E F G H I J K : AV, let l := lc_stays_ok a b c d e f g h i j k m n o p q r s t u v; trim ((6,K)::(131,J)::(130,I)::(129,H)::(128,G)::(127,F)::(126,E)::(125,D)::(124,C)::(123,B)::(122,A)::(121,z)::(120,y)::(119,x)::(118,w)::l) l = [(0,a),(1,b),(2,c),(3,d),(6,K),(7,f),(8,g),(9,h),(11,i),(12,j),(13,k),(14,m),(15,n),(16,o),(18,p),(20,q),(23,r),(42,s),(51,t),(55,u),(114,v)] := by intros; rfl
           refine R_nil (tr ..) ?_; clear tr
           refine then_n ?_
           refine at_ret rfl ?_
           refine fpure ?_
           first | rfl | (simp; done) | exact congrArg _ (congrArg _ (by simp_all))
    ·
     try simp only [decide_eq_true_eq, decide_eq_false_iff_not, Bool.not_eq_true', Bool.not_eq_false', beq_iff_eq, beq_eq_false_iff_ne, ne_eq] at h4
     refine Rn ?_
     refine Rn ?_
     refine Rn ?_
     refine Rq ?_
     have tr : ∀ a b c d e f g h i j k m n o p q r s t u v w x y z A B : AV, let l := lc_stays_ok a b c d e f g h i j k m n o p q r s t u v; trim ((51,B)::(50,A)::(49,z)::(48,y)::(47,x)::(46,w)::l) l = [(0,a),(1,b),(2,c),(3,d),(6,e),(7,f),(8,g),(9,h),(11,i),(12,j),(13,k),(14,m),(15,n),(16,o),(18,p),(20,q),(23,r),(42,s),(51,B),(55,u),(114,v)] := by intros; rfl
     refine R_nil (tr ..) ?_; clear tr
     refine then_n ?_
     refine cdf ?_
     refine at_skip rfl ?_
     refine then_n ?_
     refine at_seq rfl ?_
     refine at_seq rfl ?_
     refine rg rfl ?_
     refine Rq ?_
     refine R_q rfl (by simp (disch := first | omega | (simp only [List.length_map, List.length_append, List.length_set, List.length_cons, List.length_nil]; omega)) only [go_sem, ↓reduceIte, Nat.reduceEqDiff, reduceCtorEq, q0, q7, qn, qp, qw] <;> rfl) ?_
     refine Rq ?_
     refine Rq ?_
     have tr : ∀ a b c d e f g h i j k m n o p q r s t u v w x y z : AV, let l := lc_stays_ok a b c d e f g h i j k m n o p q r s t u v; trim ((55,z)::(54,y)::(53,x)::(52,w)::l) l = [(0,a),(1,b),(2,c),(3,d),(6,e),(7,f),(8,g),(9,h),(11,i),(12,j),(13,k),(14,m),(15,n),(16,o),(18,p),(20,q),(23,r),(42,s),(51,t),(55,z),(114,v)] := by intros; rfl
     refine R_nil (tr ..) ?_; clear tr
     refine then_n ?_
     refine cdd (fun h13 => ?_) (fun h13 => ?_)
     ·
      try simp only [decide_eq_true_eq, decide_eq_false_iff_not, Bool.not_eq_true', Bool.not_eq_false', beq_iff_eq, beq_eq_false_iff_ne, ne_eq] at h13
      refine at_seq rfl ?_
      refine rg rfl ?_
      refine Rq ?_
      refine Rq ?_
      refine R_q rfl (by simp (disch := first | omega | (simp only [List.length_map, List.length_append, List.length_set, List.length_cons, List.length_nil]; omega)) only [go_sem, ↓reduceIte, Nat.reduceEqDiff, reduceCtorEq, q0, q7, qn, qp, qw] <;> rfl) ?_
      refine Rq ?_
      refine Rq ?_
      have tr : ∀ a b c d e f g h i j k m n o p q r s t u v w x y z A : AV, let l := lc_stays_ok a b c d e f g h i j k m n o p q r s t u v; trim ((6,A)::(59,z)::(58,y)::(57,x)::(56,w)::l) l = [(0,a),(1,b),(2,c),(3,d),(6,A),(7,f),(8,g),(9,h),(11,i),(12,j),(13,k),(14,m),(15,n),(16,o),(18,p),(20,q),(23,r),(42,s),(51,t),(55,u),(114,v)] := by intros; rfl
      refine R_nil (tr ..) ?_; clear tr
      refine then_n ?_
      refine at_ret rfl ?_
      refine then_r ?_
      refine fpure ?_
      first | rfl | (simp; done) | exact congrArg _ (congrArg _ (by simp_all))
     ·
      try simp only [decide_eq_true_eq, decide_eq_false_iff_not, Bool.not_eq_true', Bool.not_eq_false', beq_iff_eq, beq_eq_false_iff_ne, ne_eq] at h13
      refine at_skip rfl ?_
      refine then_n ?_
      refine at_seq rfl ?_
      refine rg rfl ?_
      have he := g.ed 0 (by omega)
      have hpa := g.pt (gt L 0).a.toNat (by omega)
      have hpb := g.pt (gt L 0).b.toNat (by omega)
      have hxm : 0 ≤ x % 3 ∧ x % 3 ≤ 2 := by omega
      refine Rq ?_
      refine Rq ?_
      refine Rq ?_
      refine Rq ?_
      have tr : ∀ a b c d e f g h i j k m n o p q r s t u v w x y z : AV, let l := lc_stays_ok a b c d e f g h i j k m n o p q r s t u v; trim ((12,z)::(62,y)::(61,x)::(60,w)::l) l = [(0,a),(1,b),(2,c),(3,d),(6,e),(7,f),(8,g),(9,h),(11,i),(12,z),(13,k),(14,m),(15,n),(16,o),(18,p),(20,q),(23,r),(42,s),(51,t),(55,u),(114,v)] := by intros; rfl
      refine R_nil (tr ..) ?_; clear tr
      refine then_n ?_
      refine at_seq rfl ?_
      refine rls2 rfl rfl ?_
      refine Lq ?_
      refine L_q rfl (by simp (disch := first | omega | (simp only [List.length_map, List.length_append, List.length_set, List.length_cons, List.length_nil]; omega)) only [go_sem, ↓reduceIte, Nat.reduceEqDiff, reduceCtorEq, q0, q7, qn, qp, qw] <;> rfl) rfl ?_
      refine Lq ?_
      refine L_q rfl (by simp (disch := first | omega | (simp only [List.length_map, List.length_append, List.length_set, List.length_cons, List.length_nil]; omega)) only [go_sem, ↓reduceIte, Nat.reduceEqDiff, reduceCtorEq, q0, q7, qn, qp, qw] <;> rfl) rfl ?_
      refine L_q rfl (by simp (disch := first | omega | (simp only [List.length_map, List.length_append, List.length_set, List.length_cons, List.length_nil]; omega)) only [go_sem, ↓reduceIte, Nat.reduceEqDiff, reduceCtorEq, q0, q7, qn, qp, qw]; exact slT L (by omega)) rfl ?_
      refine L_nil ?_
      refine R_buildSlice (bs40e _ _ _) ?_
      refine R_append (by simp (disch := first | omega | (simp only [List.length_map, List.length_append, List.length_set, List.length_cons, List.length_nil]; omega)) only [go_sem, ↓reduceIte, Nat.reduceEqDiff, reduceCtorEq, q0, q7, qn, qp, qw]; exact appA (Nat.le_refl _) (by omega)) ?_
      refine Rq ?_
      refine R_alloc (by simp (disch := first | omega | (simp only [List.length_map, List.length_append, List.length_set, List.length_cons, List.length_nil]; omega)) only [go_sem, ↓reduceIte, Nat.reduceEqDiff, reduceCtorEq, q0, q7, qn, qp, qw] <;> rfl) rfl (by simp only [List.map_cons, List.map_nil]; rfl) ?_
      refine R_end ⟨?_, ?_⟩
      ·
       refine ⟨?_, ?_⟩
       ·
        refine R_buildSlice (bs40e _ _ _) ?_
        refine R_append (by simp (disch := first | omega | (simp only [List.length_map, List.length_append, List.length_set, List.length_cons, List.length_nil]; omega)) only [go_sem, ↓reduceIte, Nat.reduceEqDiff, reduceCtorEq, q0, q7, qn, qp, qw]; exact appA (Nat.le_refl _) (by omega)) ?_
        refine R_alloc (by simp (disch := first | omega | (simp only [List.length_map, List.length_append, List.length_set, List.length_cons, List.length_nil]; omega)) only [go_sem, ↓reduceIte, Nat.reduceEqDiff, reduceCtorEq, q0, q7, qn, qp, qw] <;> rfl) rfl (by simp only [List.map_cons, List.map_nil]; rfl) ?_
        refine Rq ?_
        refine R_end ?_
        refine three_A (H := H3) (A := P.map AV.i) (B := [nilP, nilP]) (ints_ren P) (fun f => rfl) ?_
        intro t2 ht
        simp only [List.mem_cons, List.not_mem_nil, or_false] at ht
        rcases ht with rfl | rfl
        · simp only [get_cons, put_some, ↓reduceIte, Nat.reduceEqDiff, hlen2, hlen1, ren_pp, ren_own8, ren_ptr8]
          first | rfl | (simp only [rnB_add, rnB_zero, ix_A1, ix_A2, ix_C1, ix_C2, ix_D0, ix_D2, Nat.add_zero, Nat.add_assoc, Nat.reduceAdd]; done) | (simp only [rnB_add, rnB_zero, ix_A1, ix_A2, ix_C1, ix_C2, ix_D0, ix_D2, Nat.add_zero, Nat.add_assoc, Nat.reduceAdd]; rfl)
        · simp only [get_cons, put_some, ↓reduceIte, Nat.reduceEqDiff, hlen2, hlen1, ren_pp, ren_own8, ren_ptr8]
          first | rfl | (simp only [rnB_add, rnB_zero, ix_A1, ix_A2, ix_C1, ix_C2, ix_D0, ix_D2, Nat.add_zero, Nat.add_assoc, Nat.reduceAdd]; done) | (simp only [rnB_add, rnB_zero, ix_A1, ix_A2, ix_C1, ix_C2, ix_D0, ix_D2, Nat.add_zero, Nat.add_assoc, Nat.reduceAdd]; rfl)
       refine ⟨?_, ?_⟩
       ·
        refine R_buildSlice (bs40e _ _ _) ?_
        refine R_alloc (by simp (disch := first | omega | (simp only [List.length_map, List.length_append, List.length_set, List.length_cons, List.length_nil]; omega)) only [go_sem, ↓reduceIte, Nat.reduceEqDiff, reduceCtorEq, q0, q7, qn, qp, qw] <;> rfl) rfl (by simp only [List.map_cons, List.map_nil]; rfl) ?_
        refine R_append (by simp (disch := first | omega | (simp only [List.length_map, List.length_append, List.length_set, List.length_cons, List.length_nil]; omega)) only [go_sem, ↓reduceIte, Nat.reduceEqDiff, reduceCtorEq, q0, q7, qn, qp, qw]; exact appC (Nat.le_refl _) (by omega)) ?_
        refine Rq ?_
        refine R_end ?_
        refine three_C (H := H3) (A := P.map AV.i) (B := [nilP, nilP]) (ints_ren P) (fun f => rfl) ?_
        intro t2 ht
        simp only [List.mem_cons, List.not_mem_nil, or_false] at ht
        rcases ht with rfl | rfl
        · simp only [get_cons, put_some, ↓reduceIte, Nat.reduceEqDiff, hlen2, hlen1, ren_pp, ren_own8, ren_ptr8]
          first | rfl | (simp only [rnB_add, rnB_zero, ix_A1, ix_A2, ix_C1, ix_C2, ix_D0, ix_D2, Nat.add_zero, Nat.add_assoc, Nat.reduceAdd]; done) | (simp only [rnB_add, rnB_zero, ix_A1, ix_A2, ix_C1, ix_C2, ix_D0, ix_D2, Nat.add_zero, Nat.add_assoc, Nat.reduceAdd]; rfl)
        · simp only [get_cons, put_some, ↓reduceIte, Nat.reduceEqDiff, hlen2, hlen1, ren_pp, ren_own8, ren_ptr8]
          first | rfl | (simp only [rnB_add, rnB_zero, ix_A1, ix_A2, ix_C1, ix_C2, ix_D0, ix_D2, Nat.add_zero, Nat.add_assoc, Nat.reduceAdd]; done) | (simp only [rnB_add, rnB_zero, ix_A1, ix_A2, ix_C1, ix_C2, ix_D0, ix_D2, Nat.add_zero, Nat.add_assoc, Nat.reduceAdd]; rfl)
       refine ⟨?_, ?_⟩
       ·
        refine R_alloc (by simp (disch := first | omega | (simp only [List.length_map, List.length_append, List.length_set, List.length_cons, List.length_nil]; omega)) only [go_sem, ↓reduceIte, Nat.reduceEqDiff, reduceCtorEq, q0, q7, qn, qp, qw] <;> rfl) rfl (by simp only [List.map_cons, List.map_nil]; rfl) ?_
        refine R_buildSlice (bs40e _ _ _) ?_
        refine R_append (by simp (disch := first | omega | (simp only [List.length_map, List.length_append, List.length_set, List.length_cons, List.length_nil]; omega)) only [go_sem, ↓reduceIte, Nat.reduceEqDiff, reduceCtorEq, q0, q7, qn, qp, qw]; exact appD (Nat.le_refl _) (by omega)) ?_
        refine Rq ?_
        refine R_end ?_
        refine three_D (H := H3) (A := P.map AV.i) (B := [nilP, nilP]) (ints_ren P) (fun f => rfl) ?_
        intro t2 ht
        simp only [List.mem_cons, List.not_mem_nil, or_false] at ht
        rcases ht with rfl | rfl
        · simp only [get_cons, put_some, ↓reduceIte, Nat.reduceEqDiff, hlen2, hlen1, ren_pp, ren_own8, ren_ptr8]
          first | rfl | (simp only [rnB_add, rnB_zero, ix_A1, ix_A2, ix_C1, ix_C2, ix_D0, ix_D2, Nat.add_zero, Nat.add_assoc, Nat.reduceAdd]; done) | (simp only [rnB_add, rnB_zero, ix_A1, ix_A2, ix_C1, ix_C2, ix_D0, ix_D2, Nat.add_zero, Nat.add_assoc, Nat.reduceAdd]; rfl)
        · simp only [get_cons, put_some, ↓reduceIte, Nat.reduceEqDiff, hlen2, hlen1, ren_pp, ren_own8, ren_ptr8]
          first | rfl | (simp only [rnB_add, rnB_zero, ix_A1, ix_A2, ix_C1, ix_C2, ix_D0, ix_D2, Nat.add_zero, Nat.add_assoc, Nat.reduceAdd]; done) | (simp only [rnB_add, rnB_zero, ix_A1, ix_A2, ix_C1, ix_C2, ix_D0, ix_D2, Nat.add_zero, Nat.add_assoc, Nat.reduceAdd]; rfl)
       exact trivial
      rewrite [keep_three]
      refine Rp_env (e' := [(70, _), (13, _), (63, .any), (64, .any), (65, .any), (66, .any), (67, .any), (68, .any), (69, .any), (70, .any), (13, .any), (0, _), (1, _), (2, _), (3, _), (6, _), (7, _), (8, _), (9, _), (11, _), (12, _), (13, _), (14, _), (15, _), (16, _), (18, _), (20, _), (23, _), (42, _), (51, _), (55, _), (114, _)]) rfl ?_
      simp only [put_some, get_cons, ↓reduceIte, Nat.reduceEqDiff]
      simp only [hlen2, hlen1]
      have q0 := (three_low (A := none) (B := some (P.map AV.i)) (C := some [nilP, nilP]) (hget_lt q0)).trans q0
      have q7 := (three_low (A := none) (B := some (P.map AV.i)) (C := some [nilP, nilP]) (hget_lt q7)).trans q7
      have qp := three_1 H3 none (some (P.map AV.i)) (some [nilP, nilP])
      have qn := three_2 H3 none (some (P.map AV.i)) (some [nilP, nilP])
      have eHN : (H3 ++ [none] ++ [some (P.map AV.i)] ++ [some [nilP, nilP]]).length = H3.length + 3 := by simp
      generalize H3 ++ [none] ++ [some (P.map AV.i)] ++ [some [nilP, nilP]] = HN at q0 q7 qp qn eHN ⊢
      have lq0 := hget_lt q0
      have lq7 := hget_lt q7
      have lqn := hget_lt qn
      have lqp := hget_lt qp
      refine A_store ty43 (by simp (disch := first | omega | (simp only [List.length_map, List.length_append, List.length_set, List.length_cons, List.length_nil]; omega)) only [go_sem, ↓reduceIte, Nat.reduceEqDiff, reduceCtorEq, q0, q7, qn, qp, qw] <;> rfl) (by simp (disch := first | omega | (simp only [List.length_map, List.length_append, List.length_set, List.length_cons, List.length_nil]; omega)) only [go_sem, ↓reduceIte, Nat.reduceEqDiff, reduceCtorEq, q0, q7, qn, qp, qw] <;> rfl) qn ⟨by omega, rfl, by first | exact Nat.le_refl _ | simp⟩ (show _ = [.own 1 (H3.length + 1) 0 P.length, prsAV L.tail] from rfl) ?_
      intro H5 w3
      have ew3 := w3.len
      have q0 := (w3.old _ (by omega)).trans q0
      have q7 := (w3.old _ (by omega)).trans q7
      have qp := (w3.old _ (by omega)).trans qp
      have qn := w3.new
      have tr : ∀ a b c d e f g h i j k m n o p q r s t u v w x y z A B C D E F G : AV, let l := lc_stays_ok a b c d e f g h i j k m n o p q r s t u v; trim ((70,G)::(13,F)::(63,E)::(64,D)::(65,C)::(66,B)::(67,A)::(68,z)::(69,y)::(70,x)::(13,w)::l) l = [(0,a),(1,b),(2,c),(3,d),(6,e),(7,f),(8,g),(9,h),(11,i),(12,j),(13,F),(14,m),(15,n),(16,o),(18,p),(20,q),(23,r),(42,s),(51,t),(55,u),(114,v)] := by intros; rfl
      refine R_nil (tr ..) ?_; clear tr
      refine then_n ?_
      refine at_seq rfl ?_
      refine rd rfl rfl ?_
      refine Qq ?_
      refine Q_q rfl (by simp (disch := first | omega | (simp only [List.length_map, List.length_append, List.length_set, List.length_cons, List.length_nil]; omega)) only [go_sem, ↓reduceIte, Nat.reduceEqDiff, reduceCtorEq, q0, q7, qn, qp, qw] <;> rfl) ?_
      refine Qq ?_
      refine Q_q rfl (by simp (disch := first | omega | (simp only [List.length_map, List.length_append, List.length_set, List.length_cons, List.length_nil]; omega)) only [go_sem, ↓reduceIte, Nat.reduceEqDiff, reduceCtorEq, q0, q7, qn, qp, qw] <;> rfl) ?_
      refine Qq ?_
      refine Qq ?_
      refine Q_q rfl (by simp (disch := first | omega | (simp only [List.length_map, List.length_append, List.length_set, List.length_cons, List.length_nil]; omega)) only [go_sem, ↓reduceIte, Nat.reduceEqDiff, reduceCtorEq, q0, q7, qn, qp, qw] <;> rfl) ?_
      refine Qq ?_
      refine Q_q rfl (by simp (disch := first | omega | (simp only [List.length_map, List.length_append, List.length_set, List.length_cons, List.length_nil]; omega)) only [go_sem, ↓reduceIte, Nat.reduceEqDiff, reduceCtorEq, q0, q7, qn, qp, qw] <;> rfl) ?_
      refine Qq ?_
      refine Qq ?_
      refine Qq ?_
      refine Q_nil ?_
      have lq0 := hget_lt q0
      have lq7 := hget_lt q7
      have lqn := hget_lt qn
      have lqp := hget_lt qp
      refine A_store ty3 (by simp (disch := first | omega | (simp only [List.length_map, List.length_append, List.length_set, List.length_cons, List.length_nil]; omega)) only [go_sem, ↓reduceIte, Nat.reduceEqDiff, reduceCtorEq, q0, q7, qn, qp, qw] <;> rfl) (by simp (disch := first | omega | (simp only [List.length_map, List.length_append, List.length_set, List.length_cons, List.length_nil]; omega)) only [go_sem, ↓reduceIte, Nat.reduceEqDiff, reduceCtorEq, q0, q7, qn, qp, qw] <;> rfl) qp ⟨by omega, rfl, by simp only [List.length_map]; omega⟩ (k' := (P.set (gt L 0).a.toNat (gt P (gt L 0).a.toNat + x % 3)).map AV.i) (by rw [setL_map] <;> rfl) ?_
      intro H6_ w4
      have ew4 := w4.len
      have q0 := (w4.old _ (by omega)).trans q0
      have q7 := (w4.old _ (by omega)).trans q7
      have qn := (w4.old _ (by omega)).trans qn
      have qp := w4.new
      have tr : ∀ a b c d e f g h i j k m n o p q r s t u v w x y z A B C D E F G H : AV, let l := lc_stays_ok a b c d e f g h i j k m n o p q r s t u v; trim ((82,H)::(81,G)::(80,F)::(79,E)::(78,D)::(77,C)::(76,B)::(75,A)::(74,z)::(73,y)::(72,x)::(71,w)::l) l = [(0,a),(1,b),(2,c),(3,d),(6,e),(7,f),(8,g),(9,h),(11,i),(12,j),(13,k),(14,m),(15,n),(16,o),(18,p),(20,q),(23,r),(42,s),(51,t),(55,u),(114,v)] := by intros; rfl
      refine R_nil (tr ..) ?_; clear tr
      refine then_n ?_
      refine at_seq rfl ?_
      refine rd rfl rfl ?_
      have hq1 : 0 ≤ gt (P.set (gt L 0).a.toNat (gt P (gt L 0).a.toNat + x % 3)) (gt L 0).b.toNat ∧ gt (P.set (gt L 0).a.toNat (gt P (gt L 0).a.toNat + x % 3)) (gt L 0).b.toNat ≤ 802 := by
        rw [gt_set _ _ _ _ (by omega)]
        split <;> omega
      have hpl1 : (P.set (gt L 0).a.toNat (gt P (gt L 0).a.toNat + x % 3)).length = P.length := by rw [List.length_set]
      refine Qq ?_
      refine Q_q rfl (by simp (disch := first | omega | (simp only [List.length_map, List.length_append, List.length_set, List.length_cons, List.length_nil]; omega)) only [go_sem, ↓reduceIte, Nat.reduceEqDiff, reduceCtorEq, q0, q7, qn, qp, qw] <;> rfl) ?_
      refine Qq ?_
      refine Q_q rfl (by simp (disch := first | omega | (simp only [List.length_map, List.length_append, List.length_set, List.length_cons, List.length_nil]; omega)) only [go_sem, ↓reduceIte, Nat.reduceEqDiff, reduceCtorEq, q0, q7, qn, qp, qw] <;> rfl) ?_
      refine Qq ?_
      refine Qq ?_
      refine Q_q rfl (by simp (disch := first | omega | (simp only [List.length_map, List.length_append, List.length_set, List.length_cons, List.length_nil]; omega)) only [go_sem, ↓reduceIte, Nat.reduceEqDiff, reduceCtorEq, q0, q7, qn, qp, qw] <;> rfl) ?_
      refine Qq ?_
      refine Q_q rfl (by simp (disch := first | omega | (simp only [List.length_map, List.length_append, List.length_set, List.length_cons, List.length_nil]; omega)) only [go_sem, ↓reduceIte, Nat.reduceEqDiff, reduceCtorEq, q0, q7, qn, qp, qw] <;> rfl) ?_
      refine Qq ?_
      refine Qq ?_
      refine Qq ?_
      refine Qq ?_
      refine Q_nil ?_
      have lq0 := hget_lt q0
      have lq7 := hget_lt q7
      have lqn := hget_lt qn
      have lqp := hget_lt qp
      refine A_store ty3 (by simp (disch := first | omega | (simp only [List.length_map, List.length_append, List.length_set, List.length_cons, List.length_nil]; omega)) only [go_sem, ↓reduceIte, Nat.reduceEqDiff, reduceCtorEq, q0, q7, qn, qp, qw] <;> rfl) (by simp (disch := first | omega | (simp only [List.length_map, List.length_append, List.length_set, List.length_cons, List.length_nil]; omega)) only [go_sem, ↓reduceIte, Nat.reduceEqDiff, reduceCtorEq, q0, q7, qn, qp, qw] <;> rfl) qp ⟨by omega, rfl, by simp only [List.length_map]; omega⟩ (k' := (step1 P (gt L 0) (x % 3)).map AV.i) (by rw [setL_map]; rfl) ?_
      intro H8 w5
      have ew5 := w5.len
      have q0 := (w5.old _ (by omega)).trans q0
      have q7 := (w5.old _ (by omega)).trans q7
      have qn := (w5.old _ (by omega)).trans qn
      have qp := w5.new
      have hpn : (step1 P (gt L 0) (x % 3)).length = P.length := step1_len _ _ _
      rw [← hpn] at qn
      have tr : ∀ a b c d e f g h i j k m n o p q r s t u v w x y z A B C D E F G H I : AV, let l := lc_stays_ok a b c d e f g h i j k m n o p q r s t u v; trim ((95,I)::(94,H)::(93,G)::(92,F)::(91,E)::(90,D)::(89,C)::(88,B)::(87,A)::(86,z)::(85,y)::(84,x)::(83,w)::l) l = [(0,a),(1,b),(2,c),(3,d),(6,e),(7,f),(8,g),(9,h),(11,i),(12,j),(13,k),(14,m),(15,n),(16,o),(18,p),(20,q),(23,r),(42,s),(51,t),(55,u),(114,v)] := by intros; rfl
      refine R_nil (tr ..) ?_; clear tr
      refine then_n ?_
      refine at_seq rfl ?_
      refine rg rfl ?_
      refine R_q rfl (by simp (disch := first | omega | (simp only [List.length_map, List.length_append, List.length_set, List.length_cons, List.length_nil]; omega)) only [go_sem, ↓reduceIte, Nat.reduceEqDiff, reduceCtorEq, q0, q7, qn, qp, qw] <;> rfl) ?_
      refine Rq ?_
      refine Rcall ?_
      refine ACall_mono (firstO_ok _ _ (step1 P (gt L 0) (x % 3)) L.tail t _ qp) ?_
      rintro r HB ⟨⟨R2, o2, rfl, hv2⟩, rfl⟩
      obtain ⟨ho2, hl2⟩ := firstP_o hv2
      have hL0 : 0 < L.length := by omega
      have hmr : (mostS (step1 P (gt L 0) (x % 3)) L.tail t).2 ≠ 0 → rchkS (step1 P (gt L 0) (x % 3)) L.tail ≠ 0 := fun h => most_rchk h t0 (by rw [hpn]; exact t1)
      have hsc : (mostS (step1 P (gt L 0) (x % 3)) L.tail t).2 = 0 → firstB (step1 P (gt L 0) (x % 3)) L.tail t = true → canBe P L t := fun h7 h8 => stay_can hL0 hxm ((first_can h7 hv2).1 h8)
      have hsa : (mostS (step1 P (gt L 0) (x % 3)) L.tail t).2 = 0 → (thruS P L t).1 = true → (thruS (step1 P (gt L 0) (x % 3)) L.tail t).1 = true := fun h7 h8 => (thru_iff h7).2 (stay_all hL0 hxm (hti.1 h8))
      refine Rq ?_
      refine Rq ?_
      refine Rq ?_
      refine A_alloc rfl ?_
      intro H9 n6
      have en6 := n6.len
      have q0 := (n6.old _ (hget_lt q0)).trans q0
      have q7 := (n6.old _ (hget_lt q7)).trans q7
      have qn := (n6.old _ (hget_lt qn)).trans qn
      have qp := (n6.old _ (hget_lt qp)).trans qp
      have qw := n6.new
      have lq0 := hget_lt q0
      have lq7 := hget_lt q7
      have lqn := hget_lt qn
      have lqp := hget_lt qp
      have lqw := hget_lt qw
      refine A_store ty46 (by simp (disch := first | omega | (simp only [List.length_map, List.length_append, List.length_set, List.length_cons, List.length_nil]; omega)) only [go_sem, ↓reduceIte, Nat.reduceEqDiff, reduceCtorEq, q0, q7, qn, qp, qw] <;> rfl) (by simp (disch := first | omega | (simp only [List.length_map, List.length_append, List.length_set, List.length_cons, List.length_nil]; omega)) only [go_sem, ↓reduceIte, Nat.reduceEqDiff, reduceCtorEq, q0, q7, qn, qp, qw, Bool.and_self, storA (firstS (step1 P (gt L 0) (x % 3)) L.tail t), ho2.stor] <;> rfl) qw ⟨by omega, rfl, by first | exact Nat.le_refl _ | simp⟩ (show _ = [.v (.bool (firstB (step1 P (gt L 0) (x % 3)) L.tail t)), outA (firstS (step1 P (gt L 0) (x % 3)) L.tail t), o2] from rfl) ?_
      intro HA w6
      have ew6 := w6.len
      have q0 := (w6.old _ (by omega)).trans q0
      have q7 := (w6.old _ (by omega)).trans q7
      have qn := (w6.old _ (by omega)).trans qn
      have qp := (w6.old _ (by omega)).trans qp
      have qw := w6.new
      refine Rq ?_
      have tr : ∀ a b c d e f g h i j k m n o p q r s t u v w x y z A B C D : AV, let l := lc_stays_ok a b c d e f g h i j k m n o p q r s t u v; trim ((15,D)::(14,C)::(101,B)::(100,A)::(96,z)::(99,y)::(98,x)::(97,w)::l) l = [(0,a),(1,b),(2,c),(3,d),(6,e),(7,f),(8,g),(9,h),(11,i),(12,j),(13,k),(14,C),(15,D),(16,o),(18,p),(20,q),(23,r),(42,s),(51,t),(55,u),(114,v)] := by intros; rfl
      refine R_nil (tr ..) ?_; clear tr
      refine then_n ?_
      refine at_seq rfl ?_
      refine rg rfl ?_
      refine R_q rfl (by simp (disch := first | omega | (simp only [List.length_map, List.length_append, List.length_set, List.length_cons, List.length_nil]; omega)) only [go_sem, ↓reduceIte, Nat.reduceEqDiff, reduceCtorEq, q0, q7, qn, qp, qw] <;> rfl) ?_
      refine Rq ?_
      refine Rcall ?_
      refine ACall_eq (thr_x _ _ (step1 P (gt L 0) (x % 3)) L.tail t _ (frz_raceO L.tail qp)) ?_
      rewrite [thru_err]
      refine Rq ?_
      refine Rq ?_
      refine Rq ?_
      refine Rq ?_
      refine Rq ?_
      refine Rq ?_
      refine Rq ?_
      have tr : ∀ a b c d e f g h i j k m n o p q r s t u v w x y z A B C D E F : AV, let l := lc_stays_ok a b c d e f g h i j k m n o p q r s t u v; trim ((18,F)::(17,E)::(16,D)::(108,C)::(107,B)::(106,A)::(102,z)::(105,y)::(104,x)::(103,w)::l) l = [(0,a),(1,b),(2,c),(3,d),(6,e),(7,f),(8,g),(9,h),(11,i),(12,j),(13,k),(14,m),(15,n),(16,D),(18,F),(20,q),(23,r),(42,s),(51,t),(55,u),(114,v)] := by intros; rfl
      refine R_nil (tr ..) ?_; clear tr
      refine then_n ?_
      refine at_seq rfl ?_
      refine at_seq rfl ?_
      refine rg rfl ?_
      refine Rq ?_
      refine Rq ?_
      refine Rq ?_
      refine Rp_split (fun h14 => ?_) (fun h14 => ?_)
      ·
       try simp only [decide_eq_true_eq, decide_eq_false_iff_not, Bool.not_eq_true', Bool.not_eq_false', beq_iff_eq, beq_eq_false_iff_ne, ne_eq] at h14
       refine Rn ?_
       refine Rn ?_
       refine Rq ?_
       have tr : ∀ a b c d e f g h i j k m n o p q r s t u v w x y z A B : AV, let l := lc_stays_ok a b c d e f g h i j k m n o p q r s t u v; trim ((114,B)::(113,A)::(112,z)::(111,y)::(110,x)::(109,w)::l) l = [(0,a),(1,b),(2,c),(3,d),(6,e),(7,f),(8,g),(9,h),(11,i),(12,j),(13,k),(14,m),(15,n),(16,o),(18,p),(20,q),(23,r),(42,s),(51,t),(55,u),(114,B)] := by intros; rfl
       refine R_nil (tr ..) ?_; clear tr
       refine then_n ?_
       refine cdt ?_
       refine at_seq rfl ?_
       refine rg rfl ?_
       refine R_q rfl (by simp (disch := first | omega | (simp only [List.length_map, List.length_append, List.length_set, List.length_cons, List.length_nil]; omega)) only [go_sem, ↓reduceIte, Nat.reduceEqDiff, reduceCtorEq, q0, q7, qn, qp, qw] <;> rfl) ?_
       refine Rcall ?_
       refine ACall_eq (chk53_x _ _ (step1 P (gt L 0) (x % 3)) L.tail _ (frz_raceO L.tail qp)) ?_
       refine Rq ?_
       refine Rq ?_
       have tr : ∀ a b c d e f g h i j k m n o p q r s t u v w x y z : AV, let l := lc_stays_ok a b c d e f g h i j k m n o p q r s t u v; trim ((6,z)::(117,y)::(116,x)::(115,w)::l) l = [(0,a),(1,b),(2,c),(3,d),(6,z),(7,f),(8,g),(9,h),(11,i),(12,j),(13,k),(14,m),(15,n),(16,o),(18,p),(20,q),(23,r),(42,s),(51,t),(55,u),(114,v)] := by intros; rfl
       refine R_nil (tr ..) ?_; clear tr
       refine then_n ?_
       refine at_ret rfl ?_
       refine then_r ?_
       refine fpure ?_
       first | rfl | (simp; done) | exact congrArg _ (congrArg _ (by simp_all))
      ·
       try simp only [decide_eq_true_eq, decide_eq_false_iff_not, Bool.not_eq_true', Bool.not_eq_false', beq_iff_eq, beq_eq_false_iff_ne, ne_eq] at h14
       refine Ry ?_
       refine Rq ?_
       refine Ry ?_
       refine Rq ?_
       refine Rq ?_
       have tr : ∀ a b c d e f g h i j k m n o p q r s t u v w x y z A B : AV, let l := lc_stays_ok a b c d e f g h i j k m n o p q r s t u v; trim ((114,B)::(113,A)::(112,z)::(111,y)::(110,x)::(109,w)::l) l = [(0,a),(1,b),(2,c),(3,d),(6,e),(7,f),(8,g),(9,h),(11,i),(12,j),(13,k),(14,m),(15,n),(16,o),(18,p),(20,q),(23,r),(42,s),(51,t),(55,u),(114,B)] := by intros; rfl
       refine R_nil (tr ..) ?_; clear tr
       refine then_n ?_
       refine cdd (fun h15 => ?_) (fun h15 => ?_)
       ·
        try simp only [decide_eq_true_eq, decide_eq_false_iff_not, Bool.not_eq_true', Bool.not_eq_false', beq_iff_eq, beq_eq_false_iff_ne, ne_eq] at h15
        refine at_seq rfl ?_
        refine rg rfl ?_
        refine R_q rfl (by simp (disch := first | omega | (simp only [List.length_map, List.length_append, List.length_set, List.length_cons, List.length_nil]; omega)) only [go_sem, ↓reduceIte, Nat.reduceEqDiff, reduceCtorEq, q0, q7, qn, qp, qw] <;> rfl) ?_
        refine Rcall ?_
        refine ACall_eq (chk53_x _ _ (step1 P (gt L 0) (x % 3)) L.tail _ (frz_raceO L.tail qp)) ?_
        refine Rq ?_
        refine Rq ?_
        have tr : ∀ a b c d e f g h i j k m n o p q r s t u v w x y z : AV, let l := lc_stays_ok a b c d e f g h i j k m n o p q r s t u v; trim ((6,z)::(117,y)::(116,x)::(115,w)::l) l = [(0,a),(1,b),(2,c),(3,d),(6,z),(7,f),(8,g),(9,h),(11,i),(12,j),(13,k),(14,m),(15,n),(16,o),(18,p),(20,q),(23,r),(42,s),(51,t),(55,u),(114,v)] := by intros; rfl
        refine R_nil (tr ..) ?_; clear tr
        refine then_n ?_
        refine at_ret rfl ?_
        refine then_r ?_
        refine fpure ?_
        first | rfl | (simp; done) | exact congrArg _ (congrArg _ (by simp_all))
       ·
        try simp only [decide_eq_true_eq, decide_eq_false_iff_not, Bool.not_eq_true', Bool.not_eq_false', beq_iff_eq, beq_eq_false_iff_ne, ne_eq] at h15
        refine at_skip rfl ?_
        refine then_n ?_
        refine at_seq rfl ?_
        refine rg rfl ?_
        refine Rq ?_
        refine R_q rfl (by simp (disch := first | omega | (simp only [List.length_map, List.length_append, List.length_set, List.length_cons, List.length_nil]; omega)) only [go_sem, ↓reduceIte, Nat.reduceEqDiff, reduceCtorEq, q0, q7, qn, qp, qw] <;> rfl) ?_
        refine Rq ?_
        refine Rp_split (fun h16 => ?_) (fun h16 => ?_)
        ·
         try simp only [decide_eq_true_eq, decide_eq_false_iff_not, Bool.not_eq_true', Bool.not_eq_false', beq_iff_eq, beq_eq_false_iff_ne, ne_eq] at h16
         refine Rn ?_
         refine Rn ?_
         refine Rn ?_
         refine Rq ?_
         refine Rq ?_
         refine Ry ?_
         refine Rq ?_
         refine Ry ?_
         refine Rq ?_
         refine Ry ?_
         refine Rq ?_
         refine Rp_split (fun h17 => ?_) (fun h17 => ?_)
         ·
          try simp only [decide_eq_true_eq, decide_eq_false_iff_not, Bool.not_eq_true', Bool.not_eq_false', beq_iff_eq, beq_eq_false_iff_ne, ne_eq] at h17
          refine Rn ?_
          refine Ry ?_
          refine Rq ?_
          refine Rq ?_
          refine Rq ?_
          have tr : ∀ a b c d e f g h i j k m n o p q r s t u v w x y z A B C D E F G H I J K : AV, let l := lc_stays_ok a b c d e f g h i j k m n o p q r s t u v; trim ((6,K)::(131,J)::(130,I)::(129,H)::(128,G)::(127,F)::(126,E)::(125,D)::(124,C)::(123,B)::(122,A)::(121,z)::(120,y)::(119,x)::(118,w)::l) l = [(0,a),(1,b),(2,c),(3,d),(6,K),(7,f),(8,g),(9,h),(11,i),(12,j),(13,k),(14,m),(15,n),(16,o),(18,p),(20,q),(23,r),(42,s),(51,t),(55,u),(114,v)] := by intros; rfl
          refine R_nil (tr ..) ?_; clear tr
          refine then_n ?_
          refine at_ret rfl ?_
          refine fpure ?_
          first | rfl | (simp; done) | exact congrArg _ (congrArg _ (by simp_all))
         ·
          try simp only [decide_eq_true_eq, decide_eq_false_iff_not, Bool.not_eq_true', Bool.not_eq_false', beq_iff_eq, beq_eq_false_iff_ne, ne_eq] at h17
          refine Ry ?_
          refine Rq ?_
          refine Ry ?_
          refine Rq ?_
          refine Rq ?_
          refine Rq ?_
          have tr : ∀ a b c d e f g h i j k m n o p q r s t u v w x y z A B C D E F G H I J K : AV, let l := lc_stays_ok a b c d e f g h i j k m n o p q r s t u v; trim ((6,K)::(131,J)::(130,I)::(129,H)::(128,G)::(127,F)::(126,E)::(125,D)::(124,C)::(123,B)::(122,A)::(121,z)::(120,y)::(119,x)::(118,w)::l) l = [(0,a),(1,b),(2,c),(3,d),(6,K),(7,f),(8,g),(9,h),(11,i),(12,j),(13,k),(14,m),(15,n),(16,o),(18,p),(20,q),(23,r),(42,s),(51,t),(55,u),(114,v)] := by intros; rfl
          refine R_nil (tr ..) ?_; clear tr
          refine then_n ?_
          refine at_ret rfl ?_
          refine fpure ?_
          first | rfl | (simp; done) | exact congrArg _ (congrArg _ (by simp_all))
        ·
         try simp only [decide_eq_true_eq, decide_eq_false_iff_not, Bool.not_eq_true', Bool.not_eq_false', beq_iff_eq, beq_eq_false_iff_ne, ne_eq] at h16
         refine Ry ?_
         refine Rq ?_
         refine Ry ?_
         refine R_q rfl (by simp (disch := first | omega | (simp only [List.length_map, List.length_append, List.length_set, List.length_cons, List.length_nil]; omega)) only [go_sem, ↓reduceIte, Nat.reduceEqDiff, reduceCtorEq, q0, q7, qn, qp, qw] <;> rfl) ?_
         refine Ry ?_
         refine Rq ?_
         refine Rq ?_
         refine Rq ?_
         refine Rp_split (fun h18 => ?_) (fun h18 => ?_)
         ·
          try simp only [decide_eq_true_eq, decide_eq_false_iff_not, Bool.not_eq_true', Bool.not_eq_false', beq_iff_eq, beq_eq_false_iff_ne, ne_eq] at h18
          refine Ry ?_
          refine Rq ?_
          refine Ry ?_
          refine Rq ?_
          refine Ry ?_
          refine Rq ?_
          refine Rp_split (fun h19 => ?_) (fun h19 => ?_)
          ·
           try simp only [decide_eq_true_eq, decide_eq_false_iff_not, Bool.not_eq_true', Bool.not_eq_false', beq_iff_eq, beq_eq_false_iff_ne, ne_eq] at h19
           refine Rn ?_
           refine Ry ?_
           refine Rq ?_
           refine Rq ?_
           refine Rq ?_
           have tr : ∀ a b c d e f g h i j k m n o p q r s t u v w x y z A B C D E F G H I J K : AV, let l := lc_stays_ok a b c d e f g h i j k m n o p q r s t u v; trim ((6,K)::(131,J)::(130,I)::(129,H)::(128,G)::(127,F)::(126,E)::(125,D)::(124,C)::(123,B)::(122,A)::(121,z)::(120,y)::(119,x)::(118,w)::l) l = [(0,a),(1,b),(2,c),(3,d),(6,K),(7,f),(8,g),(9,h),(11,i),(12,j),(13,k),(14,m),(15,n),(16,o),(18,p),(20,q),(23,r),(42,s),(51,t),(55,u),(114,v)] := by intros; rfl
           refine R_nil (tr ..) ?_; clear tr
           refine then_n ?_
           refine at_ret rfl ?_
           refine fpure ?_
           first | rfl | (simp; done) | exact congrArg _ (congrArg _ (by simp_all))
          ·
           try simp only [decide_eq_true_eq, decide_eq_false_iff_not, Bool.not_eq_true', Bool.not_eq_false', beq_iff_eq, beq_eq_false_iff_ne, ne_eq] at h19
           refine Ry ?_
           refine Rq ?_
           refine Ry ?_
           refine Rq ?_
           refine Rq ?_
           refine Rq ?_
           have tr : ∀ a b c d e f g h i j k m n o p q r s t u v w x y z A B C D E F G H I J K : AV, let l := lc_stays_ok a b c d e f g h i j k m n o p q r s t u v; trim ((6,K)::(131,J)::(130,I)::(129,H)::(128,G)::(127,F)::(126,E)::(125,D)::(124,C)::(123,B)::(122,A)::(121,z)::(120,y)::(119,x)::(118,w)::l) l = [(0,a),(1,b),(2,c),(3,d),(6,K),(7,f),(8,g),(9,h),(11,i),(12,j),(13,k),(14,m),(15,n),(16,o),(18,p),(20,q),(23,r),(42,s),(51,t),(55,u),(114,v)] := by intros; rfl
           refine R_nil (tr ..) ?_; clear tr
           refine then_n ?_
           refine at_ret rfl ?_
           refine fpure ?_
           first | rfl | (simp; done) | exact congrArg _ (congrArg _ (by simp_all))
         ·
          try simp only [decide_eq_true_eq, decide_eq_false_iff_not, Bool.not_eq_true', Bool.not_eq_false', beq_iff_eq, beq_eq_false_iff_ne, ne_eq] at h18
          refine Rn ?_
          refine Rn ?_
          refine Rn ?_
          refine Ru ?_
          refine Rn ?_
          refine Rq ?_
          refine Rq ?_
          have tr : ∀ a b c d e f g h i j k m n o p q r s t u v w x y z A B C D E F G H I J K : AV, let l := lc_stays_ok a b c d e f g h i j k m n o p q r s t u v; trim ((6,K)::(131,J)::(130,I)::(129,H)::(128,G)::(127,F)::(126,E)::(125,D)::(124,C)::(123,B)::(122,A)::(121,z)::(120,y)::(119,x)::(118,w)::l) l = [(0,a),(1,b),(2,c),(3,d),(6,K),(7,f),(8,g),(9,h),(11,i),(12,j),(13,k),(14,m),(15,n),(16,o),(18,p),(20,q),(23,r),(42,s),(51,t),(55,u),(114,v)] := by intros; rfl
          refine R_nil (tr ..) ?_; clear tr
          refine then_n ?_
          refine at_ret rfl ?_
          refine fpure ?_
          first | rfl | (simp; done) | exact congrArg _ (congrArg _ (by simp_all))

end Go.Proofs.Ytdicnojnkbmdlaa
end
section
namespace Go.Am
open Go
section
variable {H : Type} {enc : TypeId × Value → H} {P : Program} {w : World} {held : Bool}

abbrev In (w : World) : Nat → Prop := fun k => k < w.heap.size

theorem cell_lt {w : World} {a : Addr} {v : Value} (h : w.cell? a = some v) : a.block < w.heap.size := by
  unfold World.cell? at h
  by_cases hb : a.block < w.heap.size
  · exact hb
  · rw [Array.getElem?_eq_none (by omega)] at h
    simp at h

theorem den_slice {α : Type} (f : α → AV) {t e : TypeId} {fuel : Nat} {cs : List Value} {x : DataW H × List MemPlace} (ht : P.underlying t = some (.slice e)) (hc : P.cellsOf e = 1)
    (each : ∀ n cs x, DataW.trod enc P w 0 (fun _ => true) held n e cs = some x → ∃ d v, cs = [v] ∧ Den [] (In w) w (f d) v)
    (h : DataW.trod enc P w 0 (fun _ => true) held fuel t cs = some x) : ∃ (l : List α) (v : Value), cs = [v] ∧ Den [] (In w) w (.sl l.length (l.map f)) v := by
  rcases DataW.trod_slice ht h with ⟨rfl, _⟩ | ⟨a, len, cap, elems, rest, n, _, rfl, _, _, hl, hm, hlen, hel, hsp, _⟩
  · exact ⟨[], _, rfl, .sl0 _ _⟩
  · have get : ∀ i, i < cap → ∃ c d, w.cell? (a.add i) = some c ∧ Den [] (In w) w (f d) c := by
      intro i hi
      have hb : ∃ y, (w.cells? 0 (a.add (i * P.cellsOf e)) (P.cellsOf e)).bind (DataW.trod enc P w 0 (fun _ => true) held n e) = some y := by
        by_cases h1 : i < len
        · exact ⟨elems[i]'(by omega), by rw [hel i h1, List.getElem?_eq_getElem (by omega)]⟩
        · obtain ⟨hr, hrr⟩ := hsp rfl
          have := hrr (i - len) (by omega)
          rw [show len + (i - len) = i by omega] at this
          exact ⟨rest[i - len]'(by omega), by rw [this, List.getElem?_eq_getElem (by omega)]⟩
      obtain ⟨y, hy⟩ := hb
      rw [hc, Nat.mul_one, Option.bind_eq_some_iff] at hy
      obtain ⟨cs', hcs, hy'⟩ := hy
      obtain ⟨d, v, rfl, hd⟩ := each _ _ _ hy'
      have e0 : (a.add i).add 0 = a.add i := by simp [Addr.add]
      unfold World.cells? at hcs
      rw [if_pos (Nat.zero_le _)] at hcs
      simp only [List.range_succ, List.range_zero, List.nil_append, List.mapM_cons, List.mapM_nil, e0] at hcs
      cases hcc : w.cell? (a.add i) with
      | none => simp [hcc] at hcs
      | some c =>
        simp [hcc] at hcs
        exact ⟨c, d, rfl, by rw [hcs]; exact hd⟩
    by_cases h0 : cap = 0
    · subst h0
      have : len = 0 := by omega
      subst this
      exact ⟨[], _, rfl, .sl0 _ _⟩
    · obtain ⟨c0, d0, hc0, _⟩ := get 0 (by omega)
      have hs : a.spot = none := by have := World.cell?_spot hc0; simpa [Addr.add] using this
      have hb : a.block < w.heap.size := by have := cell_lt hc0; simpa [Addr.add] using this
      have ad : ∀ i, a.add i = ⟨a.block, a.off + i, none⟩ := by
        intro i
        obtain ⟨ab, ao, asp⟩ := a
        simp only at hs
        subst hs
        simp only [Addr.add]
        split
        · rename_i hi; rw [hi]; rfl
        · rfl
      have pick : ∀ i, ∃ d : α, i < len → ∃ c, w.cell? (a.add i) = some c ∧ Den [] (In w) w (f d) c := by
        intro i
        by_cases hi : i < len
        · obtain ⟨c, d, h1, h2⟩ := get i (by omega)
          exact ⟨d, fun _ => ⟨c, h1, h2⟩⟩
        · exact ⟨d0, fun h => absurd h hi⟩
      let D : Nat → α := fun i => (pick i).choose
      have hD : ∀ i, i < len → ∃ c, w.cell? (a.add i) = some c ∧ Den [] (In w) w (f (D i)) c := fun i => (pick i).choose_spec
      refine ⟨(List.range len).map D, _, rfl, ?_⟩
      have hlen2 : ((List.range len).map D).length = len := by simp
      rw [hlen2]
      have gx : ∀ (j : Nat) (x : AV), (((List.range len).map D).map f)[j]? = some x → j < len ∧ x = f (D j) := by
        intro j x hx
        simp only [List.map_map, List.getElem?_map, Option.map_eq_some_iff, Function.comp] at hx
        obtain ⟨k, hk, rfl⟩ := hx
        obtain ⟨hj, hk⟩ := List.getElem?_eq_some_iff.1 hk
        simp at hj hk
        subst hk
        exact ⟨hj, rfl⟩
      refine .sl len _ cap a (fun j => (w.cell? (a.add j)).getD undef) hl hm hs hb ?_ ?_
      · intro j x hx
        obtain ⟨hj, _⟩ := gx j x hx
        obtain ⟨c, h1, _⟩ := hD j hj
        rw [← ad j, h1]; rfl
      · intro j x hx
        obtain ⟨hj, rfl⟩ := gx j x hx
        obtain ⟨c, h1, h2⟩ := hD j hj
        rw [h1]; exact h2

theorem den_int {e : TypeId} (he : P.underlying e = some (.int .i64)) : ∀ n cs (x : DataW H × List MemPlace), DataW.trod enc P w 0 (fun _ => true) held n e cs = some x → ∃ d v, cs = [v] ∧ Den [] (In w) w (AV.i d) v := by
  intro n cs x h
  obtain ⟨m, rfl, _, _⟩ := DataW.trod_int he h
  exact ⟨m, _, rfl, .v _⟩
end
end Go.Am
end
