/-
  Walks of chapters 37, 39 and 40. The steps are written by program (walk.py).
-/
import Derived.Test.YtaoondlakhocnaaRC
set_option linter.unusedSimpArgs false
set_option linter.unusedVariables false
set_option maxHeartbeats 40000000
set_option maxRecDepth 4000
namespace Go.Proofs.Ytaoondlakhocnaa
open Go Go.Am

abbrev lc_rends_ok (a b c d e f g h i j k m : AV) : Env := [(0,a),(1,b),(2,c),(3,d),(5,e),(9,f),(14,g),(15,h),(16,i),(17,j),(21,k),(33,m)]
theorem rends_ok (lim : Nat) (H : Heap) (rows : List (List Int)) :
    ACall sig lim 67 [.agg [rowsAV rows]] H fun r H' => r = AV.i (rawS rows) ∧ H' = H := by
 refine ACall_pure (fa := fa67) rfl rfl rfl rfl ?_
 have tr : ∀ a0 : AV, env0 fa67.keep [a0] = [(0,a0),(1,.any),(2,.any),(3,.any),(5,.any),(9,.any),(14,.any),(15,.any),(16,.any),(17,.any),(21,.any),(33,.any)] := fun a0 => rfl
 refine W_to (tr _) ?_; clear tr
 refine at_seq rfl ?_
 refine rg rfl ?_
 refine R_box rfl (by simp (disch := first | omega | (simp only [List.length_map, List.length_append, List.length_set, List.length_cons, List.length_nil]; omega)) only [go_sem, ↓reduceIte, Nat.reduceEqDiff, reduceCtorEq]; rfl) rfl rfl ?_
 refine Rq ?_
 have tr : ∀ a b c d e f g h i j k m n o : AV, let l := lc_rends_ok a b c d e f g h i j k m; trim ((2,o)::(1,n)::l) l = [(0,a),(1,n),(2,o),(3,d),(5,e),(9,f),(14,g),(15,h),(16,i),(17,j),(21,k),(33,m)] := by intros; rfl
 refine R_nil (tr ..) ?_; clear tr
 refine then_n ?_
 refine at_seq rfl ?_
 refine at_seq rfl ?_
 refine rg rfl ?_
 refine Rq ?_
 refine Rcall ?_
 refine ACall_eq (rshape_ok _ _ _) ?_
 refine Rq ?_
 have tr : ∀ a b c d e f g h i j k m n o p : AV, let l := lc_rends_ok a b c d e f g h i j k m; trim ((3,p)::(7,o)::(6,n)::l) l = [(0,a),(1,b),(2,c),(3,p),(5,e),(9,f),(14,g),(15,h),(16,i),(17,j),(21,k),(33,m)] := by intros; rfl
 refine R_nil (tr ..) ?_; clear tr
 refine then_n ?_
 refine at_seq rfl ?_
 refine rg rfl ?_
 refine Rq ?_
 refine Rq ?_
 have tr : ∀ a b c d e f g h i j k m n o : AV, let l := lc_rends_ok a b c d e f g h i j k m; trim ((9,o)::(8,n)::l) l = [(0,a),(1,b),(2,c),(3,d),(5,e),(9,o),(14,g),(15,h),(16,i),(17,j),(21,k),(33,m)] := by intros; rfl
 refine R_nil (tr ..) ?_; clear tr
 refine then_n ?_
 refine cdd (fun h1 => ?_) (fun h1 => ?_)
 ·
  try simp only [decide_eq_true_eq, decide_eq_false_iff_not, Bool.not_eq_true', Bool.not_eq_false', beq_iff_eq, beq_eq_false_iff_ne, ne_eq] at h1
  refine at_seq rfl ?_
  refine rg rfl ?_
  refine Rq ?_
  refine Rq ?_
  have tr : ∀ a b c d e f g h i j k m n o : AV, let l := lc_rends_ok a b c d e f g h i j k m; trim ((2,o)::(10,n)::l) l = [(0,a),(1,b),(2,o),(3,d),(5,e),(9,f),(14,g),(15,h),(16,i),(17,j),(21,k),(33,m)] := by intros; rfl
  refine R_nil (tr ..) ?_; clear tr
  refine then_n ?_
  refine at_ret rfl ?_
  refine then_r ?_
  refine fpure ?_
  refine ⟨?_, rfl⟩
  rw [rawS, if_pos h1]
 ·
  try simp only [decide_eq_true_eq, decide_eq_false_iff_not, Bool.not_eq_true', Bool.not_eq_false', beq_iff_eq, beq_eq_false_iff_ne, ne_eq] at h1
  refine at_skip rfl ?_
  refine then_n ?_
  refine at_seq rfl ?_
  refine at_seq rfl ?_
  refine rg rfl ?_
  obtain ⟨g2, g91, g1, g10, gl, gr⟩ := shaped_of h1
  have gl1 := gl (rows.length - 1) (by omega)
  refine Rq ?_
  refine Rq ?_
  refine Rq ?_
  refine Rq ?_
  refine Rq ?_
  refine Rq ?_
  have tr : ∀ a b c d e f g h i j k m n o p q r s : AV, let l := lc_rends_ok a b c d e f g h i j k m; trim ((16,s)::(15,r)::(14,q)::(13,p)::(12,o)::(11,n)::l) l = [(0,a),(1,b),(2,c),(3,d),(5,e),(9,f),(14,q),(15,r),(16,s),(17,j),(21,k),(33,m)] := by intros; rfl
  refine R_nil (tr ..) ?_; clear tr
  refine then_n ?_
  refine at_block rfl ?_
  refine loop_n rfl (fun mm kv H' => ∃ w : Nat, ∃ x2 x5 x17 x21 : AV, (kv = [(2, x2), (5, x5), (16, AV.i w), (17, x17), (21, x21)]) ∧ (mm = (gt rows 0).length - w) ∧ (H' = H ++ [some [rowsAV rows]]) ∧ (w ≤ (gt rows 0).length) ∧ (∀ j, j < w → gt (gt rows 0) j = 0)) ⟨0, _, _, _, _, rfl, rfl, rfl, by omega, by intro i hi; omega⟩ (by rfl) ?_
  rintro mm kv H' ⟨w, x2, x5, x17, x21, rfl, rfl, rfl, hw, hz⟩
  have tr : ∀ a b c d e f g h i j k m n o p q r : AV, upd [(0,a),(1,b),(2,c),(3,d),(5,e),(9,f),(14,g),(15,h),(16,i),(17,j),(21,k),(33,m)] [(2,n),(5,o),(16,p),(17,q),(21,r)] = [(0,a),(1,b),(2,n),(3,d),(5,o),(9,f),(14,g),(15,h),(16,p),(17,q),(21,r),(33,m)] := by intros; rfl
  refine W_to (tr ..) ?_; clear tr
  refine at_seq rfl ?_
  refine rg rfl ?_
  refine Rq ?_
  have tr : ∀ a b c d e f g h i j k m n : AV, let l := lc_rends_ok a b c d e f g h i j k m; trim ((17,n)::l) l = [(0,a),(1,b),(2,c),(3,d),(5,e),(9,f),(14,g),(15,h),(16,i),(17,n),(21,k),(33,m)] := by intros; rfl
  refine R_nil (tr ..) ?_; clear tr
  refine then_n ?_
  refine at_seq rfl ?_
  refine cdd (fun h2 => ?_) (fun h2 => ?_)
  ·
   try simp only [decide_eq_true_eq, decide_eq_false_iff_not, Bool.not_eq_true', Bool.not_eq_false', beq_iff_eq, beq_eq_false_iff_ne, ne_eq] at h2
   refine at_skip rfl ?_
   refine then_n ?_
   refine at_seq rfl ?_
   refine at_block rfl ?_
   refine at_seq rfl ?_
   refine rg rfl ?_
   refine Rq ?_
   refine Rq ?_
   refine Rq ?_
   have tr : ∀ a b c d e f g h i j k m n o p : AV, let l := lc_rends_ok a b c d e f g h i j k m; trim ((5,p)::(19,o)::(18,n)::l) l = [(0,a),(1,b),(2,c),(3,d),(5,p),(9,f),(14,g),(15,h),(16,i),(17,j),(21,k),(33,m)] := by intros; rfl
   refine R_nil (tr ..) ?_; clear tr
   refine then_n ?_
   refine at_seq rfl ?_
   refine rg rfl ?_
   refine Rq ?_
   refine Rq ?_
   have tr : ∀ a b c d e f g h i j k m n o : AV, let l := lc_rends_ok a b c d e f g h i j k m; trim ((21,o)::(20,n)::l) l = [(0,a),(1,b),(2,c),(3,d),(5,e),(9,f),(14,g),(15,h),(16,i),(17,j),(21,o),(33,m)] := by intros; rfl
   refine R_nil (tr ..) ?_; clear tr
   refine then_n ?_
   refine cdd (fun h3 => ?_) (fun h3 => ?_)
   ·
    try simp only [decide_eq_true_eq, decide_eq_false_iff_not, Bool.not_eq_true', Bool.not_eq_false', beq_iff_eq, beq_eq_false_iff_ne, ne_eq] at h3
    refine at_seq rfl ?_
    refine rg rfl ?_
    refine Rq ?_
    have tr : ∀ a b c d e f g h i j k m n : AV, let l := lc_rends_ok a b c d e f g h i j k m; trim ((2,n)::l) l = [(0,a),(1,b),(2,n),(3,d),(5,e),(9,f),(14,g),(15,h),(16,i),(17,j),(21,k),(33,m)] := by intros; rfl
    refine R_nil (tr ..) ?_; clear tr
    refine then_n ?_
    refine at_ret rfl ?_
    refine blk_r ?_
    refine then_r ?_
    refine then_r ?_
    refine blk_r ?_
    refine then_r ?_
    refine fpure ?_
    refine ⟨?_, rfl⟩
    rw [rawS, if_neg (fun hh => hh h1), endsS, if_pos (fun hh => absurd (hh w (by omega)) (by omega))]
   ·
    try simp only [decide_eq_true_eq, decide_eq_false_iff_not, Bool.not_eq_true', Bool.not_eq_false', beq_iff_eq, beq_eq_false_iff_ne, ne_eq] at h3
    refine at_skip rfl ?_
    refine blk_n ?_
    refine then_n ?_
    refine rg rfl ?_
    refine Rq ?_
    refine Rq ?_
    have tr : ∀ a b c d e f g h i j k m n o : AV, let l := lc_rends_ok a b c d e f g h i j k m; trim ((16,o)::(22,n)::l) l = [(0,a),(1,b),(2,c),(3,d),(5,e),(9,f),(14,g),(15,h),(16,o),(17,j),(21,k),(33,m)] := by intros; rfl
    refine R_nil (tr ..) ?_; clear tr
    refine then_n ?_
    exact ⟨_, _, ⟨w + 1, _, _, _, _, rfl, rfl, rfl, by omega, by exact all_step hz (by omega)⟩, by rfl, by omega⟩
  ·
   try simp only [decide_eq_true_eq, decide_eq_false_iff_not, Bool.not_eq_true', Bool.not_eq_false', beq_iff_eq, beq_eq_false_iff_ne, ne_eq] at h2
   refine at_exit rfl ?_
   refine then_x ?_
   refine then_x ?_
   refine blk_x ?_
   refine then_n ?_
   refine at_seq rfl ?_
   refine at_seq rfl ?_
   refine rg rfl ?_
   refine Rq ?_
   refine Rq ?_
   refine Rq ?_
   refine Rq ?_
   refine Rq ?_
   refine Rq ?_
   refine Rq ?_
   refine Rq ?_
   refine Rq ?_
   refine Rq ?_
   refine Rq ?_
   have tr : ∀ a b c d e f g h i j k m n o p q r s t u v w x : AV, let l := lc_rends_ok a b c d e f g h i j k m; trim ((33,x)::(32,w)::(31,v)::(30,u)::(29,t)::(28,s)::(27,r)::(26,q)::(25,p)::(24,o)::(23,n)::l) l = [(0,a),(1,b),(2,c),(3,d),(5,e),(9,f),(14,g),(15,h),(16,i),(17,j),(21,k),(33,x)] := by intros; rfl
   refine R_nil (tr ..) ?_; clear tr
   refine then_n ?_
   refine cdd (fun h4 => ?_) (fun h4 => ?_)
   ·
    try simp only [decide_eq_true_eq, decide_eq_false_iff_not, Bool.not_eq_true', Bool.not_eq_false', beq_iff_eq, beq_eq_false_iff_ne, ne_eq] at h4
    refine at_seq rfl ?_
    refine rg rfl ?_
    refine Rq ?_
    have tr : ∀ a b c d e f g h i j k m n : AV, let l := lc_rends_ok a b c d e f g h i j k m; trim ((2,n)::l) l = [(0,a),(1,b),(2,n),(3,d),(5,e),(9,f),(14,g),(15,h),(16,i),(17,j),(21,k),(33,m)] := by intros; rfl
    refine R_nil (tr ..) ?_; clear tr
    refine then_n ?_
    refine at_ret rfl ?_
    refine then_r ?_
    refine fpure ?_
    refine ⟨?_, rfl⟩
    rw [rawS, if_neg (fun hh => hh h1), endsS, if_neg (fun hh => hh fun i hi => hz i (by omega)), if_pos (by omega)]
   ·
    try simp only [decide_eq_true_eq, decide_eq_false_iff_not, Bool.not_eq_true', Bool.not_eq_false', beq_iff_eq, beq_eq_false_iff_ne, ne_eq] at h4
    refine at_skip rfl ?_
    refine then_n ?_
    refine at_seq rfl ?_
    refine rg rfl ?_
    refine Rq ?_
    have tr : ∀ a b c d e f g h i j k m n : AV, let l := lc_rends_ok a b c d e f g h i j k m; trim ((2,n)::l) l = [(0,a),(1,b),(2,n),(3,d),(5,e),(9,f),(14,g),(15,h),(16,i),(17,j),(21,k),(33,m)] := by intros; rfl
    refine R_nil (tr ..) ?_; clear tr
    refine then_n ?_
    refine at_ret rfl ?_
    refine fpure ?_
    refine ⟨?_, rfl⟩
    rw [rawS, if_neg (fun hh => hh h1), endsS, if_neg (fun hh => hh fun i hi => hz i (by omega)), if_neg (by omega)]

end Go.Proofs.Ytaoondlakhocnaa
