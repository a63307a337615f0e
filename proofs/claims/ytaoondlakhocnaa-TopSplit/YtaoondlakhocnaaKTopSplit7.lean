/-
  Texts of TopSplit, part 8 of 15. Walks of chapters 37, 39 and 40. The steps are written by program (walk.py).
-/
import Derived.Test.YtaoondlakhocnaaKTopSplit6
section
set_option linter.unusedSimpArgs false
set_option linter.unusedVariables false
set_option maxHeartbeats 40000000
set_option maxRecDepth 4000
namespace Go.Proofs.Ytaoondlakhocnaa
open Go Go.Am

abbrev lc_rends_ok (a b c d e f g h i j k m : AV) : Env := [(0,a),(1,b),(2,c),(3,d),(5,e),(9,f),(14,g),(15,h),(16,i),(17,j),(21,k),(33,m)]
theorem rends_ok (lim : Nat) (H : Heap) (rows : List (List Int)) :
    ACall sig lim 67 [.agg [rowsAV rows]] H fun r H' => r = AV.i (rawS rows) ∧ H' = H := by
 refine ACall_pure (fa := fa67) rfl rfl rfl rfl ?_
 have tr : ∀ a0 : AV, env0 fa67.keep [a0] = [(0,a0),(1,.any),(2,.any),(3,.any),(5,.any),(9,.any),(14,.any),(15,.any),(16,.any),(17,.any),(21,.any),(33,.any)] := fun a0 => rfl
 refine W_to (tr _) ?_; clear tr
 refine at_seq rfl ?_
 refine rg rfl ?_
 refine R_box rfl (by simp (disch := first | omega | (simp only [List.length_map, List.length_append, List.length_set, List.length_cons, List.length_nil]; omega)) only [go_sem, ↓reduceIte, Nat.reduceEqDiff, reduceCtorEq] <;> rfl) rfl rfl ?_
 refine Rq ?_
 have tr : ∀ a b c d e f g h i j k m n o : AV, let l := lc_rends_ok a b c d e f g h i j k m; trim ((2,o)::(1,n)::l) l = [(0,a),(1,n),(2,o),(3,d),(5,e),(9,f),(14,g),(15,h),(16,i),(17,j),(21,k),(33,m)] := by intros; rfl
 refine R_nil (tr ..) ?_; clear tr
 refine then_n ?_
 refine at_seq rfl ?_
 refine at_seq rfl ?_
 refine rg rfl ?_
 refine Rq ?_
 refine Rcall ?_
 refine ACall_eq (rshape_ok _ _ _) ?_
 refine Rq ?_
 have tr : ∀ a b c d e f g h i j k m n o p : AV, let l := lc_rends_ok a b c d e f g h i j k m; trim ((3,p)::(7,o)::(6,n)::l) l = [(0,a),(1,b),(2,c),(3,p),(5,e),(9,f),(14,g),(15,h),(16,i),(17,j),(21,k),(33,m)] := by intros; rfl
 refine R_nil (tr ..) ?_; clear tr
 refine then_n ?_
 refine at_seq rfl ?_
 refine rg rfl ?_
 refine Rq ?_
 refine Rq ?_
 have tr : ∀ a b c d e f g h i j k m n o : AV, let l := lc_rends_ok a b c d e f g h i j k m; trim ((9,o)::(8,n)::l) l = [(0,a),(1,b),(2,c),(3,d),(5,e),(9,o),(14,g),(15,h),(16,i),(17,j),(21,k),(33,m)] := by intros; rfl
 refine R_nil (tr ..) ?_; clear tr
 refine then_n ?_
 refine cdd (fun h1 => ?_) (fun h1 => ?_)
 ·
  try simp only [decide_eq_true_eq, decide_eq_false_iff_not, Bool.not_eq_true', Bool.not_eq_false', beq_iff_eq, beq_eq_false_iff_ne, ne_eq] at h1
  refine at_seq rfl ?_
  refine rg rfl ?_
  refine Rq ?_
  refine Rq ?_
  have tr : ∀ a b c d e f g h i j k m n o : AV, let l := lc_rends_ok a b c d e f g h i j k m; trim ((2,o)::(10,n)::l) l = [(0,a),(1,b),(2,o),(3,d),(5,e),(9,f),(14,g),(15,h),(16,i),(17,j),(21,k),(33,m)] := by intros; rfl
  refine R_nil (tr ..) ?_; clear tr
  refine then_n ?_
  refine at_ret rfl ?_
  refine then_r ?_
  refine fpure ?_
  refine ⟨?_, rfl⟩
  rw [rawS, if_pos h1]
 ·
  try simp only [decide_eq_true_eq, decide_eq_false_iff_not, Bool.not_eq_true', Bool.not_eq_false', beq_iff_eq, beq_eq_false_iff_ne, ne_eq] at h1
  refine at_skip rfl ?_
  refine then_n ?_
  refine at_seq rfl ?_
  refine at_seq rfl ?_
  refine rg rfl ?_
  obtain ⟨g2, g91, g1, g10, gl, gr⟩ := shaped_of h1
  have gl1 := gl (rows.length - 1) (by omega)
  refine Rq ?_
  refine Rq ?_
  refine Rq ?_
  refine Rq ?_
  refine Rq ?_
  refine Rq ?_
  have tr : ∀ a b c d e f g h i j k m n o p q r s : AV, let l := lc_rends_ok a b c d e f g h i j k m; trim ((16,s)::(15,r)::(14,q)::(13,p)::(12,o)::(11,n)::l) l = [(0,a),(1,b),(2,c),(3,d),(5,e),(9,f),(14,q),(15,r),(16,s),(17,j),(21,k),(33,m)] := by intros; rfl
  refine R_nil (tr ..) ?_; clear tr
  refine then_n ?_
  refine at_block rfl ?_
  refine loop_n rfl (fun mm kv H' => ∃ w : Nat, ∃ x2 x5 x17 x21 : AV, (kv = [(2, x2), (5, x5), (16, AV.i w), (17, x17), (21, x21)]) ∧ (mm = (gt rows 0).length - w) ∧ (H' = H ++ [some [rowsAV rows]]) ∧ (w ≤ (gt rows 0).length) ∧ (∀ j, j < w → gt (gt rows 0) j = 0)) ⟨0, _, _, _, _, rfl, rfl, rfl, by omega, by intro i hi; omega⟩ (by rfl) ?_
  rintro mm kv H' ⟨w, x2, x5, x17, x21, rfl, rfl, rfl, hw, hz⟩
  have tr : ∀ a b c d e f g h i j k m n o p q r : AV, upd [(0,a),(1,b),(2,c),(3,d),(5,e),(9,f),(14,g),(15,h),(16,i),(17,j),(21,k),(33,m)] [(2,n),(5,o),(16,p),(17,q),(21,r)] = [(0,a),(1,b),(2,n),(3,d),(5,o),(9,f),(14,g),(15,h),(16,p),(17,q),(21,r),(33,m)] := by intros; rfl
  refine W_to (tr ..) ?_; clear tr
  refine at_seq rfl ?_
  refine rg rfl ?_
  refine Rq ?_
  have tr : ∀ a b c d e f g h i j k m n : AV, let l := lc_rends_ok a b c d e f g h i j k m; trim ((17,n)::l) l = [(0,a),(1,b),(2,c),(3,d),(5,e),(9,f),(14,g),(15,h),(16,i),(17,n),(21,k),(33,m)] := by intros; rfl
  refine R_nil (tr ..) ?_; clear tr
  refine then_n ?_
  refine at_seq rfl ?_
  refine cdd (fun h2 => ?_) (fun h2 => ?_)
  ·
   try simp only [decide_eq_true_eq, decide_eq_false_iff_not, Bool.not_eq_true', Bool.not_eq_false', beq_iff_eq, beq_eq_false_iff_ne, ne_eq] at h2
   refine at_skip rfl ?_
   refine then_n ?_
   refine at_seq rfl ?_
   refine at_block rfl ?_
   refine at_seq rfl ?_
   refine rg rfl ?_
   refine Rq ?_
   refine Rq ?_
   refine Rq ?_
   have tr : ∀ a b c d e f g h i j k m n o p : AV, let l := lc_rends_ok a b c d e f g h i j k m; trim ((5,p)::(19,o)::(18,n)::l) l = [(0,a),(1,b),(2,c),(3,d),(5,p),(9,f),(14,g),(15,h),(16,i),(17,j),(21,k),(33,m)] := by intros; rfl
   refine R_nil (tr ..) ?_; clear tr
   refine then_n ?_
   refine at_seq rfl ?_
   refine rg rfl ?_
   refine Rq ?_
   refine Rq ?_
   have tr : ∀ a b c d e f g h i j k m n o : AV, let l := lc_rends_ok a b c d e f g h i j k m; trim ((21,o)::(20,n)::l) l = [(0,a),(1,b),(2,c),(3,d),(5,e),(9,f),(14,g),(15,h),(16,i),(17,j),(21,o),(33,m)] := by intros; rfl
   refine R_nil (tr ..) ?_; clear tr
   refine then_n ?_
   refine cdd (fun h3 => ?_) (fun h3 => ?_)
   ·
    try simp only [decide_eq_true_eq, decide_eq_false_iff_not, Bool.not_eq_true', Bool.not_eq_false', beq_iff_eq, beq_eq_false_iff_ne, ne_eq] at h3
    refine at_seq rfl ?_
    refine rg rfl ?_
    refine Rq ?_
    have tr : ∀ a b c d e f g h i j k m n : AV, let l := lc_rends_ok a b c d e f g h i j k m; trim ((2,n)::l) l = [(0,a),(1,b),(2,n),(3,d),(5,e),(9,f),(14,g),(15,h),(16,i),(17,j),(21,k),(33,m)] := by intros; rfl
    refine R_nil (tr ..) ?_; clear tr
    refine then_n ?_
    refine at_ret rfl ?_
    refine blk_r ?_
    refine then_r ?_
    refine then_r ?_
    refine blk_r ?_
    refine then_r ?_
    refine fpure ?_
    refine ⟨?_, rfl⟩
    rw [rawS, if_neg (fun hh => hh h1), endsS, if_pos (fun hh => absurd (hh w (by omega)) (by omega))]
   ·
    try simp only [decide_eq_true_eq, decide_eq_false_iff_not, Bool.not_eq_true', Bool.not_eq_false', beq_iff_eq, beq_eq_false_iff_ne, ne_eq] at h3
    refine at_skip rfl ?_
    refine blk_n ?_
    refine then_n ?_
    refine rg rfl ?_
    refine Rq ?_
    refine Rq ?_
    have tr : ∀ a b c d e f g h i j k m n o : AV, let l := lc_rends_ok a b c d e f g h i j k m; trim ((16,o)::(22,n)::l) l = [(0,a),(1,b),(2,c),(3,d),(5,e),(9,f),(14,g),(15,h),(16,o),(17,j),(21,k),(33,m)] := by intros; rfl
    refine R_nil (tr ..) ?_; clear tr
    refine then_n ?_
    exact ⟨_, _, ⟨w + 1, _, _, _, _, rfl, rfl, rfl, by omega, by exact all_step hz (by omega)⟩, by rfl, by omega⟩
  ·
   try simp only [decide_eq_true_eq, decide_eq_false_iff_not, Bool.not_eq_true', Bool.not_eq_false', beq_iff_eq, beq_eq_false_iff_ne, ne_eq] at h2
   refine at_exit rfl ?_
   refine then_x ?_
   refine then_x ?_
   refine blk_x ?_
   refine then_n ?_
   refine at_seq rfl ?_
   refine at_seq rfl ?_
   refine rg rfl ?_
   refine Rq ?_
   refine Rq ?_
   refine Rq ?_
   refine Rq ?_
   refine Rq ?_
   refine Rq ?_
   refine Rq ?_
   refine Rq ?_
   refine Rq ?_
   refine Rq ?_
   refine Rq ?_
   have tr : ∀ a b c d e f g h i j k m n o p q r s t u v w x : AV, let l := lc_rends_ok a b c d e f g h i j k m; trim ((33,x)::(32,w)::(31,v)::(30,u)::(29,t)::(28,s)::(27,r)::(26,q)::(25,p)::(24,o)::(23,n)::l) l = [(0,a),(1,b),(2,c),(3,d),(5,e),(9,f),(14,g),(15,h),(16,i),(17,j),(21,k),(33,x)] := by intros; rfl
   refine R_nil (tr ..) ?_; clear tr
   refine then_n ?_
   refine cdd (fun h4 => ?_) (fun h4 => ?_)
   ·
    try simp only [decide_eq_true_eq, decide_eq_false_iff_not, Bool.not_eq_true', Bool.not_eq_false', beq_iff_eq, beq_eq_false_iff_ne, ne_eq] at h4
    refine at_seq rfl ?_
    refine rg rfl ?_
    refine Rq ?_
    have tr : ∀ a b c d e f g h i j k m n : AV, let l := lc_rends_ok a b c d e f g h i j k m; trim ((2,n)::l) l = [(0,a),(1,b),(2,n),(3,d),(5,e),(9,f),(14,g),(15,h),(16,i),(17,j),(21,k),(33,m)] := by intros; rfl
    refine R_nil (tr ..) ?_; clear tr
    refine then_n ?_
    refine at_ret rfl ?_
    refine then_r ?_
    refine fpure ?_
    refine ⟨?_, rfl⟩
    rw [rawS, if_neg (fun hh => hh h1), endsS, if_neg (fun hh => hh fun i hi => hz i (by omega)), if_pos (by omega)]
   ·
    try simp only [decide_eq_true_eq, decide_eq_false_iff_not, Bool.not_eq_true', Bool.not_eq_false', beq_iff_eq, beq_eq_false_iff_ne, ne_eq] at h4
    refine at_skip rfl ?_
    refine then_n ?_
    refine at_seq rfl ?_
    refine rg rfl ?_
    refine Rq ?_
    have tr : ∀ a b c d e f g h i j k m n : AV, let l := lc_rends_ok a b c d e f g h i j k m; trim ((2,n)::l) l = [(0,a),(1,b),(2,n),(3,d),(5,e),(9,f),(14,g),(15,h),(16,i),(17,j),(21,k),(33,m)] := by intros; rfl
    refine R_nil (tr ..) ?_; clear tr
    refine then_n ?_
    refine at_ret rfl ?_
    refine fpure ?_
    refine ⟨?_, rfl⟩
    rw [rawS, if_neg (fun hh => hh h1), endsS, if_neg (fun hh => hh fun i hi => hz i (by omega)), if_neg (by omega)]

end Go.Proofs.Ytaoondlakhocnaa
end
section
set_option linter.unusedSimpArgs false
set_option linter.unusedVariables false
set_option maxHeartbeats 40000000
set_option maxRecDepth 4000
namespace Go.Proofs.Ytaoondlakhocnaa
open Go Go.Am

abbrev lc_rcheck_ok (a b c d e f g h i j k m n o p q r s t u v w x y z A B : AV) : Env := [(0,a),(1,b),(2,c),(3,d),(4,e),(5,f),(6,g),(7,h),(8,i),(9,j),(10,k),(14,m),(17,n),(18,o),(19,p),(20,q),(24,r),(25,s),(26,t),(27,u),(61,v),(68,w),(75,x),(76,y),(77,z),(78,A),(112,B)]
theorem rcheck_ok (lim : Nat) (H : Heap) (rows : Tb) :
    ACall sig lim 58 [.agg [rowsAV rows]] H fun r H' => r = AV.i (checkS rows) ∧ H' = H := by
 refine ACall_pure (fa := fa58) rfl rfl rfl rfl ?_
 have tr : ∀ a0 : AV, env0 fa58.keep [a0] = [(0,a0),(1,.any),(2,.any),(3,.any),(4,.any),(5,.any),(6,.any),(7,.any),(8,.any),(9,.any),(10,.any),(14,.any),(17,.any),(18,.any),(19,.any),(20,.any),(24,.any),(25,.any),(26,.any),(27,.any),(61,.any),(68,.any),(75,.any),(76,.any),(77,.any),(78,.any),(112,.any)] := fun a0 => rfl
 refine W_to (tr _) ?_; clear tr
 refine at_seq rfl ?_
 refine rg rfl ?_
 refine R_box rfl (by simp (disch := first | omega | (simp only [List.length_map, List.length_append, List.length_set, List.length_cons, List.length_nil]; omega)) only [go_sem, ↓reduceIte, Nat.reduceEqDiff, reduceCtorEq] <;> rfl) rfl rfl ?_
 refine Rq ?_
 have tr : ∀ a b c d e f g h i j k m n o p q r s t u v w x y z A B C D : AV, let l := lc_rcheck_ok a b c d e f g h i j k m n o p q r s t u v w x y z A B; trim ((2,D)::(1,C)::l) l = [(0,a),(1,C),(2,D),(3,d),(4,e),(5,f),(6,g),(7,h),(8,i),(9,j),(10,k),(14,m),(17,n),(18,o),(19,p),(20,q),(24,r),(25,s),(26,t),(27,u),(61,v),(68,w),(75,x),(76,y),(77,z),(78,A),(112,B)] := by intros; rfl
 refine R_nil (tr ..) ?_; clear tr
 refine then_n ?_
 refine at_seq rfl ?_
 refine at_seq rfl ?_
 refine rg rfl ?_
 refine Rq ?_
 refine Rcall ?_
 refine ACall_eq (rends_ok _ _ _) ?_
 refine Rq ?_
 have tr : ∀ a b c d e f g h i j k m n o p q r s t u v w x y z A B C D E : AV, let l := lc_rcheck_ok a b c d e f g h i j k m n o p q r s t u v w x y z A B; trim ((3,E)::(12,D)::(11,C)::l) l = [(0,a),(1,b),(2,c),(3,E),(4,e),(5,f),(6,g),(7,h),(8,i),(9,j),(10,k),(14,m),(17,n),(18,o),(19,p),(20,q),(24,r),(25,s),(26,t),(27,u),(61,v),(68,w),(75,x),(76,y),(77,z),(78,A),(112,B)] := by intros; rfl
 refine R_nil (tr ..) ?_; clear tr
 refine then_n ?_
 refine at_seq rfl ?_
 refine rg rfl ?_
 refine Rq ?_
 refine Rq ?_
 have tr : ∀ a b c d e f g h i j k m n o p q r s t u v w x y z A B C D : AV, let l := lc_rcheck_ok a b c d e f g h i j k m n o p q r s t u v w x y z A B; trim ((14,D)::(13,C)::l) l = [(0,a),(1,b),(2,c),(3,d),(4,e),(5,f),(6,g),(7,h),(8,i),(9,j),(10,k),(14,D),(17,n),(18,o),(19,p),(20,q),(24,r),(25,s),(26,t),(27,u),(61,v),(68,w),(75,x),(76,y),(77,z),(78,A),(112,B)] := by intros; rfl
 refine R_nil (tr ..) ?_; clear tr
 refine then_n ?_
 refine cdd (fun h1 => ?_) (fun h1 => ?_)
 ·
  try simp only [decide_eq_true_eq, decide_eq_false_iff_not, Bool.not_eq_true', Bool.not_eq_false', beq_iff_eq, beq_eq_false_iff_ne, ne_eq] at h1
  refine at_seq rfl ?_
  refine rg rfl ?_
  refine Rq ?_
  refine Rq ?_
  have tr : ∀ a b c d e f g h i j k m n o p q r s t u v w x y z A B C D : AV, let l := lc_rcheck_ok a b c d e f g h i j k m n o p q r s t u v w x y z A B; trim ((2,D)::(15,C)::l) l = [(0,a),(1,b),(2,D),(3,d),(4,e),(5,f),(6,g),(7,h),(8,i),(9,j),(10,k),(14,m),(17,n),(18,o),(19,p),(20,q),(24,r),(25,s),(26,t),(27,u),(61,v),(68,w),(75,x),(76,y),(77,z),(78,A),(112,B)] := by intros; rfl
  refine R_nil (tr ..) ?_; clear tr
  refine then_n ?_
  refine at_ret rfl ?_
  refine then_r ?_
  refine fpure ?_
  refine ⟨?_, rfl⟩
  rw [raw_check h1]
 ·
  try simp only [decide_eq_true_eq, decide_eq_false_iff_not, Bool.not_eq_true', Bool.not_eq_false', beq_iff_eq, beq_eq_false_iff_ne, ne_eq] at h1
  refine at_skip rfl ?_
  refine then_n ?_
  refine at_seq rfl ?_
  refine at_seq rfl ?_
  refine rg rfl ?_
  have hs0 := (raw_zero (by assumption)).1
  have he0 := (raw_zero (by assumption)).2
  obtain ⟨g2, g91, g1, g10, gl, gr⟩ := shaped_of hs0
  refine Rq ?_
  refine Rq ?_
  refine Rq ?_
  refine Rq ?_
  have tr : ∀ a b c d e f g h i j k m n o p q r s t u v w x y z A B C D E F : AV, let l := lc_rcheck_ok a b c d e f g h i j k m n o p q r s t u v w x y z A B; trim ((19,F)::(18,E)::(17,D)::(16,C)::l) l = [(0,a),(1,b),(2,c),(3,d),(4,e),(5,f),(6,g),(7,h),(8,i),(9,j),(10,k),(14,m),(17,D),(18,E),(19,F),(20,q),(24,r),(25,s),(26,t),(27,u),(61,v),(68,w),(75,x),(76,y),(77,z),(78,A),(112,B)] := by intros; rfl
  refine R_nil (tr ..) ?_; clear tr
  refine then_n ?_
  refine at_block rfl ?_
  refine loop_n rfl (fun mm kv H' => ∃ u : Nat, ∃ x2 x4 x5 x6 x7 x20 x24 x25 x26 x27 x61 : AV, (kv = [(2, x2), (4, x4), (5, x5), (6, x6), (7, x7), (19, AV.i u), (20, x20), (24, x24), (25, x25), (26, x26), (27, x27), (61, x61)]) ∧ (mm = rows.length - u) ∧ (H' = H ++ [some [rowsAV rows]]) ∧ (u ≤ rows.length) ∧ (∀ i, i < u → ∀ w, w < (gt rows i).length → (0 < i → gt (gt rows (i - 1)) w ≤ gt (gt rows i) w) ∧ (w + 1 < (gt rows i).length → gt (gt rows i) (w + 1) ≤ gt (gt rows i) w))) ⟨0, _, _, _, _, _, _, _, _, _, _, _, rfl, rfl, rfl, by omega, by intro i hi; omega⟩ (by rfl) ?_
  rintro mm kv H' ⟨u, x2, x4, x5, x6, x7, x20, x24, x25, x26, x27, x61, rfl, rfl, rfl, hu, hq⟩
  have tr : ∀ a b c d e f g h i j k m n o p q r s t u v w x y z A B C D E F G H I J K L M N : AV, upd [(0,a),(1,b),(2,c),(3,d),(4,e),(5,f),(6,g),(7,h),(8,i),(9,j),(10,k),(14,m),(17,n),(18,o),(19,p),(20,q),(24,r),(25,s),(26,t),(27,u),(61,v),(68,w),(75,x),(76,y),(77,z),(78,A),(112,B)] [(2,C),(4,D),(5,E),(6,F),(7,G),(19,H),(20,I),(24,J),(25,K),(26,L),(27,M),(61,N)] = [(0,a),(1,b),(2,C),(3,d),(4,D),(5,E),(6,F),(7,G),(8,i),(9,j),(10,k),(14,m),(17,n),(18,o),(19,H),(20,I),(24,J),(25,K),(26,L),(27,M),(61,N),(68,w),(75,x),(76,y),(77,z),(78,A),(112,B)] := by intros; rfl
  refine W_to (tr ..) ?_; clear tr
  refine at_seq rfl ?_
  refine rg rfl ?_
  refine Rq ?_
  have tr : ∀ a b c d e f g h i j k m n o p q r s t u v w x y z A B C : AV, let l := lc_rcheck_ok a b c d e f g h i j k m n o p q r s t u v w x y z A B; trim ((20,C)::l) l = [(0,a),(1,b),(2,c),(3,d),(4,e),(5,f),(6,g),(7,h),(8,i),(9,j),(10,k),(14,m),(17,n),(18,o),(19,p),(20,C),(24,r),(25,s),(26,t),(27,u),(61,v),(68,w),(75,x),(76,y),(77,z),(78,A),(112,B)] := by intros; rfl
  refine R_nil (tr ..) ?_; clear tr
  refine then_n ?_
  refine at_seq rfl ?_
  refine cdd (fun h2 => ?_) (fun h2 => ?_)
  ·
   try simp only [decide_eq_true_eq, decide_eq_false_iff_not, Bool.not_eq_true', Bool.not_eq_false', beq_iff_eq, beq_eq_false_iff_ne, ne_eq] at h2
   refine at_skip rfl ?_
   refine then_n ?_
   refine at_seq rfl ?_
   refine at_block rfl ?_
   refine at_seq rfl ?_
   refine rg rfl ?_
   refine Rq ?_
   refine Rq ?_
   refine Rq ?_
   refine Rq ?_
   refine Rq ?_
   have tr : ∀ a b c d e f g h i j k m n o p q r s t u v w x y z A B C D E F G : AV, let l := lc_rcheck_ok a b c d e f g h i j k m n o p q r s t u v w x y z A B; trim ((5,G)::(4,F)::(23,E)::(22,D)::(21,C)::l) l = [(0,a),(1,b),(2,c),(3,d),(4,F),(5,G),(6,g),(7,h),(8,i),(9,j),(10,k),(14,m),(17,n),(18,o),(19,p),(20,q),(24,r),(25,s),(26,t),(27,u),(61,v),(68,w),(75,x),(76,y),(77,z),(78,A),(112,B)] := by intros; rfl
   refine R_nil (tr ..) ?_; clear tr
   refine then_n ?_
   refine at_seq rfl ?_
   refine rg rfl ?_
   have hlu := gl u (by omega)
   have hlu1 := gl (u - 1) (by omega)
   refine Rq ?_
   refine Rq ?_
   refine Rq ?_
   have tr : ∀ a b c d e f g h i j k m n o p q r s t u v w x y z A B C D E : AV, let l := lc_rcheck_ok a b c d e f g h i j k m n o p q r s t u v w x y z A B; trim ((26,E)::(25,D)::(24,C)::l) l = [(0,a),(1,b),(2,c),(3,d),(4,e),(5,f),(6,g),(7,h),(8,i),(9,j),(10,k),(14,m),(17,n),(18,o),(19,p),(20,q),(24,C),(25,D),(26,E),(27,u),(61,v),(68,w),(75,x),(76,y),(77,z),(78,A),(112,B)] := by intros; rfl
   refine R_nil (tr ..) ?_; clear tr
   refine then_n ?_
   refine at_block rfl ?_
   refine loop_n rfl (fun mm kv H' => ∃ w : Nat, ∃ x2 x6 x7 x27 x61 : AV, (kv = [(2, x2), (6, x6), (7, x7), (26, AV.i w), (27, x27), (61, x61)]) ∧ (mm = (gt rows u).length - w) ∧ (H' = H ++ [some [rowsAV rows]]) ∧ (w ≤ (gt rows u).length) ∧ (∀ j, j < w → (0 < u → gt (gt rows (u - 1)) j ≤ gt (gt rows u) j) ∧ (j + 1 < (gt rows u).length → gt (gt rows u) (j + 1) ≤ gt (gt rows u) j))) ⟨0, _, _, _, _, _, rfl, rfl, rfl, by omega, by intro i hi; omega⟩ (by rfl) ?_
   rintro mm kv H' ⟨w, x2, x6, x7, x27, x61, rfl, rfl, rfl, hw, hs⟩
   have tr : ∀ a b c d e f g h i j k m n o p q r s t u v w x y z A B C D E F G H : AV, upd [(0,a),(1,b),(2,c),(3,d),(4,e),(5,f),(6,g),(7,h),(8,i),(9,j),(10,k),(14,m),(17,n),(18,o),(19,p),(20,q),(24,r),(25,s),(26,t),(27,u),(61,v),(68,w),(75,x),(76,y),(77,z),(78,A),(112,B)] [(2,C),(6,D),(7,E),(26,F),(27,G),(61,H)] = [(0,a),(1,b),(2,C),(3,d),(4,e),(5,f),(6,D),(7,E),(8,i),(9,j),(10,k),(14,m),(17,n),(18,o),(19,p),(20,q),(24,r),(25,s),(26,F),(27,G),(61,H),(68,w),(75,x),(76,y),(77,z),(78,A),(112,B)] := by intros; rfl
   refine W_to (tr ..) ?_; clear tr
   refine at_seq rfl ?_
   refine rg rfl ?_
   refine Rq ?_
   have tr : ∀ a b c d e f g h i j k m n o p q r s t u v w x y z A B C : AV, let l := lc_rcheck_ok a b c d e f g h i j k m n o p q r s t u v w x y z A B; trim ((27,C)::l) l = [(0,a),(1,b),(2,c),(3,d),(4,e),(5,f),(6,g),(7,h),(8,i),(9,j),(10,k),(14,m),(17,n),(18,o),(19,p),(20,q),(24,r),(25,s),(26,t),(27,C),(61,v),(68,w),(75,x),(76,y),(77,z),(78,A),(112,B)] := by intros; rfl
   refine R_nil (tr ..) ?_; clear tr
   refine then_n ?_
   refine at_seq rfl ?_
   refine cdd (fun h3 => ?_) (fun h3 => ?_)
   ·
    try simp only [decide_eq_true_eq, decide_eq_false_iff_not, Bool.not_eq_true', Bool.not_eq_false', beq_iff_eq, beq_eq_false_iff_ne, ne_eq] at h3
    refine at_skip rfl ?_
    refine then_n ?_
    refine at_seq rfl ?_
    refine at_block rfl ?_
    refine at_seq rfl ?_
    refine rg rfl ?_
    refine Rq ?_
    refine Rq ?_
    refine Rq ?_
    refine Rq ?_
    refine Rq ?_
    have tr : ∀ a b c d e f g h i j k m n o p q r s t u v w x y z A B C D E F G : AV, let l := lc_rcheck_ok a b c d e f g h i j k m n o p q r s t u v w x y z A B; trim ((7,G)::(6,F)::(30,E)::(29,D)::(28,C)::l) l = [(0,a),(1,b),(2,c),(3,d),(4,e),(5,f),(6,F),(7,G),(8,i),(9,j),(10,k),(14,m),(17,n),(18,o),(19,p),(20,q),(24,r),(25,s),(26,t),(27,u),(61,v),(68,w),(75,x),(76,y),(77,z),(78,A),(112,B)] := by intros; rfl
    refine R_nil (tr ..) ?_; clear tr
    refine then_n ?_
    refine at_seq rfl ?_
    refine rg rfl ?_
    refine Rq ?_
    refine Rq ?_
    refine Rq ?_
    refine Rp_split (fun h4 => ?_) (fun h4 => ?_)
    ·
     try simp only [decide_eq_true_eq, decide_eq_false_iff_not, Bool.not_eq_true', Bool.not_eq_false', beq_iff_eq, beq_eq_false_iff_ne, ne_eq] at h4
     refine Ry ?_
     refine Rq ?_
     refine Ry ?_
     refine Rq ?_
     refine Ry ?_
     refine Rq ?_
     refine Ry ?_
     refine Rq ?_
     refine Ry ?_
     refine Rq ?_
     refine Ry ?_
     refine Rq ?_
     refine Ry ?_
     refine Rq ?_
     refine Ry ?_
     refine Rq ?_
     refine Ry ?_
     refine Rq ?_
     refine Ry ?_
     refine Rq ?_
     refine Ry ?_
     refine Rq ?_
     refine Rq ?_
     refine Rq ?_
     refine Rp_split (fun h5 => ?_) (fun h5 => ?_)
     ·
      try simp only [decide_eq_true_eq, decide_eq_false_iff_not, Bool.not_eq_true', Bool.not_eq_false', beq_iff_eq, beq_eq_false_iff_ne, ne_eq] at h5
      refine Rn ?_
      refine Rn ?_
      refine Rn ?_
      refine Rn ?_
      refine Rn ?_
      refine Rn ?_
      refine Ru ?_
      refine Ru ?_
      refine Ru ?_
      refine Ru ?_
      refine Ru ?_
      refine Ru ?_
      refine Ru ?_
      refine Rn ?_
      refine Rq ?_
      have tr : ∀ a b c d e f g h i j k m n o p q r s t u v w x y z A B C D E F G H I J K L M N O P Q R S T U V W X Y Z a1 b1 c1 d1 e1 f1 g1 : AV, let l := lc_rcheck_ok a b c d e f g h i j k m n o p q r s t u v w x y z A B; trim ((61,g1)::(60,f1)::(59,e1)::(58,d1)::(57,c1)::(56,b1)::(55,a1)::(54,Z)::(53,Y)::(52,X)::(51,W)::(50,V)::(49,U)::(48,T)::(47,S)::(46,R)::(45,Q)::(44,P)::(43,O)::(42,N)::(41,M)::(40,L)::(39,K)::(38,J)::(37,I)::(36,H)::(35,G)::(34,F)::(33,E)::(32,D)::(31,C)::l) l = [(0,a),(1,b),(2,c),(3,d),(4,e),(5,f),(6,g),(7,h),(8,i),(9,j),(10,k),(14,m),(17,n),(18,o),(19,p),(20,q),(24,r),(25,s),(26,t),(27,u),(61,g1),(68,w),(75,x),(76,y),(77,z),(78,A),(112,B)] := by intros; rfl
      refine R_nil (tr ..) ?_; clear tr
      refine then_n ?_
      refine cdt ?_
      refine at_seq rfl ?_
      refine rg rfl ?_
      refine Rq ?_
      have tr : ∀ a b c d e f g h i j k m n o p q r s t u v w x y z A B C : AV, let l := lc_rcheck_ok a b c d e f g h i j k m n o p q r s t u v w x y z A B; trim ((2,C)::l) l = [(0,a),(1,b),(2,C),(3,d),(4,e),(5,f),(6,g),(7,h),(8,i),(9,j),(10,k),(14,m),(17,n),(18,o),(19,p),(20,q),(24,r),(25,s),(26,t),(27,u),(61,v),(68,w),(75,x),(76,y),(77,z),(78,A),(112,B)] := by intros; rfl
      refine R_nil (tr ..) ?_; clear tr
      refine then_n ?_
      refine at_ret rfl ?_
      refine blk_r ?_
      refine then_r ?_
      refine then_r ?_
      refine blk_r ?_
      refine blk_r ?_
      refine then_r ?_
      refine then_r ?_
      refine blk_r ?_
      refine then_r ?_
      refine fpure ?_
      refine ⟨?_, rfl⟩
      rw [checkS, if_neg (fun hh => hh hs0), if_neg (fun hh => hh he0), if_pos (fun hh => absurd ((hh u (by omega) w (by omega)).1 (by omega)) (by omega))]
     ·
      try simp only [decide_eq_true_eq, decide_eq_false_iff_not, Bool.not_eq_true', Bool.not_eq_false', beq_iff_eq, beq_eq_false_iff_ne, ne_eq] at h5
      refine Ry ?_
      refine Rq ?_
      refine Ry ?_
      refine Rq ?_
      refine Ry ?_
      refine Rq ?_
      refine Ry ?_
      refine Rq ?_
      refine Ry ?_
      refine Rq ?_
      refine Ry ?_
      refine Rq ?_
      refine Rp_split (fun h6 => ?_) (fun h6 => ?_)
      ·
       try simp only [decide_eq_true_eq, decide_eq_false_iff_not, Bool.not_eq_true', Bool.not_eq_false', beq_iff_eq, beq_eq_false_iff_ne, ne_eq] at h6
       refine Ry ?_
       refine Rq ?_
       refine Ry ?_
       refine Rq ?_
       refine Ry ?_
       refine Rq ?_
       refine Ry ?_
       refine Rq ?_
       refine Ry ?_
       refine Rq ?_
       refine Ry ?_
       refine Rq ?_
       refine Ry ?_
       refine Rq ?_
       refine Ry ?_
       refine Rq ?_
       refine Rq ?_
       have tr : ∀ a b c d e f g h i j k m n o p q r s t u v w x y z A B C D E F G H I J K L M N O P Q R S T U V W X Y Z a1 b1 c1 d1 e1 f1 g1 : AV, let l := lc_rcheck_ok a b c d e f g h i j k m n o p q r s t u v w x y z A B; trim ((61,g1)::(60,f1)::(59,e1)::(58,d1)::(57,c1)::(56,b1)::(55,a1)::(54,Z)::(53,Y)::(52,X)::(51,W)::(50,V)::(49,U)::(48,T)::(47,S)::(46,R)::(45,Q)::(44,P)::(43,O)::(42,N)::(41,M)::(40,L)::(39,K)::(38,J)::(37,I)::(36,H)::(35,G)::(34,F)::(33,E)::(32,D)::(31,C)::l) l = [(0,a),(1,b),(2,c),(3,d),(4,e),(5,f),(6,g),(7,h),(8,i),(9,j),(10,k),(14,m),(17,n),(18,o),(19,p),(20,q),(24,r),(25,s),(26,t),(27,u),(61,g1),(68,w),(75,x),(76,y),(77,z),(78,A),(112,B)] := by intros; rfl
       refine R_nil (tr ..) ?_; clear tr
       refine then_n ?_
       refine cdd (fun h7 => ?_) (fun h7 => ?_)
       ·
        try simp only [decide_eq_true_eq, decide_eq_false_iff_not, Bool.not_eq_true', Bool.not_eq_false', beq_iff_eq, beq_eq_false_iff_ne, ne_eq] at h7
        refine at_seq rfl ?_
        refine rg rfl ?_
        refine Rq ?_
        have tr : ∀ a b c d e f g h i j k m n o p q r s t u v w x y z A B C : AV, let l := lc_rcheck_ok a b c d e f g h i j k m n o p q r s t u v w x y z A B; trim ((2,C)::l) l = [(0,a),(1,b),(2,C),(3,d),(4,e),(5,f),(6,g),(7,h),(8,i),(9,j),(10,k),(14,m),(17,n),(18,o),(19,p),(20,q),(24,r),(25,s),(26,t),(27,u),(61,v),(68,w),(75,x),(76,y),(77,z),(78,A),(112,B)] := by intros; rfl
        refine R_nil (tr ..) ?_; clear tr
        refine then_n ?_
        refine at_ret rfl ?_
        refine blk_r ?_
        refine then_r ?_
        refine then_r ?_
        refine blk_r ?_
        refine blk_r ?_
        refine then_r ?_
        refine then_r ?_
        refine blk_r ?_
        refine then_r ?_
        refine fpure ?_
        refine ⟨?_, rfl⟩
        rw [checkS, if_neg (fun hh => hh hs0), if_neg (fun hh => hh he0), if_pos (fun hh => absurd ((hh u (by omega) w (by omega)).2 (by omega)) (by omega))]
       ·
        try simp only [decide_eq_true_eq, decide_eq_false_iff_not, Bool.not_eq_true', Bool.not_eq_false', beq_iff_eq, beq_eq_false_iff_ne, ne_eq] at h7
        refine at_skip rfl ?_
        refine blk_n ?_
        refine then_n ?_
        refine rg rfl ?_
        refine Rq ?_
        refine Rq ?_
        have tr : ∀ a b c d e f g h i j k m n o p q r s t u v w x y z A B C D : AV, let l := lc_rcheck_ok a b c d e f g h i j k m n o p q r s t u v w x y z A B; trim ((26,D)::(62,C)::l) l = [(0,a),(1,b),(2,c),(3,d),(4,e),(5,f),(6,g),(7,h),(8,i),(9,j),(10,k),(14,m),(17,n),(18,o),(19,p),(20,q),(24,r),(25,s),(26,D),(27,u),(61,v),(68,w),(75,x),(76,y),(77,z),(78,A),(112,B)] := by intros; rfl
        refine R_nil (tr ..) ?_; clear tr
        refine then_n ?_
        exact ⟨_, _, ⟨w + 1, _, _, _, _, _, rfl, rfl, rfl, by omega, by exact all_step hs ⟨fun _ => by omega, fun _ => by omega⟩⟩, by rfl, by omega⟩
      ·
       try simp only [decide_eq_true_eq, decide_eq_false_iff_not, Bool.not_eq_true', Bool.not_eq_false', beq_iff_eq, beq_eq_false_iff_ne, ne_eq] at h6
       refine Rn ?_
       refine Rn ?_
       refine Rn ?_
       refine Rn ?_
       refine Rn ?_
       refine Rn ?_
       refine Rn ?_
       refine Ry ?_
       refine Rq ?_
       refine Rq ?_
       have tr : ∀ a b c d e f g h i j k m n o p q r s t u v w x y z A B C D E F G H I J K L M N O P Q R S T U V W X Y Z a1 b1 c1 d1 e1 f1 g1 : AV, let l := lc_rcheck_ok a b c d e f g h i j k m n o p q r s t u v w x y z A B; trim ((61,g1)::(60,f1)::(59,e1)::(58,d1)::(57,c1)::(56,b1)::(55,a1)::(54,Z)::(53,Y)::(52,X)::(51,W)::(50,V)::(49,U)::(48,T)::(47,S)::(46,R)::(45,Q)::(44,P)::(43,O)::(42,N)::(41,M)::(40,L)::(39,K)::(38,J)::(37,I)::(36,H)::(35,G)::(34,F)::(33,E)::(32,D)::(31,C)::l) l = [(0,a),(1,b),(2,c),(3,d),(4,e),(5,f),(6,g),(7,h),(8,i),(9,j),(10,k),(14,m),(17,n),(18,o),(19,p),(20,q),(24,r),(25,s),(26,t),(27,u),(61,g1),(68,w),(75,x),(76,y),(77,z),(78,A),(112,B)] := by intros; rfl
       refine R_nil (tr ..) ?_; clear tr
       refine then_n ?_
       refine cdf ?_
       refine at_skip rfl ?_
       refine blk_n ?_
       refine then_n ?_
       refine rg rfl ?_
       refine Rq ?_
       refine Rq ?_
       have tr : ∀ a b c d e f g h i j k m n o p q r s t u v w x y z A B C D : AV, let l := lc_rcheck_ok a b c d e f g h i j k m n o p q r s t u v w x y z A B; trim ((26,D)::(62,C)::l) l = [(0,a),(1,b),(2,c),(3,d),(4,e),(5,f),(6,g),(7,h),(8,i),(9,j),(10,k),(14,m),(17,n),(18,o),(19,p),(20,q),(24,r),(25,s),(26,D),(27,u),(61,v),(68,w),(75,x),(76,y),(77,z),(78,A),(112,B)] := by intros; rfl
       refine R_nil (tr ..) ?_; clear tr
       refine then_n ?_
       exact ⟨_, _, ⟨w + 1, _, _, _, _, _, rfl, rfl, rfl, by omega, by exact all_step hs ⟨fun _ => by omega, fun _ => by omega⟩⟩, by rfl, by omega⟩
    ·
     try simp only [decide_eq_true_eq, decide_eq_false_iff_not, Bool.not_eq_true', Bool.not_eq_false', beq_iff_eq, beq_eq_false_iff_ne, ne_eq] at h4
     refine Rn ?_
     refine Rn ?_
     refine Rn ?_
     refine Rn ?_
     refine Rn ?_
     refine Rn ?_
     refine Rn ?_
     refine Rn ?_
     refine Rn ?_
     refine Rn ?_
     refine Rn ?_
     refine Rq ?_
     refine Rq ?_
     refine Ry ?_
     refine Rq ?_
     refine Ry ?_
     refine Rq ?_
     refine Ry ?_
     refine Rq ?_
     refine Ry ?_
     refine Rq ?_
     refine Ry ?_
     refine Rq ?_
     refine Ry ?_
     refine Rq ?_
     refine Rp_split (fun h8 => ?_) (fun h8 => ?_)
     ·
      try simp only [decide_eq_true_eq, decide_eq_false_iff_not, Bool.not_eq_true', Bool.not_eq_false', beq_iff_eq, beq_eq_false_iff_ne, ne_eq] at h8
      refine Ry ?_
      refine Rq ?_
      refine Ry ?_
      refine Rq ?_
      refine Ry ?_
      refine Rq ?_
      refine Ry ?_
      refine Rq ?_
      refine Ry ?_
      refine Rq ?_
      refine Ry ?_
      refine Rq ?_
      refine Ry ?_
      refine Rq ?_
      refine Ry ?_
      refine Rq ?_
      refine Rq ?_
      have tr : ∀ a b c d e f g h i j k m n o p q r s t u v w x y z A B C D E F G H I J K L M N O P Q R S T U V W X Y Z a1 b1 c1 d1 e1 f1 g1 : AV, let l := lc_rcheck_ok a b c d e f g h i j k m n o p q r s t u v w x y z A B; trim ((61,g1)::(60,f1)::(59,e1)::(58,d1)::(57,c1)::(56,b1)::(55,a1)::(54,Z)::(53,Y)::(52,X)::(51,W)::(50,V)::(49,U)::(48,T)::(47,S)::(46,R)::(45,Q)::(44,P)::(43,O)::(42,N)::(41,M)::(40,L)::(39,K)::(38,J)::(37,I)::(36,H)::(35,G)::(34,F)::(33,E)::(32,D)::(31,C)::l) l = [(0,a),(1,b),(2,c),(3,d),(4,e),(5,f),(6,g),(7,h),(8,i),(9,j),(10,k),(14,m),(17,n),(18,o),(19,p),(20,q),(24,r),(25,s),(26,t),(27,u),(61,g1),(68,w),(75,x),(76,y),(77,z),(78,A),(112,B)] := by intros; rfl
      refine R_nil (tr ..) ?_; clear tr
      refine then_n ?_
      refine cdd (fun h9 => ?_) (fun h9 => ?_)
      ·
       try simp only [decide_eq_true_eq, decide_eq_false_iff_not, Bool.not_eq_true', Bool.not_eq_false', beq_iff_eq, beq_eq_false_iff_ne, ne_eq] at h9
       refine at_seq rfl ?_
       refine rg rfl ?_
       refine Rq ?_
       have tr : ∀ a b c d e f g h i j k m n o p q r s t u v w x y z A B C : AV, let l := lc_rcheck_ok a b c d e f g h i j k m n o p q r s t u v w x y z A B; trim ((2,C)::l) l = [(0,a),(1,b),(2,C),(3,d),(4,e),(5,f),(6,g),(7,h),(8,i),(9,j),(10,k),(14,m),(17,n),(18,o),(19,p),(20,q),(24,r),(25,s),(26,t),(27,u),(61,v),(68,w),(75,x),(76,y),(77,z),(78,A),(112,B)] := by intros; rfl
       refine R_nil (tr ..) ?_; clear tr
       refine then_n ?_
       refine at_ret rfl ?_
       refine blk_r ?_
       refine then_r ?_
       refine then_r ?_
       refine blk_r ?_
       refine blk_r ?_
       refine then_r ?_
       refine then_r ?_
       refine blk_r ?_
       refine then_r ?_
       refine fpure ?_
       refine ⟨?_, rfl⟩
       rw [checkS, if_neg (fun hh => hh hs0), if_neg (fun hh => hh he0), if_pos (fun hh => absurd ((hh u (by omega) w (by omega)).2 (by omega)) (by omega))]
      ·
       try simp only [decide_eq_true_eq, decide_eq_false_iff_not, Bool.not_eq_true', Bool.not_eq_false', beq_iff_eq, beq_eq_false_iff_ne, ne_eq] at h9
       refine at_skip rfl ?_
       refine blk_n ?_
       refine then_n ?_
       refine rg rfl ?_
       refine Rq ?_
       refine Rq ?_
       have tr : ∀ a b c d e f g h i j k m n o p q r s t u v w x y z A B C D : AV, let l := lc_rcheck_ok a b c d e f g h i j k m n o p q r s t u v w x y z A B; trim ((26,D)::(62,C)::l) l = [(0,a),(1,b),(2,c),(3,d),(4,e),(5,f),(6,g),(7,h),(8,i),(9,j),(10,k),(14,m),(17,n),(18,o),(19,p),(20,q),(24,r),(25,s),(26,D),(27,u),(61,v),(68,w),(75,x),(76,y),(77,z),(78,A),(112,B)] := by intros; rfl
       refine R_nil (tr ..) ?_; clear tr
       refine then_n ?_
       exact ⟨_, _, ⟨w + 1, _, _, _, _, _, rfl, rfl, rfl, by omega, by exact all_step hs ⟨fun _ => by omega, fun _ => by omega⟩⟩, by rfl, by omega⟩
     ·
      try simp only [decide_eq_true_eq, decide_eq_false_iff_not, Bool.not_eq_true', Bool.not_eq_false', beq_iff_eq, beq_eq_false_iff_ne, ne_eq] at h8
      refine Rn ?_
      refine Rn ?_
      refine Rn ?_
      refine Rn ?_
      refine Rn ?_
      refine Rn ?_
      refine Rn ?_
      refine Ry ?_
      refine Rq ?_
      refine Rq ?_
      have tr : ∀ a b c d e f g h i j k m n o p q r s t u v w x y z A B C D E F G H I J K L M N O P Q R S T U V W X Y Z a1 b1 c1 d1 e1 f1 g1 : AV, let l := lc_rcheck_ok a b c d e f g h i j k m n o p q r s t u v w x y z A B; trim ((61,g1)::(60,f1)::(59,e1)::(58,d1)::(57,c1)::(56,b1)::(55,a1)::(54,Z)::(53,Y)::(52,X)::(51,W)::(50,V)::(49,U)::(48,T)::(47,S)::(46,R)::(45,Q)::(44,P)::(43,O)::(42,N)::(41,M)::(40,L)::(39,K)::(38,J)::(37,I)::(36,H)::(35,G)::(34,F)::(33,E)::(32,D)::(31,C)::l) l = [(0,a),(1,b),(2,c),(3,d),(4,e),(5,f),(6,g),(7,h),(8,i),(9,j),(10,k),(14,m),(17,n),(18,o),(19,p),(20,q),(24,r),(25,s),(26,t),(27,u),(61,g1),(68,w),(75,x),(76,y),(77,z),(78,A),(112,B)] := by intros; rfl
      refine R_nil (tr ..) ?_; clear tr
      refine then_n ?_
      refine cdf ?_
      refine at_skip rfl ?_
      refine blk_n ?_
      refine then_n ?_
      refine rg rfl ?_
      refine Rq ?_
      refine Rq ?_
      have tr : ∀ a b c d e f g h i j k m n o p q r s t u v w x y z A B C D : AV, let l := lc_rcheck_ok a b c d e f g h i j k m n o p q r s t u v w x y z A B; trim ((26,D)::(62,C)::l) l = [(0,a),(1,b),(2,c),(3,d),(4,e),(5,f),(6,g),(7,h),(8,i),(9,j),(10,k),(14,m),(17,n),(18,o),(19,p),(20,q),(24,r),(25,s),(26,D),(27,u),(61,v),(68,w),(75,x),(76,y),(77,z),(78,A),(112,B)] := by intros; rfl
      refine R_nil (tr ..) ?_; clear tr
      refine then_n ?_
      exact ⟨_, _, ⟨w + 1, _, _, _, _, _, rfl, rfl, rfl, by omega, by exact all_step hs ⟨fun _ => by omega, fun _ => by omega⟩⟩, by rfl, by omega⟩
   ·
    try simp only [decide_eq_true_eq, decide_eq_false_iff_not, Bool.not_eq_true', Bool.not_eq_false', beq_iff_eq, beq_eq_false_iff_ne, ne_eq] at h3
    refine at_exit rfl ?_
    refine then_x ?_
    refine then_x ?_
    refine blk_x ?_
    refine blk_n ?_
    refine then_n ?_
    refine rg rfl ?_
    refine Rq ?_
    refine Rq ?_
    have tr : ∀ a b c d e f g h i j k m n o p q r s t u v w x y z A B C D : AV, let l := lc_rcheck_ok a b c d e f g h i j k m n o p q r s t u v w x y z A B; trim ((19,D)::(63,C)::l) l = [(0,a),(1,b),(2,c),(3,d),(4,e),(5,f),(6,g),(7,h),(8,i),(9,j),(10,k),(14,m),(17,n),(18,o),(19,D),(20,q),(24,r),(25,s),(26,t),(27,u),(61,v),(68,w),(75,x),(76,y),(77,z),(78,A),(112,B)] := by intros; rfl
    refine R_nil (tr ..) ?_; clear tr
    refine then_n ?_
    exact ⟨_, _, ⟨u + 1, _, _, _, _, _, _, _, _, _, _, _, rfl, rfl, rfl, by omega, by exact all_step hq fun w hw => hs w (by omega)⟩, by rfl, by omega⟩
  ·
   try simp only [decide_eq_true_eq, decide_eq_false_iff_not, Bool.not_eq_true', Bool.not_eq_false', beq_iff_eq, beq_eq_false_iff_ne, ne_eq] at h2
   refine at_exit rfl ?_
   refine then_x ?_
   refine then_x ?_
   refine blk_x ?_
   refine then_n ?_
   refine at_seq rfl ?_
   refine at_seq rfl ?_
   refine rg rfl ?_
   have hdn : Down rows := fun i hi w hw => hq i (by omega) w hw
   refine Rq ?_
   have tr : ∀ a b c d e f g h i j k m n o p q r s t u v w x y z A B C : AV, let l := lc_rcheck_ok a b c d e f g h i j k m n o p q r s t u v w x y z A B; trim ((8,C)::l) l = [(0,a),(1,b),(2,c),(3,d),(4,e),(5,f),(6,g),(7,h),(8,C),(9,j),(10,k),(14,m),(17,n),(18,o),(19,p),(20,q),(24,r),(25,s),(26,t),(27,u),(61,v),(68,w),(75,x),(76,y),(77,z),(78,A),(112,B)] := by intros; rfl
   refine R_nil (tr ..) ?_; clear tr
   refine then_n ?_
   refine at_block rfl ?_
   refine loop_n rfl (fun mm kv H' => ∃ v : Nat, ∃ x2 x9 x10 x68 x75 x76 x77 x78 x112 : AV, (kv = [(2, x2), (8, AV.i v), (9, x9), (10, x10), (68, x68), (75, x75), (76, x76), (77, x77), (78, x78), (112, x112)]) ∧ (mm = rows.length - v) ∧ (H' = H ++ [some [rowsAV rows]]) ∧ (2 ≤ v) ∧ (v ≤ rows.length) ∧ (∀ i, i < v → 2 ≤ i → ∀ w, w < (gt rows i).length → gt (gt rows i) w - gt (gt rows (i - 1)) w ≤ gt (gt rows (i - 1)) w - gt (gt rows (i - 2)) w)) ⟨2, _, _, _, _, _, _, _, _, _, rfl, rfl, rfl, by omega, by omega, by intro i hi; omega⟩ (by rfl) ?_
   rintro mm kv H' ⟨v, x2, x9, x10, x68, x75, x76, x77, x78, x112, rfl, rfl, rfl, h2v, hv, hc⟩
   have tr : ∀ a b c d e f g h i j k m n o p q r s t u v w x y z A B C D E F G H I J K L : AV, upd [(0,a),(1,b),(2,c),(3,d),(4,e),(5,f),(6,g),(7,h),(8,i),(9,j),(10,k),(14,m),(17,n),(18,o),(19,p),(20,q),(24,r),(25,s),(26,t),(27,u),(61,v),(68,w),(75,x),(76,y),(77,z),(78,A),(112,B)] [(2,C),(8,D),(9,E),(10,F),(68,G),(75,H),(76,I),(77,J),(78,K),(112,L)] = [(0,a),(1,b),(2,C),(3,d),(4,e),(5,f),(6,g),(7,h),(8,D),(9,E),(10,F),(14,m),(17,n),(18,o),(19,p),(20,q),(24,r),(25,s),(26,t),(27,u),(61,v),(68,G),(75,H),(76,I),(77,J),(78,K),(112,L)] := by intros; rfl
   refine W_to (tr ..) ?_; clear tr
   refine at_seq rfl ?_
   refine at_seq rfl ?_
   refine rg rfl ?_
   refine Rq ?_
   refine Rq ?_
   refine Rq ?_
   refine Rq ?_
   refine Rq ?_
   have tr : ∀ a b c d e f g h i j k m n o p q r s t u v w x y z A B C D E F G : AV, let l := lc_rcheck_ok a b c d e f g h i j k m n o p q r s t u v w x y z A B; trim ((68,G)::(67,F)::(66,E)::(65,D)::(64,C)::l) l = [(0,a),(1,b),(2,c),(3,d),(4,e),(5,f),(6,g),(7,h),(8,i),(9,j),(10,k),(14,m),(17,n),(18,o),(19,p),(20,q),(24,r),(25,s),(26,t),(27,u),(61,v),(68,G),(75,x),(76,y),(77,z),(78,A),(112,B)] := by intros; rfl
   refine R_nil (tr ..) ?_; clear tr
   refine then_n ?_
   refine cdd (fun h10 => ?_) (fun h10 => ?_)
   ·
    try simp only [decide_eq_true_eq, decide_eq_false_iff_not, Bool.not_eq_true', Bool.not_eq_false', beq_iff_eq, beq_eq_false_iff_ne, ne_eq] at h10
    refine at_skip rfl ?_
    refine then_n ?_
    refine at_seq rfl ?_
    refine at_block rfl ?_
    refine at_seq rfl ?_
    refine rg rfl ?_
    have hlv := gl v (by omega)
    have hlv1 := gl (v - 1) (by omega)
    have hlv2 := gl (v - 2) (by omega)
    refine Rq ?_
    refine Rq ?_
    refine Rq ?_
    refine Rq ?_
    refine Rq ?_
    refine Rq ?_
    refine Rq ?_
    have tr : ∀ a b c d e f g h i j k m n o p q r s t u v w x y z A B C D E F G H I : AV, let l := lc_rcheck_ok a b c d e f g h i j k m n o p q r s t u v w x y z A B; trim ((77,I)::(76,H)::(75,G)::(74,F)::(73,E)::(72,D)::(71,C)::l) l = [(0,a),(1,b),(2,c),(3,d),(4,e),(5,f),(6,g),(7,h),(8,i),(9,j),(10,k),(14,m),(17,n),(18,o),(19,p),(20,q),(24,r),(25,s),(26,t),(27,u),(61,v),(68,w),(75,G),(76,H),(77,I),(78,A),(112,B)] := by intros; rfl
    refine R_nil (tr ..) ?_; clear tr
    refine then_n ?_
    refine at_block rfl ?_
    refine loop_n rfl (fun mm kv H' => ∃ w : Nat, ∃ x2 x9 x10 x78 x112 : AV, (kv = [(2, x2), (9, x9), (10, x10), (77, AV.i w), (78, x78), (112, x112)]) ∧ (mm = (gt rows v).length - w) ∧ (H' = H ++ [some [rowsAV rows]]) ∧ (w ≤ (gt rows v).length) ∧ (∀ j, j < w → gt (gt rows v) j - gt (gt rows (v - 1)) j ≤ gt (gt rows (v - 1)) j - gt (gt rows (v - 2)) j)) ⟨0, _, _, _, _, _, rfl, rfl, rfl, by omega, by intro i hi; omega⟩ (by rfl) ?_
    rintro mm kv H' ⟨w, x2, x9, x10, x78, x112, rfl, rfl, rfl, hw, hd⟩
    have tr : ∀ a b c d e f g h i j k m n o p q r s t u v w x y z A B C D E F G H : AV, upd [(0,a),(1,b),(2,c),(3,d),(4,e),(5,f),(6,g),(7,h),(8,i),(9,j),(10,k),(14,m),(17,n),(18,o),(19,p),(20,q),(24,r),(25,s),(26,t),(27,u),(61,v),(68,w),(75,x),(76,y),(77,z),(78,A),(112,B)] [(2,C),(9,D),(10,E),(77,F),(78,G),(112,H)] = [(0,a),(1,b),(2,C),(3,d),(4,e),(5,f),(6,g),(7,h),(8,i),(9,D),(10,E),(14,m),(17,n),(18,o),(19,p),(20,q),(24,r),(25,s),(26,t),(27,u),(61,v),(68,w),(75,x),(76,y),(77,F),(78,G),(112,H)] := by intros; rfl
    refine W_to (tr ..) ?_; clear tr
    refine at_seq rfl ?_
    refine rg rfl ?_
    refine Rq ?_
    have tr : ∀ a b c d e f g h i j k m n o p q r s t u v w x y z A B C : AV, let l := lc_rcheck_ok a b c d e f g h i j k m n o p q r s t u v w x y z A B; trim ((78,C)::l) l = [(0,a),(1,b),(2,c),(3,d),(4,e),(5,f),(6,g),(7,h),(8,i),(9,j),(10,k),(14,m),(17,n),(18,o),(19,p),(20,q),(24,r),(25,s),(26,t),(27,u),(61,v),(68,w),(75,x),(76,y),(77,z),(78,C),(112,B)] := by intros; rfl
    refine R_nil (tr ..) ?_; clear tr
    refine then_n ?_
    refine at_seq rfl ?_
    refine cdd (fun h11 => ?_) (fun h11 => ?_)
    ·
     try simp only [decide_eq_true_eq, decide_eq_false_iff_not, Bool.not_eq_true', Bool.not_eq_false', beq_iff_eq, beq_eq_false_iff_ne, ne_eq] at h11
     refine at_skip rfl ?_
     refine then_n ?_
     refine at_seq rfl ?_
     refine at_block rfl ?_
     refine at_seq rfl ?_
     refine rg rfl ?_
     refine Rq ?_
     refine Rq ?_
     refine Rq ?_
     refine Rq ?_
     refine Rq ?_
     have tr : ∀ a b c d e f g h i j k m n o p q r s t u v w x y z A B C D E F G : AV, let l := lc_rcheck_ok a b c d e f g h i j k m n o p q r s t u v w x y z A B; trim ((10,G)::(9,F)::(81,E)::(80,D)::(79,C)::l) l = [(0,a),(1,b),(2,c),(3,d),(4,e),(5,f),(6,g),(7,h),(8,i),(9,F),(10,G),(14,m),(17,n),(18,o),(19,p),(20,q),(24,r),(25,s),(26,t),(27,u),(61,v),(68,w),(75,x),(76,y),(77,z),(78,A),(112,B)] := by intros; rfl
     refine R_nil (tr ..) ?_; clear tr
     refine then_n ?_
     refine at_seq rfl ?_
     refine rd rfl rfl ?_
     have r0 : 0 ≤ gt (gt rows v) w ∧ gt (gt rows v) w ≤ 10000 := gr v (by omega) w (by omega)
     have r1 : 0 ≤ gt (gt rows (v - 1)) w ∧ gt (gt rows (v - 1)) w ≤ 10000 := gr (v - 1) (by omega) w (by omega)
     have r2 : 0 ≤ gt (gt rows (v - 2)) w ∧ gt (gt rows (v - 2)) w ≤ 10000 := gr (v - 2) (by omega) w (by omega)
     refine Qq ?_
     refine Qq ?_
     refine Qq ?_
     refine Qq ?_
     refine Qq ?_
     refine Qq ?_
     refine Qq ?_
     refine Qq ?_
     refine Qq ?_
     refine Qq ?_
     refine Qq ?_
     refine Qq ?_
     refine Qq ?_
     refine Qq ?_
     refine Qq ?_
     refine Qq ?_
     refine Qq ?_
     refine Qq ?_
     refine Qq ?_
     refine Qq ?_
     refine Qq ?_
     refine Qq ?_
     refine Qq ?_
     refine Qq ?_
     refine Qq ?_
     refine Qq ?_
     refine Qq ?_
     refine Qq ?_
     refine Qq ?_
     refine Qq ?_
     refine Qq ?_
     refine Q_nil ?_
     have tr : ∀ a b c d e f g h i j k m n o p q r s t u v w x y z A B C D E F G H I J K L M N O P Q R S T U V W X Y Z a1 b1 c1 d1 e1 f1 g1 : AV, let l := lc_rcheck_ok a b c d e f g h i j k m n o p q r s t u v w x y z A B; trim ((112,g1)::(111,f1)::(110,e1)::(109,d1)::(108,c1)::(107,b1)::(106,a1)::(105,Z)::(104,Y)::(103,X)::(102,W)::(101,V)::(100,U)::(99,T)::(98,S)::(97,R)::(96,Q)::(95,P)::(94,O)::(93,N)::(92,M)::(91,L)::(90,K)::(89,J)::(88,I)::(87,H)::(86,G)::(85,F)::(84,E)::(83,D)::(82,C)::l) l = [(0,a),(1,b),(2,c),(3,d),(4,e),(5,f),(6,g),(7,h),(8,i),(9,j),(10,k),(14,m),(17,n),(18,o),(19,p),(20,q),(24,r),(25,s),(26,t),(27,u),(61,v),(68,w),(75,x),(76,y),(77,z),(78,A),(112,g1)] := by intros; rfl
     refine R_nil (tr ..) ?_; clear tr
     refine then_n ?_
     refine cdd (fun h12 => ?_) (fun h12 => ?_)
     ·
      try simp only [decide_eq_true_eq, decide_eq_false_iff_not, Bool.not_eq_true', Bool.not_eq_false', beq_iff_eq, beq_eq_false_iff_ne, ne_eq] at h12
      refine at_seq rfl ?_
      refine rg rfl ?_
      refine Rq ?_
      have tr : ∀ a b c d e f g h i j k m n o p q r s t u v w x y z A B C : AV, let l := lc_rcheck_ok a b c d e f g h i j k m n o p q r s t u v w x y z A B; trim ((2,C)::l) l = [(0,a),(1,b),(2,C),(3,d),(4,e),(5,f),(6,g),(7,h),(8,i),(9,j),(10,k),(14,m),(17,n),(18,o),(19,p),(20,q),(24,r),(25,s),(26,t),(27,u),(61,v),(68,w),(75,x),(76,y),(77,z),(78,A),(112,B)] := by intros; rfl
      refine R_nil (tr ..) ?_; clear tr
      refine then_n ?_
      refine at_ret rfl ?_
      refine blk_r ?_
      refine then_r ?_
      refine then_r ?_
      refine blk_r ?_
      refine blk_r ?_
      refine then_r ?_
      refine then_r ?_
      refine blk_r ?_
      refine then_r ?_
      refine fpure ?_
      refine ⟨?_, rfl⟩
      rw [checkS, if_neg (fun hh => hh hs0), if_neg (fun hh => hh he0), if_neg (fun hh => hh hdn), if_pos (fun hh => absurd (hh v (by omega) h2v w (by omega)) (by omega))]
     ·
      try simp only [decide_eq_true_eq, decide_eq_false_iff_not, Bool.not_eq_true', Bool.not_eq_false', beq_iff_eq, beq_eq_false_iff_ne, ne_eq] at h12
      refine at_skip rfl ?_
      refine blk_n ?_
      refine then_n ?_
      refine rg rfl ?_
      refine Rq ?_
      refine Rq ?_
      have tr : ∀ a b c d e f g h i j k m n o p q r s t u v w x y z A B C D : AV, let l := lc_rcheck_ok a b c d e f g h i j k m n o p q r s t u v w x y z A B; trim ((77,D)::(113,C)::l) l = [(0,a),(1,b),(2,c),(3,d),(4,e),(5,f),(6,g),(7,h),(8,i),(9,j),(10,k),(14,m),(17,n),(18,o),(19,p),(20,q),(24,r),(25,s),(26,t),(27,u),(61,v),(68,w),(75,x),(76,y),(77,D),(78,A),(112,B)] := by intros; rfl
      refine R_nil (tr ..) ?_; clear tr
      refine then_n ?_
      exact ⟨_, _, ⟨w + 1, _, _, _, _, _, rfl, rfl, rfl, by omega, by exact all_step hd (by omega)⟩, by rfl, by omega⟩
    ·
     try simp only [decide_eq_true_eq, decide_eq_false_iff_not, Bool.not_eq_true', Bool.not_eq_false', beq_iff_eq, beq_eq_false_iff_ne, ne_eq] at h11
     refine at_exit rfl ?_
     refine then_x ?_
     refine then_x ?_
     refine blk_x ?_
     refine blk_n ?_
     refine then_n ?_
     refine rg rfl ?_
     refine Rq ?_
     refine Rq ?_
     refine Rq ?_
     have tr : ∀ a b c d e f g h i j k m n o p q r s t u v w x y z A B C D E : AV, let l := lc_rcheck_ok a b c d e f g h i j k m n o p q r s t u v w x y z A B; trim ((8,E)::(70,D)::(69,C)::l) l = [(0,a),(1,b),(2,c),(3,d),(4,e),(5,f),(6,g),(7,h),(8,E),(9,j),(10,k),(14,m),(17,n),(18,o),(19,p),(20,q),(24,r),(25,s),(26,t),(27,u),(61,v),(68,w),(75,x),(76,y),(77,z),(78,A),(112,B)] := by intros; rfl
     refine R_nil (tr ..) ?_; clear tr
     refine then_n ?_
     exact ⟨_, _, ⟨v + 1, _, _, _, _, _, _, _, _, _, rfl, rfl, rfl, by omega, by omega, by exact all_step hc fun _ w hw => hd w (by omega)⟩, by rfl, by omega⟩
   ·
    try simp only [decide_eq_true_eq, decide_eq_false_iff_not, Bool.not_eq_true', Bool.not_eq_false', beq_iff_eq, beq_eq_false_iff_ne, ne_eq] at h10
    refine at_exit rfl ?_
    refine then_x ?_
    refine then_x ?_
    refine blk_x ?_
    refine then_n ?_
    refine at_seq rfl ?_
    refine rg rfl ?_
    refine Rq ?_
    have tr : ∀ a b c d e f g h i j k m n o p q r s t u v w x y z A B C : AV, let l := lc_rcheck_ok a b c d e f g h i j k m n o p q r s t u v w x y z A B; trim ((2,C)::l) l = [(0,a),(1,b),(2,C),(3,d),(4,e),(5,f),(6,g),(7,h),(8,i),(9,j),(10,k),(14,m),(17,n),(18,o),(19,p),(20,q),(24,r),(25,s),(26,t),(27,u),(61,v),(68,w),(75,x),(76,y),(77,z),(78,A),(112,B)] := by intros; rfl
    refine R_nil (tr ..) ?_; clear tr
    refine then_n ?_
    refine at_ret rfl ?_
    refine fpure ?_
    refine ⟨?_, rfl⟩
    rw [checkS, if_neg (fun hh => hh hs0), if_neg (fun hh => hh he0), if_neg (fun hh => hh hdn), if_neg (fun hh => hh fun i hi h2 w hw => hc i (by omega) h2 w hw)]

end Go.Proofs.Ytaoondlakhocnaa
end
section
set_option linter.unusedSimpArgs false
set_option linter.unusedVariables false
set_option maxHeartbeats 40000000
set_option maxRecDepth 4000
namespace Go.Proofs.Ytaoondlakhocnaa
open Go Go.Am

theorem mul_box {a b A B : Int} (ha : 0 ≤ a) (hA : a ≤ A) (hb : 0 ≤ b) (hB : b ≤ B) : 0 ≤ a * b ∧ a * b ≤ A * B :=
  ⟨Int.mul_nonneg ha hb, Int.mul_le_mul hA hB hb (by omega)⟩
def cellI (rows : Tb) (u w : Int) : Int := gt (gt rows u.toNat) w.toNat
def atV (rows : Tb) (per balls w : Int) : Int :=
  cellI rows (balls / per) w * (per - balls % per) + (if 0 < balls % per then cellI rows (balls / per + 1) w * (balls % per) else 0)
def atBad (rows : Tb) (per balls w : Int) : Prop := per < 1 ∨ 8 < per ∨ balls < 0 ∨ ((rows.length : Int) - 1) * per < balls ∨ w < 0 ∨ (gt rows 0).length < w
instance (rows : Tb) (per balls w : Int) : Decidable (atBad rows per balls w) := by unfold atBad; infer_instance
noncomputable def atS (rows : Tb) (per balls w : Int) : Int × Int :=
  if checkS rows ≠ 0 then (0, checkS rows) else if atBad rows per balls w then (0, 2) else if w = (gt rows 0).length then (0, 0) else (atV rows per balls w, 0)
theorem check_zero {r : Tb} (h : checkS r = 0) : rawS r = 0 ∧ Down r ∧ Conc r := by
  unfold checkS at h
  split at h
  · rename_i h1; exact absurd h h1
  · split at h
    · rename_i h1 h2; exact absurd h h2
    · split at h
      · cases h
      · split at h
        · cases h
        · rename_i h1 h2 h3 h4
          exact ⟨by rw [rawS, if_neg h1]; exact Classical.not_not.mp h2, Classical.not_not.mp h3, Classical.not_not.mp h4⟩
theorem check_shaped {r : Tb} (h : checkS r = 0) : Shaped r := shaped_of (raw_zero (check_zero h).1).1
/-- Where a number of balls lies among the overs. -/
theorem at_place {n per balls : Int} (hp : 1 ≤ per) (hb : 0 ≤ balls) (hn : balls ≤ n * per) :
    0 ≤ balls / per ∧ balls / per ≤ n ∧ 0 ≤ balls % per ∧ balls % per < per ∧ (0 < balls % per → balls / per + 1 ≤ n) := by
  have h1 : 0 ≤ balls / per := Int.ediv_nonneg hb (by omega)
  have h2 : 0 ≤ balls % per := Int.emod_nonneg _ (by omega)
  have h3 : balls % per < per := Int.emod_lt_of_pos _ (by omega)
  have h4 : per * (balls / per) + balls % per = balls := Int.mul_ediv_add_emod _ _
  have h5 : balls / per ≤ n := by
    have := Int.ediv_le_ediv (c := per) (by omega) hn
    rwa [Int.mul_ediv_cancel _ (by omega)] at this
  refine ⟨h1, h5, h2, h3, fun h6 => ?_⟩
  by_cases h7 : balls / per = n
  · rw [h7, Int.mul_comm] at h4; omega
  · omega

abbrev lc_at_ok (a b c d e f g h i j k m n o p : AV) : Env := [(0,a),(1,b),(2,c),(3,d),(4,e),(8,f),(9,g),(10,h),(11,i),(12,j),(13,k),(17,m),(46,n),(50,o),(70,p)]
theorem at_ok (lim : Nat) (H : Heap) (rows : Tb) (per balls w : Int) :
    ACall sig lim 42 [.agg [rowsAV rows], AV.i per, AV.i balls, AV.i w] H fun r H' => r = .tup [AV.i (atS rows per balls w).1, AV.i (atS rows per balls w).2] ∧ H' = H := by
 refine ACall_pure (fa := fa42) rfl rfl rfl rfl ?_
 have tr : ∀ a0 a1 a2 a3 : AV, env0 fa42.keep [a0, a1, a2, a3] = [(0,a0),(1,a1),(2,a2),(3,a3),(4,.any),(8,.any),(9,.any),(10,.any),(11,.any),(12,.any),(13,.any),(17,.any),(46,.any),(50,.any),(70,.any)] := fun a0 a1 a2 a3 => rfl
 refine W_to (tr _ _ _ _) ?_; clear tr
 refine at_seq rfl ?_
 refine rg rfl ?_
 refine R_box rfl (by simp (disch := first | omega | (simp only [List.length_map, List.length_append, List.length_set, List.length_cons, List.length_nil]; omega)) only [go_sem, ↓reduceIte, Nat.reduceEqDiff, reduceCtorEq] <;> rfl) rfl rfl ?_
 refine Rq ?_
 refine Rq ?_
 have tr : ∀ a b c d e f g h i j k m n o p q r s : AV, let l := lc_at_ok a b c d e f g h i j k m n o p; trim ((9,s)::(8,r)::(4,q)::l) l = [(0,a),(1,b),(2,c),(3,d),(4,q),(8,r),(9,s),(10,h),(11,i),(12,j),(13,k),(17,m),(46,n),(50,o),(70,p)] := by intros; rfl
 refine R_nil (tr ..) ?_; clear tr
 refine then_n ?_
 refine at_seq rfl ?_
 refine at_seq rfl ?_
 refine rg rfl ?_
 refine Rq ?_
 refine Rcall ?_
 refine ACall_eq (check_ok _ _ _) ?_
 refine Rq ?_
 have tr : ∀ a b c d e f g h i j k m n o p q r s : AV, let l := lc_at_ok a b c d e f g h i j k m n o p; trim ((10,s)::(15,r)::(14,q)::l) l = [(0,a),(1,b),(2,c),(3,d),(4,e),(8,f),(9,g),(10,s),(11,i),(12,j),(13,k),(17,m),(46,n),(50,o),(70,p)] := by intros; rfl
 refine R_nil (tr ..) ?_; clear tr
 refine then_n ?_
 refine at_seq rfl ?_
 refine rg rfl ?_
 refine Rq ?_
 refine Rq ?_
 have tr : ∀ a b c d e f g h i j k m n o p q r : AV, let l := lc_at_ok a b c d e f g h i j k m n o p; trim ((17,r)::(16,q)::l) l = [(0,a),(1,b),(2,c),(3,d),(4,e),(8,f),(9,g),(10,h),(11,i),(12,j),(13,k),(17,r),(46,n),(50,o),(70,p)] := by intros; rfl
 refine R_nil (tr ..) ?_; clear tr
 refine then_n ?_
 refine cdd (fun h1 => ?_) (fun h1 => ?_)
 ·
  try simp only [decide_eq_true_eq, decide_eq_false_iff_not, Bool.not_eq_true', Bool.not_eq_false', beq_iff_eq, beq_eq_false_iff_ne, ne_eq] at h1
  refine at_seq rfl ?_
  refine rg rfl ?_
  refine Rq ?_
  refine Rq ?_
  refine Rq ?_
  have tr : ∀ a b c d e f g h i j k m n o p q r s : AV, let l := lc_at_ok a b c d e f g h i j k m n o p; trim ((9,s)::(8,r)::(18,q)::l) l = [(0,a),(1,b),(2,c),(3,d),(4,e),(8,r),(9,s),(10,h),(11,i),(12,j),(13,k),(17,m),(46,n),(50,o),(70,p)] := by intros; rfl
  refine R_nil (tr ..) ?_; clear tr
  refine then_n ?_
  refine at_ret rfl ?_
  refine then_r ?_
  refine fpure ?_
  refine ⟨?_, rfl⟩
  rw [atS, if_pos (by assumption)]
 ·
  try simp only [decide_eq_true_eq, decide_eq_false_iff_not, Bool.not_eq_true', Bool.not_eq_false', beq_iff_eq, beq_eq_false_iff_ne, ne_eq] at h1
  refine at_skip rfl ?_
  refine then_n ?_
  refine at_seq rfl ?_
  refine at_seq rfl ?_
  refine rg rfl ?_
  refine Rq ?_
  refine Rq ?_
  refine Rq ?_
  refine Rp_split (fun h2 => ?_) (fun h2 => ?_)
  ·
   try simp only [decide_eq_true_eq, decide_eq_false_iff_not, Bool.not_eq_true', Bool.not_eq_false', beq_iff_eq, beq_eq_false_iff_ne, ne_eq] at h2
   refine Rn ?_
   refine Rn ?_
   refine Rq ?_
   refine Rq ?_
   refine Rn ?_
   refine Rn ?_
   refine Rq ?_
   refine Rq ?_
   refine Rn ?_
   refine Rn ?_
   refine Rn ?_
   refine Rn ?_
   refine Rn ?_
   refine Rn ?_
   refine Rq ?_
   refine Rq ?_
   refine Rn ?_
   refine Rn ?_
   refine Rq ?_
   refine Rq ?_
   refine Rn ?_
   refine Rn ?_
   refine Rn ?_
   refine Rn ?_
   refine Rq ?_
   have tr : ∀ a b c d e f g h i j k m n o p q r s t u v w x y z A B C D E F G H I J K L M N O P Q R : AV, let l := lc_at_ok a b c d e f g h i j k m n o p; trim ((46,R)::(45,Q)::(44,P)::(43,O)::(42,N)::(41,M)::(40,L)::(39,K)::(38,J)::(37,I)::(36,H)::(35,G)::(34,F)::(33,E)::(32,D)::(31,C)::(30,B)::(29,A)::(28,z)::(27,y)::(26,x)::(25,w)::(24,v)::(23,u)::(22,t)::(21,s)::(20,r)::(19,q)::l) l = [(0,a),(1,b),(2,c),(3,d),(4,e),(8,f),(9,g),(10,h),(11,i),(12,j),(13,k),(17,m),(46,R),(50,o),(70,p)] := by intros; rfl
   refine R_nil (tr ..) ?_; clear tr
   refine then_n ?_
   refine cdt ?_
   refine at_seq rfl ?_
   refine rg rfl ?_
   refine Rq ?_
   refine Rq ?_
   have tr : ∀ a b c d e f g h i j k m n o p q r : AV, let l := lc_at_ok a b c d e f g h i j k m n o p; trim ((9,r)::(8,q)::l) l = [(0,a),(1,b),(2,c),(3,d),(4,e),(8,q),(9,r),(10,h),(11,i),(12,j),(13,k),(17,m),(46,n),(50,o),(70,p)] := by intros; rfl
   refine R_nil (tr ..) ?_; clear tr
   refine then_n ?_
   refine at_ret rfl ?_
   refine then_r ?_
   refine fpure ?_
   refine ⟨?_, rfl⟩
   rw [atS, if_neg (by omega), if_pos (by unfold atBad; omega)]
  ·
   try simp only [decide_eq_true_eq, decide_eq_false_iff_not, Bool.not_eq_true', Bool.not_eq_false', beq_iff_eq, beq_eq_false_iff_ne, ne_eq] at h2
   refine Ry ?_
   refine Rq ?_
   refine Ry ?_
   refine Rq ?_
   refine Rq ?_
   refine Rq ?_
   refine Rp_split (fun h3 => ?_) (fun h3 => ?_)
   ·
    try simp only [decide_eq_true_eq, decide_eq_false_iff_not, Bool.not_eq_true', Bool.not_eq_false', beq_iff_eq, beq_eq_false_iff_ne, ne_eq] at h3
    refine Rn ?_
    refine Rn ?_
    refine Rq ?_
    refine Rq ?_
    refine Rn ?_
    refine Rn ?_
    refine Rn ?_
    refine Rn ?_
    refine Rn ?_
    refine Rn ?_
    refine Rq ?_
    refine Rq ?_
    refine Rn ?_
    refine Rn ?_
    refine Rq ?_
    refine Rq ?_
    refine Rn ?_
    refine Rn ?_
    refine Rn ?_
    refine Rn ?_
    refine Rq ?_
    have tr : ∀ a b c d e f g h i j k m n o p q r s t u v w x y z A B C D E F G H I J K L M N O P Q R : AV, let l := lc_at_ok a b c d e f g h i j k m n o p; trim ((46,R)::(45,Q)::(44,P)::(43,O)::(42,N)::(41,M)::(40,L)::(39,K)::(38,J)::(37,I)::(36,H)::(35,G)::(34,F)::(33,E)::(32,D)::(31,C)::(30,B)::(29,A)::(28,z)::(27,y)::(26,x)::(25,w)::(24,v)::(23,u)::(22,t)::(21,s)::(20,r)::(19,q)::l) l = [(0,a),(1,b),(2,c),(3,d),(4,e),(8,f),(9,g),(10,h),(11,i),(12,j),(13,k),(17,m),(46,R),(50,o),(70,p)] := by intros; rfl
    refine R_nil (tr ..) ?_; clear tr
    refine then_n ?_
    refine cdt ?_
    refine at_seq rfl ?_
    refine rg rfl ?_
    refine Rq ?_
    refine Rq ?_
    have tr : ∀ a b c d e f g h i j k m n o p q r : AV, let l := lc_at_ok a b c d e f g h i j k m n o p; trim ((9,r)::(8,q)::l) l = [(0,a),(1,b),(2,c),(3,d),(4,e),(8,q),(9,r),(10,h),(11,i),(12,j),(13,k),(17,m),(46,n),(50,o),(70,p)] := by intros; rfl
    refine R_nil (tr ..) ?_; clear tr
    refine then_n ?_
    refine at_ret rfl ?_
    refine then_r ?_
    refine fpure ?_
    refine ⟨?_, rfl⟩
    rw [atS, if_neg (by omega), if_pos (by unfold atBad; omega)]
   ·
    try simp only [decide_eq_true_eq, decide_eq_false_iff_not, Bool.not_eq_true', Bool.not_eq_false', beq_iff_eq, beq_eq_false_iff_ne, ne_eq] at h3
    refine Ry ?_
    refine Rq ?_
    refine Ry ?_
    refine Rq ?_
    refine Rq ?_
    refine Rq ?_
    refine Rp_split (fun h4 => ?_) (fun h4 => ?_)
    ·
     try simp only [decide_eq_true_eq, decide_eq_false_iff_not, Bool.not_eq_true', Bool.not_eq_false', beq_iff_eq, beq_eq_false_iff_ne, ne_eq] at h4
     refine Rn ?_
     refine Rn ?_
     refine Rn ?_
     refine Rn ?_
     refine Rn ?_
     refine Rn ?_
     refine Rq ?_
     refine Rq ?_
     refine Rn ?_
     refine Rn ?_
     refine Rq ?_
     refine Rq ?_
     refine Rn ?_
     refine Rn ?_
     refine Rn ?_
     refine Rn ?_
     refine Rq ?_
     have tr : ∀ a b c d e f g h i j k m n o p q r s t u v w x y z A B C D E F G H I J K L M N O P Q R : AV, let l := lc_at_ok a b c d e f g h i j k m n o p; trim ((46,R)::(45,Q)::(44,P)::(43,O)::(42,N)::(41,M)::(40,L)::(39,K)::(38,J)::(37,I)::(36,H)::(35,G)::(34,F)::(33,E)::(32,D)::(31,C)::(30,B)::(29,A)::(28,z)::(27,y)::(26,x)::(25,w)::(24,v)::(23,u)::(22,t)::(21,s)::(20,r)::(19,q)::l) l = [(0,a),(1,b),(2,c),(3,d),(4,e),(8,f),(9,g),(10,h),(11,i),(12,j),(13,k),(17,m),(46,R),(50,o),(70,p)] := by intros; rfl
     refine R_nil (tr ..) ?_; clear tr
     refine then_n ?_
     refine cdt ?_
     refine at_seq rfl ?_
     refine rg rfl ?_
     refine Rq ?_
     refine Rq ?_
     have tr : ∀ a b c d e f g h i j k m n o p q r : AV, let l := lc_at_ok a b c d e f g h i j k m n o p; trim ((9,r)::(8,q)::l) l = [(0,a),(1,b),(2,c),(3,d),(4,e),(8,q),(9,r),(10,h),(11,i),(12,j),(13,k),(17,m),(46,n),(50,o),(70,p)] := by intros; rfl
     refine R_nil (tr ..) ?_; clear tr
     refine then_n ?_
     refine at_ret rfl ?_
     refine then_r ?_
     refine fpure ?_
     refine ⟨?_, rfl⟩
     rw [atS, if_neg (by omega), if_pos (by unfold atBad; omega)]
    ·
     try simp only [decide_eq_true_eq, decide_eq_false_iff_not, Bool.not_eq_true', Bool.not_eq_false', beq_iff_eq, beq_eq_false_iff_ne, ne_eq] at h4
     refine Ry ?_
     refine Rq ?_
     refine Ry ?_
     refine Rq ?_
     refine Ry ?_
     refine Rcall ?_
     have s := check_shaped (by assumption : checkS rows = 0)
     have g2 := s.two
     have g91 := s.most
     refine ACall_eq (overs_ok _ _ rows g91 g2) ?_
     have hpm := mul_box (a := (rows.length : Int) - 1) (b := per) (A := 90) (B := 8) (by omega) (by omega) (by omega) (by omega)
     refine Ry ?_
     refine Rq ?_
     refine Ry ?_
     refine Rq ?_
     refine Ry ?_
     refine Rq ?_
     refine Rq ?_
     refine Rq ?_
     refine Rp_split (fun h5 => ?_) (fun h5 => ?_)
     ·
      try simp only [decide_eq_true_eq, decide_eq_false_iff_not, Bool.not_eq_true', Bool.not_eq_false', beq_iff_eq, beq_eq_false_iff_ne, ne_eq] at h5
      refine Rn ?_
      refine Rn ?_
      refine Rq ?_
      refine Rq ?_
      refine Rn ?_
      refine Rn ?_
      refine Rn ?_
      refine Rn ?_
      refine Rq ?_
      have tr : ∀ a b c d e f g h i j k m n o p q r s t u v w x y z A B C D E F G H I J K L M N O P Q R : AV, let l := lc_at_ok a b c d e f g h i j k m n o p; trim ((46,R)::(45,Q)::(44,P)::(43,O)::(42,N)::(41,M)::(40,L)::(39,K)::(38,J)::(37,I)::(36,H)::(35,G)::(34,F)::(33,E)::(32,D)::(31,C)::(30,B)::(29,A)::(28,z)::(27,y)::(26,x)::(25,w)::(24,v)::(23,u)::(22,t)::(21,s)::(20,r)::(19,q)::l) l = [(0,a),(1,b),(2,c),(3,d),(4,e),(8,f),(9,g),(10,h),(11,i),(12,j),(13,k),(17,m),(46,R),(50,o),(70,p)] := by intros; rfl
      refine R_nil (tr ..) ?_; clear tr
      refine then_n ?_
      refine cdt ?_
      refine at_seq rfl ?_
      refine rg rfl ?_
      refine Rq ?_
      refine Rq ?_
      have tr : ∀ a b c d e f g h i j k m n o p q r : AV, let l := lc_at_ok a b c d e f g h i j k m n o p; trim ((9,r)::(8,q)::l) l = [(0,a),(1,b),(2,c),(3,d),(4,e),(8,q),(9,r),(10,h),(11,i),(12,j),(13,k),(17,m),(46,n),(50,o),(70,p)] := by intros; rfl
      refine R_nil (tr ..) ?_; clear tr
      refine then_n ?_
      refine at_ret rfl ?_
      refine then_r ?_
      refine fpure ?_
      refine ⟨?_, rfl⟩
      rw [atS, if_neg (by omega), if_pos (by unfold atBad; omega)]
     ·
      try simp only [decide_eq_true_eq, decide_eq_false_iff_not, Bool.not_eq_true', Bool.not_eq_false', beq_iff_eq, beq_eq_false_iff_ne, ne_eq] at h5
      refine Ry ?_
      refine Rq ?_
      refine Ry ?_
      refine Rq ?_
      refine Rq ?_
      refine Rq ?_
      refine Rp_split (fun h6 => ?_) (fun h6 => ?_)
      ·
       try simp only [decide_eq_true_eq, decide_eq_false_iff_not, Bool.not_eq_true', Bool.not_eq_false', beq_iff_eq, beq_eq_false_iff_ne, ne_eq] at h6
       refine Rn ?_
       refine Rn ?_
       refine Rn ?_
       refine Rn ?_
       refine Rq ?_
       have tr : ∀ a b c d e f g h i j k m n o p q r s t u v w x y z A B C D E F G H I J K L M N O P Q R : AV, let l := lc_at_ok a b c d e f g h i j k m n o p; trim ((46,R)::(45,Q)::(44,P)::(43,O)::(42,N)::(41,M)::(40,L)::(39,K)::(38,J)::(37,I)::(36,H)::(35,G)::(34,F)::(33,E)::(32,D)::(31,C)::(30,B)::(29,A)::(28,z)::(27,y)::(26,x)::(25,w)::(24,v)::(23,u)::(22,t)::(21,s)::(20,r)::(19,q)::l) l = [(0,a),(1,b),(2,c),(3,d),(4,e),(8,f),(9,g),(10,h),(11,i),(12,j),(13,k),(17,m),(46,R),(50,o),(70,p)] := by intros; rfl
       refine R_nil (tr ..) ?_; clear tr
       refine then_n ?_
       refine cdt ?_
       refine at_seq rfl ?_
       refine rg rfl ?_
       refine Rq ?_
       refine Rq ?_
       have tr : ∀ a b c d e f g h i j k m n o p q r : AV, let l := lc_at_ok a b c d e f g h i j k m n o p; trim ((9,r)::(8,q)::l) l = [(0,a),(1,b),(2,c),(3,d),(4,e),(8,q),(9,r),(10,h),(11,i),(12,j),(13,k),(17,m),(46,n),(50,o),(70,p)] := by intros; rfl
       refine R_nil (tr ..) ?_; clear tr
       refine then_n ?_
       refine at_ret rfl ?_
       refine then_r ?_
       refine fpure ?_
       refine ⟨?_, rfl⟩
       rw [atS, if_neg (by omega), if_pos (by unfold atBad; omega)]
      ·
       try simp only [decide_eq_true_eq, decide_eq_false_iff_not, Bool.not_eq_true', Bool.not_eq_false', beq_iff_eq, beq_eq_false_iff_ne, ne_eq] at h6
       refine Ry ?_
       refine Rq ?_
       refine Ry ?_
       refine Rq ?_
       refine Ry ?_
       refine Rcall ?_
       refine ACall_eq (wickets_ok _ _ rows g2) ?_
       refine Ry ?_
       refine Rq ?_
       refine Rq ?_
       have tr : ∀ a b c d e f g h i j k m n o p q r s t u v w x y z A B C D E F G H I J K L M N O P Q R : AV, let l := lc_at_ok a b c d e f g h i j k m n o p; trim ((46,R)::(45,Q)::(44,P)::(43,O)::(42,N)::(41,M)::(40,L)::(39,K)::(38,J)::(37,I)::(36,H)::(35,G)::(34,F)::(33,E)::(32,D)::(31,C)::(30,B)::(29,A)::(28,z)::(27,y)::(26,x)::(25,w)::(24,v)::(23,u)::(22,t)::(21,s)::(20,r)::(19,q)::l) l = [(0,a),(1,b),(2,c),(3,d),(4,e),(8,f),(9,g),(10,h),(11,i),(12,j),(13,k),(17,m),(46,R),(50,o),(70,p)] := by intros; rfl
       refine R_nil (tr ..) ?_; clear tr
       refine then_n ?_
       refine cdd (fun h7 => ?_) (fun h7 => ?_)
       ·
        try simp only [decide_eq_true_eq, decide_eq_false_iff_not, Bool.not_eq_true', Bool.not_eq_false', beq_iff_eq, beq_eq_false_iff_ne, ne_eq] at h7
        refine at_seq rfl ?_
        refine rg rfl ?_
        refine Rq ?_
        refine Rq ?_
        have tr : ∀ a b c d e f g h i j k m n o p q r : AV, let l := lc_at_ok a b c d e f g h i j k m n o p; trim ((9,r)::(8,q)::l) l = [(0,a),(1,b),(2,c),(3,d),(4,e),(8,q),(9,r),(10,h),(11,i),(12,j),(13,k),(17,m),(46,n),(50,o),(70,p)] := by intros; rfl
        refine R_nil (tr ..) ?_; clear tr
        refine then_n ?_
        refine at_ret rfl ?_
        refine then_r ?_
        refine fpure ?_
        refine ⟨?_, rfl⟩
        rw [atS, if_neg (by omega), if_pos (by unfold atBad; omega)]
       ·
        try simp only [decide_eq_true_eq, decide_eq_false_iff_not, Bool.not_eq_true', Bool.not_eq_false', beq_iff_eq, beq_eq_false_iff_ne, ne_eq] at h7
        refine at_skip rfl ?_
        refine then_n ?_
        refine at_seq rfl ?_
        refine at_seq rfl ?_
        refine rg rfl ?_
        refine Rq ?_
        refine Rq ?_
        refine Rcall ?_
        refine ACall_eq (wickets_ok _ _ rows g2) ?_
        refine Rq ?_
        have tr : ∀ a b c d e f g h i j k m n o p q r s t : AV, let l := lc_at_ok a b c d e f g h i j k m n o p; trim ((50,t)::(49,s)::(48,r)::(47,q)::l) l = [(0,a),(1,b),(2,c),(3,d),(4,e),(8,f),(9,g),(10,h),(11,i),(12,j),(13,k),(17,m),(46,n),(50,t),(70,p)] := by intros; rfl
        refine R_nil (tr ..) ?_; clear tr
        refine then_n ?_
        refine cdd (fun h8 => ?_) (fun h8 => ?_)
        ·
         try simp only [decide_eq_true_eq, decide_eq_false_iff_not, Bool.not_eq_true', Bool.not_eq_false', beq_iff_eq, beq_eq_false_iff_ne, ne_eq] at h8
         refine at_seq rfl ?_
         refine rg rfl ?_
         refine Rq ?_
         refine Rq ?_
         have tr : ∀ a b c d e f g h i j k m n o p q r : AV, let l := lc_at_ok a b c d e f g h i j k m n o p; trim ((9,r)::(8,q)::l) l = [(0,a),(1,b),(2,c),(3,d),(4,e),(8,q),(9,r),(10,h),(11,i),(12,j),(13,k),(17,m),(46,n),(50,o),(70,p)] := by intros; rfl
         refine R_nil (tr ..) ?_; clear tr
         refine then_n ?_
         refine at_ret rfl ?_
         refine then_r ?_
         refine fpure ?_
         refine ⟨?_, rfl⟩
         rw [atS, if_neg (by omega), if_neg (by unfold atBad; omega), if_pos (by omega)]
        ·
         try simp only [decide_eq_true_eq, decide_eq_false_iff_not, Bool.not_eq_true', Bool.not_eq_false', beq_iff_eq, beq_eq_false_iff_ne, ne_eq] at h8
         refine at_skip rfl ?_
         refine then_n ?_
         refine at_seq rfl ?_
         refine rd rfl rfl ?_
         have hat := at_place (n := (rows.length : Int) - 1) (per := per) (balls := balls) (by omega) (by omega) (by omega)
         obtain ⟨q0, q1, r0, r1, q2⟩ := hat
         have gl := s.len
         have gr := s.rng
         have hl1 := gl (balls / per).toNat (by omega)
         have k1 : 0 ≤ gt (gt rows (balls / per).toNat) w.toNat ∧ gt (gt rows (balls / per).toNat) w.toNat ≤ 10000 := gr _ (by omega) _ (by omega)
         have k2 := mul_box (b := per - balls % per) (B := 8) k1.1 k1.2 (by omega) (by omega)
         refine Qq ?_
         refine Qq ?_
         refine Qq ?_
         refine Qq ?_
         refine Qq ?_
         refine Qq ?_
         refine Qq ?_
         refine Qq ?_
         refine Q_nil ?_
         have tr : ∀ a b c d e f g h i j k m n o p q r s t u v w x : AV, let l := lc_at_ok a b c d e f g h i j k m n o p; trim ((12,x)::(11,w)::(56,v)::(55,u)::(54,t)::(53,s)::(52,r)::(51,q)::l) l = [(0,a),(1,b),(2,c),(3,d),(4,e),(8,f),(9,g),(10,h),(11,w),(12,x),(13,k),(17,m),(46,n),(50,o),(70,p)] := by intros; rfl
         refine R_nil (tr ..) ?_; clear tr
         refine then_n ?_
         refine at_seq rfl ?_
         refine rg rfl ?_
         refine Rq ?_
         refine Rq ?_
         refine Rq ?_
         refine Rq ?_
         refine Rq ?_
         refine Rq ?_
         refine Rq ?_
         refine Rq ?_
         refine Rq ?_
         refine Rq ?_
         refine Rq ?_
         refine Rq ?_
         refine Rq ?_
         have tr : ∀ a b c d e f g h i j k m n o p q r s t u v w x y z A B C : AV, let l := lc_at_ok a b c d e f g h i j k m n o p; trim ((13,C)::(68,B)::(67,A)::(66,z)::(65,y)::(64,x)::(63,w)::(62,v)::(61,u)::(60,t)::(59,s)::(58,r)::(57,q)::l) l = [(0,a),(1,b),(2,c),(3,d),(4,e),(8,f),(9,g),(10,h),(11,i),(12,j),(13,C),(17,m),(46,n),(50,o),(70,p)] := by intros; rfl
         refine R_nil (tr ..) ?_; clear tr
         refine then_n ?_
         refine at_seq rfl ?_
         refine at_seq rfl ?_
         refine rg rfl ?_
         refine Rq ?_
         refine Rq ?_
         have tr : ∀ a b c d e f g h i j k m n o p q r : AV, let l := lc_at_ok a b c d e f g h i j k m n o p; trim ((70,r)::(69,q)::l) l = [(0,a),(1,b),(2,c),(3,d),(4,e),(8,f),(9,g),(10,h),(11,i),(12,j),(13,k),(17,m),(46,n),(50,o),(70,r)] := by intros; rfl
         refine R_nil (tr ..) ?_; clear tr
         refine then_n ?_
         refine cdd (fun h9 => ?_) (fun h9 => ?_)
         ·
          try simp only [decide_eq_true_eq, decide_eq_false_iff_not, Bool.not_eq_true', Bool.not_eq_false', beq_iff_eq, beq_eq_false_iff_ne, ne_eq] at h9
          refine rg rfl ?_
          have q3 := q2 (by assumption)
          have hl2 := gl (balls / per + 1).toNat (by omega)
          have k3 : 0 ≤ gt (gt rows (balls / per + 1).toNat) w.toNat ∧ gt (gt rows (balls / per + 1).toNat) w.toNat ≤ 10000 := gr _ (by omega) _ (by omega)
          have k4 := mul_box (b := balls % per) (B := 8) k3.1 k3.2 (by omega) (by omega)
          refine Rq ?_
          refine Rq ?_
          refine Rq ?_
          refine Rq ?_
          refine Rq ?_
          refine Rq ?_
          refine Rq ?_
          refine Rq ?_
          refine Rq ?_
          refine Rq ?_
          refine Rq ?_
          refine Rq ?_
          refine Rq ?_
          refine Rq ?_
          have tr : ∀ a b c d e f g h i j k m n o p q r s t u v w x y z A B C D : AV, let l := lc_at_ok a b c d e f g h i j k m n o p; trim ((13,D)::(83,C)::(82,B)::(81,A)::(80,z)::(79,y)::(78,x)::(77,w)::(76,v)::(75,u)::(74,t)::(73,s)::(72,r)::(71,q)::l) l = [(0,a),(1,b),(2,c),(3,d),(4,e),(8,f),(9,g),(10,h),(11,i),(12,j),(13,D),(17,m),(46,n),(50,o),(70,p)] := by intros; rfl
          refine R_nil (tr ..) ?_; clear tr
          refine then_n ?_
          refine at_seq rfl ?_
          refine rg rfl ?_
          refine Rq ?_
          refine Rq ?_
          refine Rq ?_
          have tr : ∀ a b c d e f g h i j k m n o p q r s : AV, let l := lc_at_ok a b c d e f g h i j k m n o p; trim ((9,s)::(8,r)::(84,q)::l) l = [(0,a),(1,b),(2,c),(3,d),(4,e),(8,r),(9,s),(10,h),(11,i),(12,j),(13,k),(17,m),(46,n),(50,o),(70,p)] := by intros; rfl
          refine R_nil (tr ..) ?_; clear tr
          refine then_n ?_
          refine at_ret rfl ?_
          refine fpure ?_
          refine ⟨?_, rfl⟩
          rw [atS, if_neg (by omega), if_neg (by unfold atBad; omega), if_neg (by omega), atV, cellI, cellI, if_pos (by omega)]
         ·
          try simp only [decide_eq_true_eq, decide_eq_false_iff_not, Bool.not_eq_true', Bool.not_eq_false', beq_iff_eq, beq_eq_false_iff_ne, ne_eq] at h9
          refine at_skip rfl ?_
          refine then_n ?_
          refine at_seq rfl ?_
          refine rg rfl ?_
          refine Rq ?_
          refine Rq ?_
          refine Rq ?_
          have tr : ∀ a b c d e f g h i j k m n o p q r s : AV, let l := lc_at_ok a b c d e f g h i j k m n o p; trim ((9,s)::(8,r)::(84,q)::l) l = [(0,a),(1,b),(2,c),(3,d),(4,e),(8,r),(9,s),(10,h),(11,i),(12,j),(13,k),(17,m),(46,n),(50,o),(70,p)] := by intros; rfl
          refine R_nil (tr ..) ?_; clear tr
          refine then_n ?_
          refine at_ret rfl ?_
          refine fpure ?_
          refine ⟨?_, rfl⟩
          rw [atS, if_neg (by omega), if_neg (by unfold atBad; omega), if_neg (by omega), atV, cellI, cellI, if_neg (by omega), Int.add_zero]

end Go.Proofs.Ytaoondlakhocnaa
end
section
set_option linter.unusedSimpArgs false
set_option linter.unusedVariables false
set_option maxHeartbeats 40000000
set_option maxRecDepth 4000
namespace Go.Proofs.Ytaoondlakhocnaa
open Go Go.Am

abbrev lc_rat_ok (a b c d e f g h i j k m n o p q : AV) : Env := [(0,a),(1,b),(2,c),(3,d),(4,e),(8,f),(9,g),(10,h),(11,i),(12,j),(13,k),(14,m),(18,n),(48,o),(52,p),(72,q)]
theorem rat_ok (lim : Nat) (H : Heap) (rows : Tb) (per balls w : Int) :
    ACall sig lim 54 [.agg [rowsAV rows], AV.i per, AV.i balls, AV.i w] H fun r H' => r = .tup [AV.i (atS rows per balls w).1, AV.i (atS rows per balls w).2] ∧ H' = H := by
 refine ACall_pure (fa := fa54) rfl rfl rfl rfl ?_
 have tr : ∀ a0 a1 a2 a3 : AV, env0 fa54.keep [a0, a1, a2, a3] = [(0,a0),(1,a1),(2,a2),(3,a3),(4,.any),(8,.any),(9,.any),(10,.any),(11,.any),(12,.any),(13,.any),(14,.any),(18,.any),(48,.any),(52,.any),(72,.any)] := fun a0 a1 a2 a3 => rfl
 refine W_to (tr _ _ _ _) ?_; clear tr
 refine at_seq rfl ?_
 refine rg rfl ?_
 refine R_box rfl (by simp (disch := first | omega | (simp only [List.length_map, List.length_append, List.length_set, List.length_cons, List.length_nil]; omega)) only [go_sem, ↓reduceIte, Nat.reduceEqDiff, reduceCtorEq] <;> rfl) rfl rfl ?_
 refine Rq ?_
 refine Rq ?_
 have tr : ∀ a b c d e f g h i j k m n o p q r s t : AV, let l := lc_rat_ok a b c d e f g h i j k m n o p q; trim ((9,t)::(8,s)::(4,r)::l) l = [(0,a),(1,b),(2,c),(3,d),(4,r),(8,s),(9,t),(10,h),(11,i),(12,j),(13,k),(14,m),(18,n),(48,o),(52,p),(72,q)] := by intros; rfl
 refine R_nil (tr ..) ?_; clear tr
 refine then_n ?_
 refine at_seq rfl ?_
 refine at_seq rfl ?_
 refine rg rfl ?_
 refine Rq ?_
 refine Rcall ?_
 refine ACall_eq (rcheck_ok _ _ _) ?_
 refine Rq ?_
 have tr : ∀ a b c d e f g h i j k m n o p q r s t : AV, let l := lc_rat_ok a b c d e f g h i j k m n o p q; trim ((10,t)::(16,s)::(15,r)::l) l = [(0,a),(1,b),(2,c),(3,d),(4,e),(8,f),(9,g),(10,t),(11,i),(12,j),(13,k),(14,m),(18,n),(48,o),(52,p),(72,q)] := by intros; rfl
 refine R_nil (tr ..) ?_; clear tr
 refine then_n ?_
 refine at_seq rfl ?_
 refine rg rfl ?_
 refine Rq ?_
 refine Rq ?_
 have tr : ∀ a b c d e f g h i j k m n o p q r s : AV, let l := lc_rat_ok a b c d e f g h i j k m n o p q; trim ((18,s)::(17,r)::l) l = [(0,a),(1,b),(2,c),(3,d),(4,e),(8,f),(9,g),(10,h),(11,i),(12,j),(13,k),(14,m),(18,s),(48,o),(52,p),(72,q)] := by intros; rfl
 refine R_nil (tr ..) ?_; clear tr
 refine then_n ?_
 refine cdd (fun h1 => ?_) (fun h1 => ?_)
 ·
  try simp only [decide_eq_true_eq, decide_eq_false_iff_not, Bool.not_eq_true', Bool.not_eq_false', beq_iff_eq, beq_eq_false_iff_ne, ne_eq] at h1
  refine at_seq rfl ?_
  refine rg rfl ?_
  refine Rq ?_
  refine Rq ?_
  refine Rq ?_
  have tr : ∀ a b c d e f g h i j k m n o p q r s t : AV, let l := lc_rat_ok a b c d e f g h i j k m n o p q; trim ((9,t)::(8,s)::(19,r)::l) l = [(0,a),(1,b),(2,c),(3,d),(4,e),(8,s),(9,t),(10,h),(11,i),(12,j),(13,k),(14,m),(18,n),(48,o),(52,p),(72,q)] := by intros; rfl
  refine R_nil (tr ..) ?_; clear tr
  refine then_n ?_
  refine at_ret rfl ?_
  refine then_r ?_
  refine fpure ?_
  refine ⟨?_, rfl⟩
  rw [atS, if_pos (by assumption)]
 ·
  try simp only [decide_eq_true_eq, decide_eq_false_iff_not, Bool.not_eq_true', Bool.not_eq_false', beq_iff_eq, beq_eq_false_iff_ne, ne_eq] at h1
  refine at_skip rfl ?_
  refine then_n ?_
  refine at_seq rfl ?_
  refine rg rfl ?_
  refine Rq ?_
  refine Rq ?_
  have tr : ∀ a b c d e f g h i j k m n o p q r s : AV, let l := lc_rat_ok a b c d e f g h i j k m n o p q; trim ((11,s)::(20,r)::l) l = [(0,a),(1,b),(2,c),(3,d),(4,e),(8,f),(9,g),(10,h),(11,s),(12,j),(13,k),(14,m),(18,n),(48,o),(52,p),(72,q)] := by intros; rfl
  refine R_nil (tr ..) ?_; clear tr
  refine then_n ?_
  refine at_seq rfl ?_
  refine at_seq rfl ?_
  refine rg rfl ?_
  refine Rq ?_
  refine Rq ?_
  refine Rq ?_
  refine Rp_split (fun h2 => ?_) (fun h2 => ?_)
  ·
   try simp only [decide_eq_true_eq, decide_eq_false_iff_not, Bool.not_eq_true', Bool.not_eq_false', beq_iff_eq, beq_eq_false_iff_ne, ne_eq] at h2
   refine Rn ?_
   refine Rn ?_
   refine Rq ?_
   refine Rq ?_
   refine Rn ?_
   refine Rn ?_
   refine Rq ?_
   refine Rq ?_
   refine Rn ?_
   refine Rn ?_
   refine Rn ?_
   refine Rn ?_
   refine Rn ?_
   refine Rn ?_
   refine Rq ?_
   refine Rq ?_
   refine Rn ?_
   refine Rn ?_
   refine Rq ?_
   refine Rq ?_
   refine Rn ?_
   refine Rn ?_
   refine Rn ?_
   refine Rn ?_
   refine Rq ?_
   have tr : ∀ a b c d e f g h i j k m n o p q r s t u v w x y z A B C D E F G H I J K L M N O P Q R S : AV, let l := lc_rat_ok a b c d e f g h i j k m n o p q; trim ((48,S)::(47,R)::(46,Q)::(45,P)::(44,O)::(43,N)::(42,M)::(41,L)::(40,K)::(39,J)::(38,I)::(37,H)::(36,G)::(35,F)::(34,E)::(33,D)::(32,C)::(31,B)::(30,A)::(29,z)::(28,y)::(27,x)::(26,w)::(25,v)::(24,u)::(23,t)::(22,s)::(21,r)::l) l = [(0,a),(1,b),(2,c),(3,d),(4,e),(8,f),(9,g),(10,h),(11,i),(12,j),(13,k),(14,m),(18,n),(48,S),(52,p),(72,q)] := by intros; rfl
   refine R_nil (tr ..) ?_; clear tr
   refine then_n ?_
   refine cdt ?_
   refine at_seq rfl ?_
   refine rg rfl ?_
   refine Rq ?_
   refine Rq ?_
   have tr : ∀ a b c d e f g h i j k m n o p q r s : AV, let l := lc_rat_ok a b c d e f g h i j k m n o p q; trim ((9,s)::(8,r)::l) l = [(0,a),(1,b),(2,c),(3,d),(4,e),(8,r),(9,s),(10,h),(11,i),(12,j),(13,k),(14,m),(18,n),(48,o),(52,p),(72,q)] := by intros; rfl
   refine R_nil (tr ..) ?_; clear tr
   refine then_n ?_
   refine at_ret rfl ?_
   refine then_r ?_
   refine fpure ?_
   refine ⟨?_, rfl⟩
   rw [atS, if_neg (by omega), if_pos (by unfold atBad; omega)]
  ·
   try simp only [decide_eq_true_eq, decide_eq_false_iff_not, Bool.not_eq_true', Bool.not_eq_false', beq_iff_eq, beq_eq_false_iff_ne, ne_eq] at h2
   refine Ry ?_
   refine Rq ?_
   refine Ry ?_
   refine Rq ?_
   refine Rq ?_
   refine Rq ?_
   refine Rp_split (fun h3 => ?_) (fun h3 => ?_)
   ·
    try simp only [decide_eq_true_eq, decide_eq_false_iff_not, Bool.not_eq_true', Bool.not_eq_false', beq_iff_eq, beq_eq_false_iff_ne, ne_eq] at h3
    refine Rn ?_
    refine Rn ?_
    refine Rq ?_
    refine Rq ?_
    refine Rn ?_
    refine Rn ?_
    refine Rn ?_
    refine Rn ?_
    refine Rn ?_
    refine Rn ?_
    refine Rq ?_
    refine Rq ?_
    refine Rn ?_
    refine Rn ?_
    refine Rq ?_
    refine Rq ?_
    refine Rn ?_
    refine Rn ?_
    refine Rn ?_
    refine Rn ?_
    refine Rq ?_
    have tr : ∀ a b c d e f g h i j k m n o p q r s t u v w x y z A B C D E F G H I J K L M N O P Q R S : AV, let l := lc_rat_ok a b c d e f g h i j k m n o p q; trim ((48,S)::(47,R)::(46,Q)::(45,P)::(44,O)::(43,N)::(42,M)::(41,L)::(40,K)::(39,J)::(38,I)::(37,H)::(36,G)::(35,F)::(34,E)::(33,D)::(32,C)::(31,B)::(30,A)::(29,z)::(28,y)::(27,x)::(26,w)::(25,v)::(24,u)::(23,t)::(22,s)::(21,r)::l) l = [(0,a),(1,b),(2,c),(3,d),(4,e),(8,f),(9,g),(10,h),(11,i),(12,j),(13,k),(14,m),(18,n),(48,S),(52,p),(72,q)] := by intros; rfl
    refine R_nil (tr ..) ?_; clear tr
    refine then_n ?_
    refine cdt ?_
    refine at_seq rfl ?_
    refine rg rfl ?_
    refine Rq ?_
    refine Rq ?_
    have tr : ∀ a b c d e f g h i j k m n o p q r s : AV, let l := lc_rat_ok a b c d e f g h i j k m n o p q; trim ((9,s)::(8,r)::l) l = [(0,a),(1,b),(2,c),(3,d),(4,e),(8,r),(9,s),(10,h),(11,i),(12,j),(13,k),(14,m),(18,n),(48,o),(52,p),(72,q)] := by intros; rfl
    refine R_nil (tr ..) ?_; clear tr
    refine then_n ?_
    refine at_ret rfl ?_
    refine then_r ?_
    refine fpure ?_
    refine ⟨?_, rfl⟩
    rw [atS, if_neg (by omega), if_pos (by unfold atBad; omega)]
   ·
    try simp only [decide_eq_true_eq, decide_eq_false_iff_not, Bool.not_eq_true', Bool.not_eq_false', beq_iff_eq, beq_eq_false_iff_ne, ne_eq] at h3
    refine Ry ?_
    refine Rq ?_
    refine Ry ?_
    refine Rq ?_
    refine Rq ?_
    refine Rq ?_
    refine Rp_split (fun h4 => ?_) (fun h4 => ?_)
    ·
     try simp only [decide_eq_true_eq, decide_eq_false_iff_not, Bool.not_eq_true', Bool.not_eq_false', beq_iff_eq, beq_eq_false_iff_ne, ne_eq] at h4
     refine Rn ?_
     refine Rn ?_
     refine Rn ?_
     refine Rn ?_
     refine Rn ?_
     refine Rn ?_
     refine Rq ?_
     refine Rq ?_
     refine Rn ?_
     refine Rn ?_
     refine Rq ?_
     refine Rq ?_
     refine Rn ?_
     refine Rn ?_
     refine Rn ?_
     refine Rn ?_
     refine Rq ?_
     have tr : ∀ a b c d e f g h i j k m n o p q r s t u v w x y z A B C D E F G H I J K L M N O P Q R S : AV, let l := lc_rat_ok a b c d e f g h i j k m n o p q; trim ((48,S)::(47,R)::(46,Q)::(45,P)::(44,O)::(43,N)::(42,M)::(41,L)::(40,K)::(39,J)::(38,I)::(37,H)::(36,G)::(35,F)::(34,E)::(33,D)::(32,C)::(31,B)::(30,A)::(29,z)::(28,y)::(27,x)::(26,w)::(25,v)::(24,u)::(23,t)::(22,s)::(21,r)::l) l = [(0,a),(1,b),(2,c),(3,d),(4,e),(8,f),(9,g),(10,h),(11,i),(12,j),(13,k),(14,m),(18,n),(48,S),(52,p),(72,q)] := by intros; rfl
     refine R_nil (tr ..) ?_; clear tr
     refine then_n ?_
     refine cdt ?_
     refine at_seq rfl ?_
     refine rg rfl ?_
     refine Rq ?_
     refine Rq ?_
     have tr : ∀ a b c d e f g h i j k m n o p q r s : AV, let l := lc_rat_ok a b c d e f g h i j k m n o p q; trim ((9,s)::(8,r)::l) l = [(0,a),(1,b),(2,c),(3,d),(4,e),(8,r),(9,s),(10,h),(11,i),(12,j),(13,k),(14,m),(18,n),(48,o),(52,p),(72,q)] := by intros; rfl
     refine R_nil (tr ..) ?_; clear tr
     refine then_n ?_
     refine at_ret rfl ?_
     refine then_r ?_
     refine fpure ?_
     refine ⟨?_, rfl⟩
     rw [atS, if_neg (by omega), if_pos (by unfold atBad; omega)]
    ·
     try simp only [decide_eq_true_eq, decide_eq_false_iff_not, Bool.not_eq_true', Bool.not_eq_false', beq_iff_eq, beq_eq_false_iff_ne, ne_eq] at h4
     refine Ry ?_
     refine Rq ?_
     refine Ry ?_
     refine Rq ?_
     refine Ry ?_
     refine Rcall ?_
     have s := check_shaped (by assumption : checkS rows = 0)
     have g2 := s.two
     have g91 := s.most
     refine ACall_eq (rovers_ok _ _ rows g91 g2) ?_
     have hpm := mul_box (a := (rows.length : Int) - 1) (b := per) (A := 90) (B := 8) (by omega) (by omega) (by omega) (by omega)
     refine Ry ?_
     refine Rq ?_
     refine Ry ?_
     refine Rq ?_
     refine Ry ?_
     refine Rq ?_
     refine Rq ?_
     refine Rq ?_
     refine Rp_split (fun h5 => ?_) (fun h5 => ?_)
     ·
      try simp only [decide_eq_true_eq, decide_eq_false_iff_not, Bool.not_eq_true', Bool.not_eq_false', beq_iff_eq, beq_eq_false_iff_ne, ne_eq] at h5
      refine Rn ?_
      refine Rn ?_
      refine Rq ?_
      refine Rq ?_
      refine Rn ?_
      refine Rn ?_
      refine Rn ?_
      refine Rn ?_
      refine Rq ?_
      have tr : ∀ a b c d e f g h i j k m n o p q r s t u v w x y z A B C D E F G H I J K L M N O P Q R S : AV, let l := lc_rat_ok a b c d e f g h i j k m n o p q; trim ((48,S)::(47,R)::(46,Q)::(45,P)::(44,O)::(43,N)::(42,M)::(41,L)::(40,K)::(39,J)::(38,I)::(37,H)::(36,G)::(35,F)::(34,E)::(33,D)::(32,C)::(31,B)::(30,A)::(29,z)::(28,y)::(27,x)::(26,w)::(25,v)::(24,u)::(23,t)::(22,s)::(21,r)::l) l = [(0,a),(1,b),(2,c),(3,d),(4,e),(8,f),(9,g),(10,h),(11,i),(12,j),(13,k),(14,m),(18,n),(48,S),(52,p),(72,q)] := by intros; rfl
      refine R_nil (tr ..) ?_; clear tr
      refine then_n ?_
      refine cdt ?_
      refine at_seq rfl ?_
      refine rg rfl ?_
      refine Rq ?_
      refine Rq ?_
      have tr : ∀ a b c d e f g h i j k m n o p q r s : AV, let l := lc_rat_ok a b c d e f g h i j k m n o p q; trim ((9,s)::(8,r)::l) l = [(0,a),(1,b),(2,c),(3,d),(4,e),(8,r),(9,s),(10,h),(11,i),(12,j),(13,k),(14,m),(18,n),(48,o),(52,p),(72,q)] := by intros; rfl
      refine R_nil (tr ..) ?_; clear tr
      refine then_n ?_
      refine at_ret rfl ?_
      refine then_r ?_
      refine fpure ?_
      refine ⟨?_, rfl⟩
      rw [atS, if_neg (by omega), if_pos (by unfold atBad; omega)]
     ·
      try simp only [decide_eq_true_eq, decide_eq_false_iff_not, Bool.not_eq_true', Bool.not_eq_false', beq_iff_eq, beq_eq_false_iff_ne, ne_eq] at h5
      refine Ry ?_
      refine Rq ?_
      refine Ry ?_
      refine Rq ?_
      refine Rq ?_
      refine Rq ?_
      refine Rp_split (fun h6 => ?_) (fun h6 => ?_)
      ·
       try simp only [decide_eq_true_eq, decide_eq_false_iff_not, Bool.not_eq_true', Bool.not_eq_false', beq_iff_eq, beq_eq_false_iff_ne, ne_eq] at h6
       refine Rn ?_
       refine Rn ?_
       refine Rn ?_
       refine Rn ?_
       refine Rq ?_
       have tr : ∀ a b c d e f g h i j k m n o p q r s t u v w x y z A B C D E F G H I J K L M N O P Q R S : AV, let l := lc_rat_ok a b c d e f g h i j k m n o p q; trim ((48,S)::(47,R)::(46,Q)::(45,P)::(44,O)::(43,N)::(42,M)::(41,L)::(40,K)::(39,J)::(38,I)::(37,H)::(36,G)::(35,F)::(34,E)::(33,D)::(32,C)::(31,B)::(30,A)::(29,z)::(28,y)::(27,x)::(26,w)::(25,v)::(24,u)::(23,t)::(22,s)::(21,r)::l) l = [(0,a),(1,b),(2,c),(3,d),(4,e),(8,f),(9,g),(10,h),(11,i),(12,j),(13,k),(14,m),(18,n),(48,S),(52,p),(72,q)] := by intros; rfl
       refine R_nil (tr ..) ?_; clear tr
       refine then_n ?_
       refine cdt ?_
       refine at_seq rfl ?_
       refine rg rfl ?_
       refine Rq ?_
       refine Rq ?_
       have tr : ∀ a b c d e f g h i j k m n o p q r s : AV, let l := lc_rat_ok a b c d e f g h i j k m n o p q; trim ((9,s)::(8,r)::l) l = [(0,a),(1,b),(2,c),(3,d),(4,e),(8,r),(9,s),(10,h),(11,i),(12,j),(13,k),(14,m),(18,n),(48,o),(52,p),(72,q)] := by intros; rfl
       refine R_nil (tr ..) ?_; clear tr
       refine then_n ?_
       refine at_ret rfl ?_
       refine then_r ?_
       refine fpure ?_
       refine ⟨?_, rfl⟩
       rw [atS, if_neg (by omega), if_pos (by unfold atBad; omega)]
      ·
       try simp only [decide_eq_true_eq, decide_eq_false_iff_not, Bool.not_eq_true', Bool.not_eq_false', beq_iff_eq, beq_eq_false_iff_ne, ne_eq] at h6
       refine Ry ?_
       refine Rq ?_
       refine Ry ?_
       refine Rq ?_
       refine Ry ?_
       refine Rcall ?_
       refine ACall_eq (rwickets_ok _ _ rows g2) ?_
       refine Ry ?_
       refine Rq ?_
       refine Rq ?_
       have tr : ∀ a b c d e f g h i j k m n o p q r s t u v w x y z A B C D E F G H I J K L M N O P Q R S : AV, let l := lc_rat_ok a b c d e f g h i j k m n o p q; trim ((48,S)::(47,R)::(46,Q)::(45,P)::(44,O)::(43,N)::(42,M)::(41,L)::(40,K)::(39,J)::(38,I)::(37,H)::(36,G)::(35,F)::(34,E)::(33,D)::(32,C)::(31,B)::(30,A)::(29,z)::(28,y)::(27,x)::(26,w)::(25,v)::(24,u)::(23,t)::(22,s)::(21,r)::l) l = [(0,a),(1,b),(2,c),(3,d),(4,e),(8,f),(9,g),(10,h),(11,i),(12,j),(13,k),(14,m),(18,n),(48,S),(52,p),(72,q)] := by intros; rfl
       refine R_nil (tr ..) ?_; clear tr
       refine then_n ?_
       refine cdd (fun h7 => ?_) (fun h7 => ?_)
       ·
        try simp only [decide_eq_true_eq, decide_eq_false_iff_not, Bool.not_eq_true', Bool.not_eq_false', beq_iff_eq, beq_eq_false_iff_ne, ne_eq] at h7
        refine at_seq rfl ?_
        refine rg rfl ?_
        refine Rq ?_
        refine Rq ?_
        have tr : ∀ a b c d e f g h i j k m n o p q r s : AV, let l := lc_rat_ok a b c d e f g h i j k m n o p q; trim ((9,s)::(8,r)::l) l = [(0,a),(1,b),(2,c),(3,d),(4,e),(8,r),(9,s),(10,h),(11,i),(12,j),(13,k),(14,m),(18,n),(48,o),(52,p),(72,q)] := by intros; rfl
        refine R_nil (tr ..) ?_; clear tr
        refine then_n ?_
        refine at_ret rfl ?_
        refine then_r ?_
        refine fpure ?_
        refine ⟨?_, rfl⟩
        rw [atS, if_neg (by omega), if_pos (by unfold atBad; omega)]
       ·
        try simp only [decide_eq_true_eq, decide_eq_false_iff_not, Bool.not_eq_true', Bool.not_eq_false', beq_iff_eq, beq_eq_false_iff_ne, ne_eq] at h7
        refine at_skip rfl ?_
        refine then_n ?_
        refine at_seq rfl ?_
        refine at_seq rfl ?_
        refine rg rfl ?_
        refine Rq ?_
        refine Rq ?_
        refine Rcall ?_
        refine ACall_eq (rwickets_ok _ _ rows g2) ?_
        refine Rq ?_
        have tr : ∀ a b c d e f g h i j k m n o p q r s t u : AV, let l := lc_rat_ok a b c d e f g h i j k m n o p q; trim ((52,u)::(51,t)::(50,s)::(49,r)::l) l = [(0,a),(1,b),(2,c),(3,d),(4,e),(8,f),(9,g),(10,h),(11,i),(12,j),(13,k),(14,m),(18,n),(48,o),(52,u),(72,q)] := by intros; rfl
        refine R_nil (tr ..) ?_; clear tr
        refine then_n ?_
        refine cdd (fun h8 => ?_) (fun h8 => ?_)
        ·
         try simp only [decide_eq_true_eq, decide_eq_false_iff_not, Bool.not_eq_true', Bool.not_eq_false', beq_iff_eq, beq_eq_false_iff_ne, ne_eq] at h8
         refine at_seq rfl ?_
         refine rg rfl ?_
         refine Rq ?_
         refine Rq ?_
         have tr : ∀ a b c d e f g h i j k m n o p q r s : AV, let l := lc_rat_ok a b c d e f g h i j k m n o p q; trim ((9,s)::(8,r)::l) l = [(0,a),(1,b),(2,c),(3,d),(4,e),(8,r),(9,s),(10,h),(11,i),(12,j),(13,k),(14,m),(18,n),(48,o),(52,p),(72,q)] := by intros; rfl
         refine R_nil (tr ..) ?_; clear tr
         refine then_n ?_
         refine at_ret rfl ?_
         refine then_r ?_
         refine fpure ?_
         refine ⟨?_, rfl⟩
         rw [atS, if_neg (by omega), if_neg (by unfold atBad; omega), if_pos (by omega)]
        ·
         try simp only [decide_eq_true_eq, decide_eq_false_iff_not, Bool.not_eq_true', Bool.not_eq_false', beq_iff_eq, beq_eq_false_iff_ne, ne_eq] at h8
         refine at_skip rfl ?_
         refine then_n ?_
         refine at_seq rfl ?_
         refine rd rfl rfl ?_
         have hat := at_place (n := (rows.length : Int) - 1) (per := per) (balls := balls) (by omega) (by omega) (by omega)
         obtain ⟨q0, q1, r0, r1, q2⟩ := hat
         have gl := s.len
         have gr := s.rng
         have hl1 := gl (balls / per).toNat (by omega)
         have k1 : 0 ≤ gt (gt rows (balls / per).toNat) w.toNat ∧ gt (gt rows (balls / per).toNat) w.toNat ≤ 10000 := gr _ (by omega) _ (by omega)
         have k2 := mul_box (b := per - balls % per) (B := 8) k1.1 k1.2 (by omega) (by omega)
         refine Qq ?_
         refine Qq ?_
         refine Qq ?_
         refine Qq ?_
         refine Qq ?_
         refine Qq ?_
         refine Qq ?_
         refine Qq ?_
         refine Q_nil ?_
         have tr : ∀ a b c d e f g h i j k m n o p q r s t u v w x y : AV, let l := lc_rat_ok a b c d e f g h i j k m n o p q; trim ((13,y)::(12,x)::(58,w)::(57,v)::(56,u)::(55,t)::(54,s)::(53,r)::l) l = [(0,a),(1,b),(2,c),(3,d),(4,e),(8,f),(9,g),(10,h),(11,i),(12,x),(13,y),(14,m),(18,n),(48,o),(52,p),(72,q)] := by intros; rfl
         refine R_nil (tr ..) ?_; clear tr
         refine then_n ?_
         refine at_seq rfl ?_
         refine rg rfl ?_
         refine Rq ?_
         refine Rq ?_
         refine Rq ?_
         refine Rq ?_
         refine Rq ?_
         refine Rq ?_
         refine Rq ?_
         refine Rq ?_
         refine Rq ?_
         refine Rq ?_
         refine Rq ?_
         refine Rq ?_
         refine Rq ?_
         have tr : ∀ a b c d e f g h i j k m n o p q r s t u v w x y z A B C D : AV, let l := lc_rat_ok a b c d e f g h i j k m n o p q; trim ((14,D)::(70,C)::(69,B)::(68,A)::(67,z)::(66,y)::(65,x)::(64,w)::(63,v)::(62,u)::(61,t)::(60,s)::(59,r)::l) l = [(0,a),(1,b),(2,c),(3,d),(4,e),(8,f),(9,g),(10,h),(11,i),(12,j),(13,k),(14,D),(18,n),(48,o),(52,p),(72,q)] := by intros; rfl
         refine R_nil (tr ..) ?_; clear tr
         refine then_n ?_
         refine at_seq rfl ?_
         refine at_seq rfl ?_
         refine rg rfl ?_
         refine Rq ?_
         refine Rq ?_
         have tr : ∀ a b c d e f g h i j k m n o p q r s : AV, let l := lc_rat_ok a b c d e f g h i j k m n o p q; trim ((72,s)::(71,r)::l) l = [(0,a),(1,b),(2,c),(3,d),(4,e),(8,f),(9,g),(10,h),(11,i),(12,j),(13,k),(14,m),(18,n),(48,o),(52,p),(72,s)] := by intros; rfl
         refine R_nil (tr ..) ?_; clear tr
         refine then_n ?_
         refine cdd (fun h9 => ?_) (fun h9 => ?_)
         ·
          try simp only [decide_eq_true_eq, decide_eq_false_iff_not, Bool.not_eq_true', Bool.not_eq_false', beq_iff_eq, beq_eq_false_iff_ne, ne_eq] at h9
          refine rg rfl ?_
          have q3 := q2 (by assumption)
          have hl2 := gl (balls / per + 1).toNat (by omega)
          have k3 : 0 ≤ gt (gt rows (balls / per + 1).toNat) w.toNat ∧ gt (gt rows (balls / per + 1).toNat) w.toNat ≤ 10000 := gr _ (by omega) _ (by omega)
          have k4 := mul_box (b := balls % per) (B := 8) k3.1 k3.2 (by omega) (by omega)
          refine Rq ?_
          refine Rq ?_
          refine Rq ?_
          refine Rq ?_
          refine Rq ?_
          refine Rq ?_
          refine Rq ?_
          refine Rq ?_
          refine Rq ?_
          refine Rq ?_
          refine Rq ?_
          refine Rq ?_
          refine Rq ?_
          refine Rq ?_
          have tr : ∀ a b c d e f g h i j k m n o p q r s t u v w x y z A B C D E : AV, let l := lc_rat_ok a b c d e f g h i j k m n o p q; trim ((14,E)::(85,D)::(84,C)::(83,B)::(82,A)::(81,z)::(80,y)::(79,x)::(78,w)::(77,v)::(76,u)::(75,t)::(74,s)::(73,r)::l) l = [(0,a),(1,b),(2,c),(3,d),(4,e),(8,f),(9,g),(10,h),(11,i),(12,j),(13,k),(14,E),(18,n),(48,o),(52,p),(72,q)] := by intros; rfl
          refine R_nil (tr ..) ?_; clear tr
          refine then_n ?_
          refine at_seq rfl ?_
          refine rg rfl ?_
          refine Rq ?_
          refine Rq ?_
          refine Rq ?_
          have tr : ∀ a b c d e f g h i j k m n o p q r s t : AV, let l := lc_rat_ok a b c d e f g h i j k m n o p q; trim ((9,t)::(8,s)::(86,r)::l) l = [(0,a),(1,b),(2,c),(3,d),(4,e),(8,s),(9,t),(10,h),(11,i),(12,j),(13,k),(14,m),(18,n),(48,o),(52,p),(72,q)] := by intros; rfl
          refine R_nil (tr ..) ?_; clear tr
          refine then_n ?_
          refine at_ret rfl ?_
          refine fpure ?_
          refine ⟨?_, rfl⟩
          rw [atS, if_neg (by omega), if_neg (by unfold atBad; omega), if_neg (by omega), atV, cellI, cellI, if_pos (by omega)]
         ·
          try simp only [decide_eq_true_eq, decide_eq_false_iff_not, Bool.not_eq_true', Bool.not_eq_false', beq_iff_eq, beq_eq_false_iff_ne, ne_eq] at h9
          refine at_skip rfl ?_
          refine then_n ?_
          refine at_seq rfl ?_
          refine rg rfl ?_
          refine Rq ?_
          refine Rq ?_
          refine Rq ?_
          have tr : ∀ a b c d e f g h i j k m n o p q r s t : AV, let l := lc_rat_ok a b c d e f g h i j k m n o p q; trim ((9,t)::(8,s)::(86,r)::l) l = [(0,a),(1,b),(2,c),(3,d),(4,e),(8,s),(9,t),(10,h),(11,i),(12,j),(13,k),(14,m),(18,n),(48,o),(52,p),(72,q)] := by intros; rfl
          refine R_nil (tr ..) ?_; clear tr
          refine then_n ?_
          refine at_ret rfl ?_
          refine fpure ?_
          refine ⟨?_, rfl⟩
          rw [atS, if_neg (by omega), if_neg (by unfold atBad; omega), if_neg (by omega), atV, cellI, cellI, if_neg (by omega), Int.add_zero]

end Go.Proofs.Ytaoondlakhocnaa
end
