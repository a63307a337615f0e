/-
  Walks of chapter 48. The steps are written by program (walk.py).
-/
import Derived.Test.YtocmcdejkoejhaaDoorK5
import Derived.Test.YtocmcdejkoejhaaDoorRF
set_option linter.unusedSimpArgs false
set_option linter.unusedVariables false
set_option maxHeartbeats 1000000
set_option maxRecDepth 20000
namespace Go.Proofs.YtocmcdejkoejhaaDoor
open Go Go.Am
abbrev lc_route_ok (a b c d e f g h i j k m n o p q r s t : AV) : Env := [(0,a),(1,b),(2,c),(6,d),(7,e),(8,f),(10,g),(11,h),(15,i),(17,j),(21,k),(28,m),(29,n),(30,o),(31,p),(34,q),(39,r),(54,s),(87,t)]
theorem route_ok (lim : Nat) (H : Heap) (t : List (List Int)) (l : List Vi) (rest : Int) : ACall sig lim 26 [rowsAV t, visAV l, AV.i rest] H fun r H' => r = .tup [AV.i (routeS t l rest).1, AV.i (routeS t l rest).2] ∧ H' = H := by
 refine ACall_pure (fa := fa26) rfl rfl rfl rfl ?_
 have tr : ∀ a0 a1 a2 : AV, env0 fa26.keep [a0, a1, a2] = [(0,a0),(1,a1),(2,a2),(6,.any),(7,.any),(8,.any),(10,.any),(11,.any),(15,.any),(17,.any),(21,.any),(28,.any),(29,.any),(30,.any),(31,.any),(34,.any),(39,.any),(54,.any),(87,.any)] := fun a0 a1 a2 => rfl
 refine W_to (tr _ _ _) ?_; clear tr
 refine at_seq rfl ?_
 refine rg rfl ?_
 refine Rq ?_
 refine Rq ?_
 have tr : ∀ a b c d e f g h i j k m n o p q r s t u v : AV, let l := lc_route_ok a b c d e f g h i j k m n o p q r s t; trim ((7,v)::(6,u)::l) l = [(0,a),(1,b),(2,c),(6,u),(7,v),(8,f),(10,g),(11,h),(15,i),(17,j),(21,k),(28,m),(29,n),(30,o),(31,p),(34,q),(39,r),(54,s),(87,t)] := by intros; rfl
 refine R_nil (tr ..) ?_; clear tr
 refine then_n ?_
 refine at_seq rfl ?_
 refine at_seq rfl ?_
 refine rg rfl ?_
 refine Rq ?_
 refine Rcall ?_
 refine ACall_eq (travel_ok _ _ _) ?_
 refine Rq ?_
 have tr : ∀ a b c d e f g h i j k m n o p q r s t u v w : AV, let l := lc_route_ok a b c d e f g h i j k m n o p q r s t; trim ((8,w)::(13,v)::(12,u)::l) l = [(0,a),(1,b),(2,c),(6,d),(7,e),(8,w),(10,g),(11,h),(15,i),(17,j),(21,k),(28,m),(29,n),(30,o),(31,p),(34,q),(39,r),(54,s),(87,t)] := by intros; rfl
 refine R_nil (tr ..) ?_; clear tr
 refine then_n ?_
 refine at_seq rfl ?_
 refine rg rfl ?_
 refine Rq ?_
 refine Rq ?_
 have tr : ∀ a b c d e f g h i j k m n o p q r s t u v : AV, let l := lc_route_ok a b c d e f g h i j k m n o p q r s t; trim ((15,v)::(14,u)::l) l = [(0,a),(1,b),(2,c),(6,d),(7,e),(8,f),(10,g),(11,h),(15,v),(17,j),(21,k),(28,m),(29,n),(30,o),(31,p),(34,q),(39,r),(54,s),(87,t)] := by intros; rfl
 refine R_nil (tr ..) ?_; clear tr
 refine then_n ?_
 refine cdd (fun h1 => ?_) (fun h1 => ?_)
 ·
  try simp only [decide_eq_true_eq, decide_eq_false_iff_not, Bool.not_eq_true', Bool.not_eq_false', beq_iff_eq, beq_eq_false_iff_ne, ne_eq] at h1
  refine at_seq rfl ?_
  refine rg rfl ?_
  refine Rq ?_
  refine Rq ?_
  refine Rq ?_
  have tr : ∀ a b c d e f g h i j k m n o p q r s t u v w : AV, let l := lc_route_ok a b c d e f g h i j k m n o p q r s t; trim ((7,w)::(6,v)::(16,u)::l) l = [(0,a),(1,b),(2,c),(6,v),(7,w),(8,f),(10,g),(11,h),(15,i),(17,j),(21,k),(28,m),(29,n),(30,o),(31,p),(34,q),(39,r),(54,s),(87,t)] := by intros; rfl
  refine R_nil (tr ..) ?_; clear tr
  refine then_n ?_
  refine at_ret rfl ?_
  refine then_r ?_
  first | (refine fpure ?_; refine ⟨?_, rfl⟩; rw [routeS, if_pos (by assumption)]; done) | (refine fpure ?_; refine ⟨?_, rfl⟩; rw [routeS, if_neg (fun hh => hh hct), if_pos (by omega)]; done) | (refine fpure ?_; refine ⟨?_, rfl⟩; rw [routeS, if_neg (fun hh => hh hct), if_neg (by omega), if_pos (by omega)]; done) | (refine fpure ?_; refine ⟨?_, rfl⟩; have he : viE t.length (gt l u) = 2 := (by rw [viE, if_pos (by omega)]); have hf := ferr_at (f := (fun i => viE t.length (gt l i))) hz (by show ¬ viE t.length (gt l u) = 0; rw [he]; decide) l.length (by omega); have hg : ferr (fun i => viE t.length (gt l i)) l.length = 2 := hf.trans he; rw [routeS, if_neg (fun hh => hh hct), if_neg (by omega), if_neg (by omega), if_pos (by rw [hg]; decide), hg]; done) | (refine fpure ?_; refine ⟨?_, rfl⟩; have he : viE t.length (gt l u) = 1 := (by rw [viE, if_neg (by omega), if_pos (by omega)]); have hf := ferr_at (f := (fun i => viE t.length (gt l i))) hz (by show ¬ viE t.length (gt l u) = 0; rw [he]; decide) l.length (by omega); have hg : ferr (fun i => viE t.length (gt l i)) l.length = 1 := hf.trans he; rw [routeS, if_neg (fun hh => hh hct), if_neg (by omega), if_neg (by omega), if_pos (by rw [hg]; decide), hg]; done) | (refine fpure ?_; refine ⟨?_, rfl⟩; rw [routeS, if_neg (fun hh => hh hct), if_neg (by omega), if_neg (by omega), if_neg (fun hh => hh hzz), ← hr, vF_hit (by omega) (by omega)]; done) | (refine fpure ?_; refine ⟨?_, rfl⟩; rw [routeS, if_neg (fun hh => hh hct), if_neg (by omega), if_neg (by omega), if_neg (fun hh => hh hzz), ← hr, vF_end (by omega)]; done)
 ·
  try simp only [decide_eq_true_eq, decide_eq_false_iff_not, Bool.not_eq_true', Bool.not_eq_false', beq_iff_eq, beq_eq_false_iff_ne, ne_eq] at h1
  refine at_skip rfl ?_
  refine then_n ?_
  refine at_seq rfl ?_
  refine at_block rfl ?_
  refine at_seq rfl ?_
  refine rg rfl ?_
  have hct : ctS t = 0 := by first | assumption | (exact Decidable.not_not.mp (by assumption)) | omega
  obtain ⟨ht0, ht20, hlen, htr⟩ := ct_of hct
  refine Rq ?_
  refine Rq ?_
  refine Rq ?_
  refine Rq ?_
  have tr : ∀ a b c d e f g h i j k m n o p q r s t u v w x : AV, let l := lc_route_ok a b c d e f g h i j k m n o p q r s t; trim ((17,x)::(20,w)::(19,v)::(18,u)::l) l = [(0,a),(1,b),(2,c),(6,d),(7,e),(8,f),(10,g),(11,h),(15,i),(17,x),(21,k),(28,m),(29,n),(30,o),(31,p),(34,q),(39,r),(54,s),(87,t)] := by intros; rfl
  refine R_nil (tr ..) ?_; clear tr
  refine then_n ?_
  refine cdd (fun h2 => ?_) (fun h2 => ?_)
  ·
   try simp only [decide_eq_true_eq, decide_eq_false_iff_not, Bool.not_eq_true', Bool.not_eq_false', beq_iff_eq, beq_eq_false_iff_ne, ne_eq] at h2
   refine at_seq rfl ?_
   refine rg rfl ?_
   refine Rq ?_
   refine Rq ?_
   have tr : ∀ a b c d e f g h i j k m n o p q r s t u v : AV, let l := lc_route_ok a b c d e f g h i j k m n o p q r s t; trim ((7,v)::(6,u)::l) l = [(0,a),(1,b),(2,c),(6,u),(7,v),(8,f),(10,g),(11,h),(15,i),(17,j),(21,k),(28,m),(29,n),(30,o),(31,p),(34,q),(39,r),(54,s),(87,t)] := by intros; rfl
   refine R_nil (tr ..) ?_; clear tr
   refine then_n ?_
   refine at_ret rfl ?_
   refine blk_r ?_
   refine then_r ?_
   first | (refine fpure ?_; refine ⟨?_, rfl⟩; rw [routeS, if_pos (by assumption)]; done) | (refine fpure ?_; refine ⟨?_, rfl⟩; rw [routeS, if_neg (fun hh => hh hct), if_pos (by omega)]; done) | (refine fpure ?_; refine ⟨?_, rfl⟩; rw [routeS, if_neg (fun hh => hh hct), if_neg (by omega), if_pos (by omega)]; done) | (refine fpure ?_; refine ⟨?_, rfl⟩; have he : viE t.length (gt l u) = 2 := (by rw [viE, if_pos (by omega)]); have hf := ferr_at (f := (fun i => viE t.length (gt l i))) hz (by show ¬ viE t.length (gt l u) = 0; rw [he]; decide) l.length (by omega); have hg : ferr (fun i => viE t.length (gt l i)) l.length = 2 := hf.trans he; rw [routeS, if_neg (fun hh => hh hct), if_neg (by omega), if_neg (by omega), if_pos (by rw [hg]; decide), hg]; done) | (refine fpure ?_; refine ⟨?_, rfl⟩; have he : viE t.length (gt l u) = 1 := (by rw [viE, if_neg (by omega), if_pos (by omega)]); have hf := ferr_at (f := (fun i => viE t.length (gt l i))) hz (by show ¬ viE t.length (gt l u) = 0; rw [he]; decide) l.length (by omega); have hg : ferr (fun i => viE t.length (gt l i)) l.length = 1 := hf.trans he; rw [routeS, if_neg (fun hh => hh hct), if_neg (by omega), if_neg (by omega), if_pos (by rw [hg]; decide), hg]; done) | (refine fpure ?_; refine ⟨?_, rfl⟩; rw [routeS, if_neg (fun hh => hh hct), if_neg (by omega), if_neg (by omega), if_neg (fun hh => hh hzz), ← hr, vF_hit (by omega) (by omega)]; done) | (refine fpure ?_; refine ⟨?_, rfl⟩; rw [routeS, if_neg (fun hh => hh hct), if_neg (by omega), if_neg (by omega), if_neg (fun hh => hh hzz), ← hr, vF_end (by omega)]; done)
  ·
   try simp only [decide_eq_true_eq, decide_eq_false_iff_not, Bool.not_eq_true', Bool.not_eq_false', beq_iff_eq, beq_eq_false_iff_ne, ne_eq] at h2
   refine at_seq rfl ?_
   refine rg rfl ?_
   refine Rq ?_
   refine Rq ?_
   refine Rq ?_
   refine Rp_split (fun h3 => ?_) (fun h3 => ?_)
   ·
    try simp only [decide_eq_true_eq, decide_eq_false_iff_not, Bool.not_eq_true', Bool.not_eq_false', beq_iff_eq, beq_eq_false_iff_ne, ne_eq] at h3
    refine Rn ?_
    refine Rn ?_
    refine Rq ?_
    refine Rq ?_
    have tr : ∀ a b c d e f g h i j k m n o p q r s t u v w x y z A : AV, let l := lc_route_ok a b c d e f g h i j k m n o p q r s t; trim ((21,A)::(27,z)::(26,y)::(25,x)::(24,w)::(23,v)::(22,u)::l) l = [(0,a),(1,b),(2,c),(6,d),(7,e),(8,f),(10,g),(11,h),(15,i),(17,j),(21,A),(28,m),(29,n),(30,o),(31,p),(34,q),(39,r),(54,s),(87,t)] := by intros; rfl
    refine R_nil (tr ..) ?_; clear tr
    refine then_n ?_
    refine cdt ?_
    refine at_seq rfl ?_
    refine rg rfl ?_
    refine Rq ?_
    refine Rq ?_
    have tr : ∀ a b c d e f g h i j k m n o p q r s t u v : AV, let l := lc_route_ok a b c d e f g h i j k m n o p q r s t; trim ((7,v)::(6,u)::l) l = [(0,a),(1,b),(2,c),(6,u),(7,v),(8,f),(10,g),(11,h),(15,i),(17,j),(21,k),(28,m),(29,n),(30,o),(31,p),(34,q),(39,r),(54,s),(87,t)] := by intros; rfl
    refine R_nil (tr ..) ?_; clear tr
    refine then_n ?_
    refine at_ret rfl ?_
    refine blk_r ?_
    refine then_r ?_
    first | (refine fpure ?_; refine ⟨?_, rfl⟩; rw [routeS, if_pos (by assumption)]; done) | (refine fpure ?_; refine ⟨?_, rfl⟩; rw [routeS, if_neg (fun hh => hh hct), if_pos (by omega)]; done) | (refine fpure ?_; refine ⟨?_, rfl⟩; rw [routeS, if_neg (fun hh => hh hct), if_neg (by omega), if_pos (by omega)]; done) | (refine fpure ?_; refine ⟨?_, rfl⟩; have he : viE t.length (gt l u) = 2 := (by rw [viE, if_pos (by omega)]); have hf := ferr_at (f := (fun i => viE t.length (gt l i))) hz (by show ¬ viE t.length (gt l u) = 0; rw [he]; decide) l.length (by omega); have hg : ferr (fun i => viE t.length (gt l i)) l.length = 2 := hf.trans he; rw [routeS, if_neg (fun hh => hh hct), if_neg (by omega), if_neg (by omega), if_pos (by rw [hg]; decide), hg]; done) | (refine fpure ?_; refine ⟨?_, rfl⟩; have he : viE t.length (gt l u) = 1 := (by rw [viE, if_neg (by omega), if_pos (by omega)]); have hf := ferr_at (f := (fun i => viE t.length (gt l i))) hz (by show ¬ viE t.length (gt l u) = 0; rw [he]; decide) l.length (by omega); have hg : ferr (fun i => viE t.length (gt l i)) l.length = 1 := hf.trans he; rw [routeS, if_neg (fun hh => hh hct), if_neg (by omega), if_neg (by omega), if_pos (by rw [hg]; decide), hg]; done) | (refine fpure ?_; refine ⟨?_, rfl⟩; rw [routeS, if_neg (fun hh => hh hct), if_neg (by omega), if_neg (by omega), if_neg (fun hh => hh hzz), ← hr, vF_hit (by omega) (by omega)]; done) | (refine fpure ?_; refine ⟨?_, rfl⟩; rw [routeS, if_neg (fun hh => hh hct), if_neg (by omega), if_neg (by omega), if_neg (fun hh => hh hzz), ← hr, vF_end (by omega)]; done)
   ·
    try simp only [decide_eq_true_eq, decide_eq_false_iff_not, Bool.not_eq_true', Bool.not_eq_false', beq_iff_eq, beq_eq_false_iff_ne, ne_eq] at h3
    refine Ry ?_
    refine Rq ?_
    refine Ry ?_
    refine Rq ?_
    refine Rq ?_
    refine Rq ?_
    have tr : ∀ a b c d e f g h i j k m n o p q r s t u v w x y z A : AV, let l := lc_route_ok a b c d e f g h i j k m n o p q r s t; trim ((21,A)::(27,z)::(26,y)::(25,x)::(24,w)::(23,v)::(22,u)::l) l = [(0,a),(1,b),(2,c),(6,d),(7,e),(8,f),(10,g),(11,h),(15,i),(17,j),(21,A),(28,m),(29,n),(30,o),(31,p),(34,q),(39,r),(54,s),(87,t)] := by intros; rfl
    refine R_nil (tr ..) ?_; clear tr
    refine then_n ?_
    refine cdd (fun h4 => ?_) (fun h4 => ?_)
    ·
     try simp only [decide_eq_true_eq, decide_eq_false_iff_not, Bool.not_eq_true', Bool.not_eq_false', beq_iff_eq, beq_eq_false_iff_ne, ne_eq] at h4
     refine at_seq rfl ?_
     refine rg rfl ?_
     refine Rq ?_
     refine Rq ?_
     have tr : ∀ a b c d e f g h i j k m n o p q r s t u v : AV, let l := lc_route_ok a b c d e f g h i j k m n o p q r s t; trim ((7,v)::(6,u)::l) l = [(0,a),(1,b),(2,c),(6,u),(7,v),(8,f),(10,g),(11,h),(15,i),(17,j),(21,k),(28,m),(29,n),(30,o),(31,p),(34,q),(39,r),(54,s),(87,t)] := by intros; rfl
     refine R_nil (tr ..) ?_; clear tr
     refine then_n ?_
     refine at_ret rfl ?_
     refine blk_r ?_
     refine then_r ?_
     first | (refine fpure ?_; refine ⟨?_, rfl⟩; rw [routeS, if_pos (by assumption)]; done) | (refine fpure ?_; refine ⟨?_, rfl⟩; rw [routeS, if_neg (fun hh => hh hct), if_pos (by omega)]; done) | (refine fpure ?_; refine ⟨?_, rfl⟩; rw [routeS, if_neg (fun hh => hh hct), if_neg (by omega), if_pos (by omega)]; done) | (refine fpure ?_; refine ⟨?_, rfl⟩; have he : viE t.length (gt l u) = 2 := (by rw [viE, if_pos (by omega)]); have hf := ferr_at (f := (fun i => viE t.length (gt l i))) hz (by show ¬ viE t.length (gt l u) = 0; rw [he]; decide) l.length (by omega); have hg : ferr (fun i => viE t.length (gt l i)) l.length = 2 := hf.trans he; rw [routeS, if_neg (fun hh => hh hct), if_neg (by omega), if_neg (by omega), if_pos (by rw [hg]; decide), hg]; done) | (refine fpure ?_; refine ⟨?_, rfl⟩; have he : viE t.length (gt l u) = 1 := (by rw [viE, if_neg (by omega), if_pos (by omega)]); have hf := ferr_at (f := (fun i => viE t.length (gt l i))) hz (by show ¬ viE t.length (gt l u) = 0; rw [he]; decide) l.length (by omega); have hg : ferr (fun i => viE t.length (gt l i)) l.length = 1 := hf.trans he; rw [routeS, if_neg (fun hh => hh hct), if_neg (by omega), if_neg (by omega), if_pos (by rw [hg]; decide), hg]; done) | (refine fpure ?_; refine ⟨?_, rfl⟩; rw [routeS, if_neg (fun hh => hh hct), if_neg (by omega), if_neg (by omega), if_neg (fun hh => hh hzz), ← hr, vF_hit (by omega) (by omega)]; done) | (refine fpure ?_; refine ⟨?_, rfl⟩; rw [routeS, if_neg (fun hh => hh hct), if_neg (by omega), if_neg (by omega), if_neg (fun hh => hh hzz), ← hr, vF_end (by omega)]; done)
    ·
     try simp only [decide_eq_true_eq, decide_eq_false_iff_not, Bool.not_eq_true', Bool.not_eq_false', beq_iff_eq, beq_eq_false_iff_ne, ne_eq] at h4
     refine at_skip rfl ?_
     refine blk_n ?_
     refine then_n ?_
     refine at_seq rfl ?_
     refine at_seq rfl ?_
     refine rg rfl ?_
     refine Rq ?_
     refine Rq ?_
     refine Rq ?_
     have tr : ∀ a b c d e f g h i j k m n o p q r s t u v w : AV, let l := lc_route_ok a b c d e f g h i j k m n o p q r s t; trim ((30,w)::(29,v)::(28,u)::l) l = [(0,a),(1,b),(2,c),(6,d),(7,e),(8,f),(10,g),(11,h),(15,i),(17,j),(21,k),(28,u),(29,v),(30,w),(31,p),(34,q),(39,r),(54,s),(87,t)] := by intros; rfl
     refine R_nil (tr ..) ?_; clear tr
     refine then_n ?_
     refine at_block rfl ?_
     refine loop_n rfl (fun mm kv H' => ∃ u : Nat, ∃ X : Heap, ∃ x6 x7 x10 x31 x34 x39 : AV, (kv = [(6, x6), (7, x7), (10, x10), (30, AV.i u), (31, x31), (34, x34), (39, x39)]) ∧ (mm = l.length - u) ∧ (H' = H ++ X) ∧ (u ≤ l.length) ∧ (ferr (fun i => viE t.length (gt l i)) u = 0)) ⟨0, [], _, _, _, _, _, _, rfl, rfl, by simp, by omega, by rfl⟩ (by rfl) ?_
     rintro mm kv H1 ⟨u, X, x6, x7, x10, x31, x34, x39, rfl, rfl, hX, hu, hz⟩
     have tr : ∀ a b c d e f g h i j k m n o p q r s t u v w x y z A : AV, upd [(0,a),(1,b),(2,c),(6,d),(7,e),(8,f),(10,g),(11,h),(15,i),(17,j),(21,k),(28,m),(29,n),(30,o),(31,p),(34,q),(39,r),(54,s),(87,t)] [(6,u),(7,v),(10,w),(30,x),(31,y),(34,z),(39,A)] = [(0,a),(1,b),(2,c),(6,u),(7,v),(8,f),(10,w),(11,h),(15,i),(17,j),(21,k),(28,m),(29,n),(30,x),(31,y),(34,z),(39,A),(54,s),(87,t)] := by intros; rfl
     refine W_to (tr ..) ?_; clear tr
     subst hX
     refine at_seq rfl ?_
     refine rg rfl ?_
     refine Rq ?_
     have tr : ∀ a b c d e f g h i j k m n o p q r s t u : AV, let l := lc_route_ok a b c d e f g h i j k m n o p q r s t; trim ((31,u)::l) l = [(0,a),(1,b),(2,c),(6,d),(7,e),(8,f),(10,g),(11,h),(15,i),(17,j),(21,k),(28,m),(29,n),(30,o),(31,u),(34,q),(39,r),(54,s),(87,t)] := by intros; rfl
     refine R_nil (tr ..) ?_; clear tr
     refine then_n ?_
     refine at_seq rfl ?_
     refine cdd (fun h5 => ?_) (fun h5 => ?_)
     ·
      try simp only [decide_eq_true_eq, decide_eq_false_iff_not, Bool.not_eq_true', Bool.not_eq_false', beq_iff_eq, beq_eq_false_iff_ne, ne_eq] at h5
      refine at_skip rfl ?_
      refine then_n ?_
      refine at_seq rfl ?_
      refine at_block rfl ?_
      refine at_seq rfl ?_
      refine rg rfl ?_
      refine Rq ?_
      refine Rq ?_
      refine R_alloc (by simp (disch := first | omega | (simp only [List.length_map, List.length_append, List.length_set, List.length_cons, List.length_nil]; omega)) only [go_sem, ↓reduceIte, Nat.reduceEqDiff, reduceCtorEq]; rfl) rfl (by simp only [List.map_cons, List.map_nil]; rfl) ?_
      refine R_store ty57 (by simp (disch := first | omega | (simp only [List.length_map, List.length_append, List.length_set, List.length_cons, List.length_nil]; omega)) only [go_sem, ↓reduceIte, Nat.reduceEqDiff, reduceCtorEq]; rfl) (by simp (disch := first | omega | (simp only [List.length_map, List.length_append, List.length_set, List.length_cons, List.length_nil]; omega)) only [go_sem, ↓reduceIte, Nat.reduceEqDiff, reduceCtorEq]; rfl) (by simp (disch := first | omega | (simp only [List.length_map, List.length_append, List.length_set, List.length_cons, List.length_nil]; omega)) only [go_sem, ↓reduceIte, Nat.reduceEqDiff, reduceCtorEq]; rfl) (by simp) (by rfl) (by simp (disch := first | omega | (simp only [List.length_map, List.length_append, List.length_set, List.length_cons, List.length_nil]; omega)) only [go_sem, ↓reduceIte, Nat.reduceEqDiff, reduceCtorEq]; rfl) ?_
      have tr : ∀ a b c d e f g h i j k m n o p q r s t u v w : AV, let l := lc_route_ok a b c d e f g h i j k m n o p q r s t; trim ((10,w)::(33,v)::(32,u)::l) l = [(0,a),(1,b),(2,c),(6,d),(7,e),(8,f),(10,w),(11,h),(15,i),(17,j),(21,k),(28,m),(29,n),(30,o),(31,p),(34,q),(39,r),(54,s),(87,t)] := by intros; rfl
      refine R_nil (tr ..) ?_; clear tr
      refine then_n ?_
      refine at_block rfl ?_
      refine at_seq rfl ?_
      refine rg rfl ?_
      refine Rq ?_
      refine Rq ?_
      refine Rcall ?_
      refine ACall_eq (inside_ok _ _ _) ?_
      refine Rq ?_
      refine Rq ?_
      have tr : ∀ a b c d e f g h i j k m n o p q r s t u v w x y : AV, let l := lc_route_ok a b c d e f g h i j k m n o p q r s t; trim ((34,y)::(38,x)::(37,w)::(36,v)::(35,u)::l) l = [(0,a),(1,b),(2,c),(6,d),(7,e),(8,f),(10,g),(11,h),(15,i),(17,j),(21,k),(28,m),(29,n),(30,o),(31,p),(34,y),(39,r),(54,s),(87,t)] := by intros; rfl
      refine R_nil (tr ..) ?_; clear tr
      refine then_n ?_
      refine cdd (fun h6 => ?_) (fun h6 => ?_)
      ·
       try simp only [decide_eq_true_eq, decide_eq_false_iff_not, Bool.not_eq_true', Bool.not_eq_false', beq_iff_eq, beq_eq_false_iff_ne, ne_eq] at h6
       refine at_seq rfl ?_
       refine rg rfl ?_
       refine Rq ?_
       refine Rq ?_
       have tr : ∀ a b c d e f g h i j k m n o p q r s t u v : AV, let l := lc_route_ok a b c d e f g h i j k m n o p q r s t; trim ((7,v)::(6,u)::l) l = [(0,a),(1,b),(2,c),(6,u),(7,v),(8,f),(10,g),(11,h),(15,i),(17,j),(21,k),(28,m),(29,n),(30,o),(31,p),(34,q),(39,r),(54,s),(87,t)] := by intros; rfl
       refine R_nil (tr ..) ?_; clear tr
       refine then_n ?_
       refine at_ret rfl ?_
       refine blk_r ?_
       refine blk_r ?_
       refine then_r ?_
       refine then_r ?_
       refine blk_r ?_
       refine then_r ?_
       first | (refine fpure ?_; refine ⟨?_, rfl⟩; rw [routeS, if_pos (by assumption)]; done) | (refine fpure ?_; refine ⟨?_, rfl⟩; rw [routeS, if_neg (fun hh => hh hct), if_pos (by omega)]; done) | (refine fpure ?_; refine ⟨?_, rfl⟩; rw [routeS, if_neg (fun hh => hh hct), if_neg (by omega), if_pos (by omega)]; done) | (refine fpure ?_; refine ⟨?_, rfl⟩; have he : viE t.length (gt l u) = 2 := (by rw [viE, if_pos (by omega)]); have hf := ferr_at (f := (fun i => viE t.length (gt l i))) hz (by show ¬ viE t.length (gt l u) = 0; rw [he]; decide) l.length (by omega); have hg : ferr (fun i => viE t.length (gt l i)) l.length = 2 := hf.trans he; rw [routeS, if_neg (fun hh => hh hct), if_neg (by omega), if_neg (by omega), if_pos (by rw [hg]; decide), hg]; done) | (refine fpure ?_; refine ⟨?_, rfl⟩; have he : viE t.length (gt l u) = 1 := (by rw [viE, if_neg (by omega), if_pos (by omega)]); have hf := ferr_at (f := (fun i => viE t.length (gt l i))) hz (by show ¬ viE t.length (gt l u) = 0; rw [he]; decide) l.length (by omega); have hg : ferr (fun i => viE t.length (gt l i)) l.length = 1 := hf.trans he; rw [routeS, if_neg (fun hh => hh hct), if_neg (by omega), if_neg (by omega), if_pos (by rw [hg]; decide), hg]; done) | (refine fpure ?_; refine ⟨?_, rfl⟩; rw [routeS, if_neg (fun hh => hh hct), if_neg (by omega), if_neg (by omega), if_neg (fun hh => hh hzz), ← hr, vF_hit (by omega) (by omega)]; done) | (refine fpure ?_; refine ⟨?_, rfl⟩; rw [routeS, if_neg (fun hh => hh hct), if_neg (by omega), if_neg (by omega), if_neg (fun hh => hh hzz), ← hr, vF_end (by omega)]; done)
      ·
       try simp only [decide_eq_true_eq, decide_eq_false_iff_not, Bool.not_eq_true', Bool.not_eq_false', beq_iff_eq, beq_eq_false_iff_ne, ne_eq] at h6
       refine at_seq rfl ?_
       refine rg rfl ?_
       refine Rq ?_
       refine Rq ?_
       refine Rq ?_
       refine Rq ?_
       refine Rp_split (fun h7 => ?_) (fun h7 => ?_)
       ·
        try simp only [decide_eq_true_eq, decide_eq_false_iff_not, Bool.not_eq_true', Bool.not_eq_false', beq_iff_eq, beq_eq_false_iff_ne, ne_eq] at h7
        refine Rn ?_
        refine Rn ?_
        refine Rn ?_
        refine Rn ?_
        refine Rn ?_
        refine Rq ?_
        refine Rq ?_
        have tr : ∀ a b c d e f g h i j k m n o p q r s t u v w x y z A B C D E : AV, let l := lc_route_ok a b c d e f g h i j k m n o p q r s t; trim ((39,E)::(49,D)::(48,C)::(47,B)::(46,A)::(45,z)::(44,y)::(43,x)::(42,w)::(41,v)::(40,u)::l) l = [(0,a),(1,b),(2,c),(6,d),(7,e),(8,f),(10,g),(11,h),(15,i),(17,j),(21,k),(28,m),(29,n),(30,o),(31,p),(34,q),(39,E),(54,s),(87,t)] := by intros; rfl
        refine R_nil (tr ..) ?_; clear tr
        refine then_n ?_
        refine cdt ?_
        refine at_seq rfl ?_
        refine rg rfl ?_
        refine Rq ?_
        refine Rq ?_
        have tr : ∀ a b c d e f g h i j k m n o p q r s t u v : AV, let l := lc_route_ok a b c d e f g h i j k m n o p q r s t; trim ((7,v)::(6,u)::l) l = [(0,a),(1,b),(2,c),(6,u),(7,v),(8,f),(10,g),(11,h),(15,i),(17,j),(21,k),(28,m),(29,n),(30,o),(31,p),(34,q),(39,r),(54,s),(87,t)] := by intros; rfl
        refine R_nil (tr ..) ?_; clear tr
        refine then_n ?_
        refine at_ret rfl ?_
        refine blk_r ?_
        refine blk_r ?_
        refine then_r ?_
        refine then_r ?_
        refine blk_r ?_
        refine then_r ?_
        first | (refine fpure ?_; refine ⟨?_, rfl⟩; rw [routeS, if_pos (by assumption)]; done) | (refine fpure ?_; refine ⟨?_, rfl⟩; rw [routeS, if_neg (fun hh => hh hct), if_pos (by omega)]; done) | (refine fpure ?_; refine ⟨?_, rfl⟩; rw [routeS, if_neg (fun hh => hh hct), if_neg (by omega), if_pos (by omega)]; done) | (refine fpure ?_; refine ⟨?_, rfl⟩; have he : viE t.length (gt l u) = 2 := (by rw [viE, if_pos (by omega)]); have hf := ferr_at (f := (fun i => viE t.length (gt l i))) hz (by show ¬ viE t.length (gt l u) = 0; rw [he]; decide) l.length (by omega); have hg : ferr (fun i => viE t.length (gt l i)) l.length = 2 := hf.trans he; rw [routeS, if_neg (fun hh => hh hct), if_neg (by omega), if_neg (by omega), if_pos (by rw [hg]; decide), hg]; done) | (refine fpure ?_; refine ⟨?_, rfl⟩; have he : viE t.length (gt l u) = 1 := (by rw [viE, if_neg (by omega), if_pos (by omega)]); have hf := ferr_at (f := (fun i => viE t.length (gt l i))) hz (by show ¬ viE t.length (gt l u) = 0; rw [he]; decide) l.length (by omega); have hg : ferr (fun i => viE t.length (gt l i)) l.length = 1 := hf.trans he; rw [routeS, if_neg (fun hh => hh hct), if_neg (by omega), if_neg (by omega), if_pos (by rw [hg]; decide), hg]; done) | (refine fpure ?_; refine ⟨?_, rfl⟩; rw [routeS, if_neg (fun hh => hh hct), if_neg (by omega), if_neg (by omega), if_neg (fun hh => hh hzz), ← hr, vF_hit (by omega) (by omega)]; done) | (refine fpure ?_; refine ⟨?_, rfl⟩; rw [routeS, if_neg (fun hh => hh hct), if_neg (by omega), if_neg (by omega), if_neg (fun hh => hh hzz), ← hr, vF_end (by omega)]; done)
       ·
        try simp only [decide_eq_true_eq, decide_eq_false_iff_not, Bool.not_eq_true', Bool.not_eq_false', beq_iff_eq, beq_eq_false_iff_ne, ne_eq] at h7
        refine Ry ?_
        refine Rq ?_
        refine Ry ?_
        refine Rq ?_
        refine Ry ?_
        refine Rq ?_
        refine Ry ?_
        refine Rq ?_
        refine Ry ?_
        refine Rq ?_
        refine Rq ?_
        refine Rq ?_
        have tr : ∀ a b c d e f g h i j k m n o p q r s t u v w x y z A B C D E : AV, let l := lc_route_ok a b c d e f g h i j k m n o p q r s t; trim ((39,E)::(49,D)::(48,C)::(47,B)::(46,A)::(45,z)::(44,y)::(43,x)::(42,w)::(41,v)::(40,u)::l) l = [(0,a),(1,b),(2,c),(6,d),(7,e),(8,f),(10,g),(11,h),(15,i),(17,j),(21,k),(28,m),(29,n),(30,o),(31,p),(34,q),(39,E),(54,s),(87,t)] := by intros; rfl
        refine R_nil (tr ..) ?_; clear tr
        refine then_n ?_
        refine cdd (fun h8 => ?_) (fun h8 => ?_)
        ·
         try simp only [decide_eq_true_eq, decide_eq_false_iff_not, Bool.not_eq_true', Bool.not_eq_false', beq_iff_eq, beq_eq_false_iff_ne, ne_eq] at h8
         refine at_seq rfl ?_
         refine rg rfl ?_
         refine Rq ?_
         refine Rq ?_
         have tr : ∀ a b c d e f g h i j k m n o p q r s t u v : AV, let l := lc_route_ok a b c d e f g h i j k m n o p q r s t; trim ((7,v)::(6,u)::l) l = [(0,a),(1,b),(2,c),(6,u),(7,v),(8,f),(10,g),(11,h),(15,i),(17,j),(21,k),(28,m),(29,n),(30,o),(31,p),(34,q),(39,r),(54,s),(87,t)] := by intros; rfl
         refine R_nil (tr ..) ?_; clear tr
         refine then_n ?_
         refine at_ret rfl ?_
         refine blk_r ?_
         refine blk_r ?_
         refine then_r ?_
         refine then_r ?_
         refine blk_r ?_
         refine then_r ?_
         first | (refine fpure ?_; refine ⟨?_, rfl⟩; rw [routeS, if_pos (by assumption)]; done) | (refine fpure ?_; refine ⟨?_, rfl⟩; rw [routeS, if_neg (fun hh => hh hct), if_pos (by omega)]; done) | (refine fpure ?_; refine ⟨?_, rfl⟩; rw [routeS, if_neg (fun hh => hh hct), if_neg (by omega), if_pos (by omega)]; done) | (refine fpure ?_; refine ⟨?_, rfl⟩; have he : viE t.length (gt l u) = 2 := (by rw [viE, if_pos (by omega)]); have hf := ferr_at (f := (fun i => viE t.length (gt l i))) hz (by show ¬ viE t.length (gt l u) = 0; rw [he]; decide) l.length (by omega); have hg : ferr (fun i => viE t.length (gt l i)) l.length = 2 := hf.trans he; rw [routeS, if_neg (fun hh => hh hct), if_neg (by omega), if_neg (by omega), if_pos (by rw [hg]; decide), hg]; done) | (refine fpure ?_; refine ⟨?_, rfl⟩; have he : viE t.length (gt l u) = 1 := (by rw [viE, if_neg (by omega), if_pos (by omega)]); have hf := ferr_at (f := (fun i => viE t.length (gt l i))) hz (by show ¬ viE t.length (gt l u) = 0; rw [he]; decide) l.length (by omega); have hg : ferr (fun i => viE t.length (gt l i)) l.length = 1 := hf.trans he; rw [routeS, if_neg (fun hh => hh hct), if_neg (by omega), if_neg (by omega), if_pos (by rw [hg]; decide), hg]; done) | (refine fpure ?_; refine ⟨?_, rfl⟩; rw [routeS, if_neg (fun hh => hh hct), if_neg (by omega), if_neg (by omega), if_neg (fun hh => hh hzz), ← hr, vF_hit (by omega) (by omega)]; done) | (refine fpure ?_; refine ⟨?_, rfl⟩; rw [routeS, if_neg (fun hh => hh hct), if_neg (by omega), if_neg (by omega), if_neg (fun hh => hh hzz), ← hr, vF_end (by omega)]; done)
        ·
         try simp only [decide_eq_true_eq, decide_eq_false_iff_not, Bool.not_eq_true', Bool.not_eq_false', beq_iff_eq, beq_eq_false_iff_ne, ne_eq] at h8
         refine at_skip rfl ?_
         refine blk_n ?_
         refine blk_n ?_
         refine then_n ?_
         refine rg rfl ?_
         refine Rq ?_
         refine Rq ?_
         have tr : ∀ a b c d e f g h i j k m n o p q r s t u v : AV, let l := lc_route_ok a b c d e f g h i j k m n o p q r s t; trim ((30,v)::(50,u)::l) l = [(0,a),(1,b),(2,c),(6,d),(7,e),(8,f),(10,g),(11,h),(15,i),(17,j),(21,k),(28,m),(29,n),(30,v),(31,p),(34,q),(39,r),(54,s),(87,t)] := by intros; rfl
         refine R_nil (tr ..) ?_; clear tr
         refine then_n ?_
         exact ⟨_, _, ⟨u + 1, X ++ [some (viC (gt l u))], _, _, _, _, _, _, rfl, rfl, by simp; rfl, by omega, by exact ferr_ok hz (by show viE t.length (gt l u) = 0; rw [viE, if_neg (by omega), if_neg (by omega)])⟩, by rfl, by omega⟩
     ·
      try simp only [decide_eq_true_eq, decide_eq_false_iff_not, Bool.not_eq_true', Bool.not_eq_false', beq_iff_eq, beq_eq_false_iff_ne, ne_eq] at h5
      refine at_exit rfl ?_
      refine then_x ?_
      refine then_x ?_
      refine blk_x ?_
      refine then_n ?_
      refine at_seq rfl ?_
      refine at_seq rfl ?_
      refine rg rfl ?_
      have hzz : ferr (fun i => viE t.length (gt l i)) l.length = 0 := by rw [← show u = l.length by omega]; exact hz
      have hall := vi_all hzz
      refine Rq ?_
      have tr : ∀ a b c d e f g h i j k m n o p q r s t u : AV, let l := lc_route_ok a b c d e f g h i j k m n o p q r s t; trim ((11,u)::l) l = [(0,a),(1,b),(2,c),(6,d),(7,e),(8,f),(10,g),(11,u),(15,i),(17,j),(21,k),(28,m),(29,n),(30,o),(31,p),(34,q),(39,r),(54,s),(87,t)] := by intros; rfl
      refine R_nil (tr ..) ?_; clear tr
      refine then_n ?_
      refine at_block rfl ?_
      refine loop_n rfl (fun mm kv H' => ∃ z : Nat, ∃ X2 : Heap, ∃ x6 x7 x54 x87 : AV, (kv = [(6, x6), (7, x7), (11, AV.i z), (54, x54), (87, x87)]) ∧ (mm = l.length - z) ∧ (H' = H ++ X2) ∧ (1 ≤ z) ∧ (vF t l rest (l.length - z) z = vF t l rest (l.length - 1) 1)) ⟨1, X, _, _, _, _, rfl, rfl, by rfl, by omega, by rfl⟩ (by rfl) ?_
      rintro mm kv H2 ⟨z, X2, x6, x7, x54, x87, rfl, rfl, hX2, hz1, hr⟩
      have tr : ∀ a b c d e f g h i j k m n o p q r s t u v w x y : AV, upd [(0,a),(1,b),(2,c),(6,d),(7,e),(8,f),(10,g),(11,h),(15,i),(17,j),(21,k),(28,m),(29,n),(30,o),(31,p),(34,q),(39,r),(54,s),(87,t)] [(6,u),(7,v),(11,w),(54,x),(87,y)] = [(0,a),(1,b),(2,c),(6,u),(7,v),(8,f),(10,g),(11,w),(15,i),(17,j),(21,k),(28,m),(29,n),(30,o),(31,p),(34,q),(39,r),(54,x),(87,y)] := by intros; rfl
      refine W_to (tr ..) ?_; clear tr
      subst hX2
      refine at_seq rfl ?_
      refine at_seq rfl ?_
      refine rg rfl ?_
      refine Rq ?_
      refine Rq ?_
      refine Rq ?_
      refine Rq ?_
      have tr : ∀ a b c d e f g h i j k m n o p q r s t u v w x : AV, let l := lc_route_ok a b c d e f g h i j k m n o p q r s t; trim ((54,x)::(53,w)::(52,v)::(51,u)::l) l = [(0,a),(1,b),(2,c),(6,d),(7,e),(8,f),(10,g),(11,h),(15,i),(17,j),(21,k),(28,m),(29,n),(30,o),(31,p),(34,q),(39,r),(54,x),(87,t)] := by intros; rfl
      refine R_nil (tr ..) ?_; clear tr
      refine then_n ?_
      refine cdd (fun h9 => ?_) (fun h9 => ?_)
      ·
       try simp only [decide_eq_true_eq, decide_eq_false_iff_not, Bool.not_eq_true', Bool.not_eq_false', beq_iff_eq, beq_eq_false_iff_ne, ne_eq] at h9
       refine at_skip rfl ?_
       refine then_n ?_
       refine at_seq rfl ?_
       refine at_block rfl ?_
       refine at_seq rfl ?_
       refine rd rfl rfl ?_
       have a1 := hall z (by omega)
       have a2 := hall (z - 1) (by omega)
       have a3 : (gt l (z - 1)).g.toNat < t.length := by omega
       have a4 : (gt l z).g.toNat < t.length := by omega
       have a5 := hlen (gt l (z - 1)).g.toNat a3
       have a6 : (gt l z).g.toNat < (gt t (gt l (z - 1)).g.toNat).length := by omega
       refine Qq ?_
       refine Qq ?_
       refine Qq ?_
       refine Qq ?_
       refine Qq ?_
       refine Qq ?_
       refine Qq ?_
       refine Qq ?_
       refine Qq ?_
       refine Qq ?_
       refine Qq ?_
       refine Qq ?_
       refine Qq ?_
       refine Qq ?_
       refine Qq ?_
       refine Qq ?_
       refine Qq ?_
       refine Qq ?_
       refine Qq ?_
       refine Qq ?_
       refine Qq ?_
       refine Qq ?_
       refine Qq ?_
       refine Qq ?_
       refine Qq ?_
       refine Qq ?_
       refine Qq ?_
       refine Qq ?_
       refine Qq ?_
       refine Qq ?_
       refine Qq ?_
       refine Q_nil ?_
       have tr : ∀ a b c d e f g h i j k m n o p q r s t u v w x y z A B C D E F G H I J K L M N O P Q R S T U V W X Y : AV, let l := lc_route_ok a b c d e f g h i j k m n o p q r s t; trim ((87,Y)::(86,X)::(85,W)::(84,V)::(83,U)::(82,T)::(81,S)::(80,R)::(79,Q)::(78,P)::(77,O)::(76,N)::(75,M)::(74,L)::(73,K)::(72,J)::(71,I)::(70,H)::(69,G)::(68,F)::(67,E)::(66,D)::(65,C)::(64,B)::(63,A)::(62,z)::(61,y)::(60,x)::(59,w)::(58,v)::(57,u)::l) l = [(0,a),(1,b),(2,c),(6,d),(7,e),(8,f),(10,g),(11,h),(15,i),(17,j),(21,k),(28,m),(29,n),(30,o),(31,p),(34,q),(39,r),(54,s),(87,Y)] := by intros; rfl
       refine R_nil (tr ..) ?_; clear tr
       refine then_n ?_
       refine cdd (fun h10 => ?_) (fun h10 => ?_)
       ·
        try simp only [decide_eq_true_eq, decide_eq_false_iff_not, Bool.not_eq_true', Bool.not_eq_false', beq_iff_eq, beq_eq_false_iff_ne, ne_eq] at h10
        refine at_seq rfl ?_
        refine rg rfl ?_
        refine Rq ?_
        refine Rq ?_
        refine Rq ?_
        have tr : ∀ a b c d e f g h i j k m n o p q r s t u v w : AV, let l := lc_route_ok a b c d e f g h i j k m n o p q r s t; trim ((7,w)::(6,v)::(88,u)::l) l = [(0,a),(1,b),(2,c),(6,v),(7,w),(8,f),(10,g),(11,h),(15,i),(17,j),(21,k),(28,m),(29,n),(30,o),(31,p),(34,q),(39,r),(54,s),(87,t)] := by intros; rfl
        refine R_nil (tr ..) ?_; clear tr
        refine then_n ?_
        refine at_ret rfl ?_
        refine blk_r ?_
        refine then_r ?_
        refine then_r ?_
        refine blk_r ?_
        refine then_r ?_
        first | (refine fpure ?_; refine ⟨?_, rfl⟩; rw [routeS, if_pos (by assumption)]; done) | (refine fpure ?_; refine ⟨?_, rfl⟩; rw [routeS, if_neg (fun hh => hh hct), if_pos (by omega)]; done) | (refine fpure ?_; refine ⟨?_, rfl⟩; rw [routeS, if_neg (fun hh => hh hct), if_neg (by omega), if_pos (by omega)]; done) | (refine fpure ?_; refine ⟨?_, rfl⟩; have he : viE t.length (gt l u) = 2 := (by rw [viE, if_pos (by omega)]); have hf := ferr_at (f := (fun i => viE t.length (gt l i))) hz (by show ¬ viE t.length (gt l u) = 0; rw [he]; decide) l.length (by omega); have hg : ferr (fun i => viE t.length (gt l i)) l.length = 2 := hf.trans he; rw [routeS, if_neg (fun hh => hh hct), if_neg (by omega), if_neg (by omega), if_pos (by rw [hg]; decide), hg]; done) | (refine fpure ?_; refine ⟨?_, rfl⟩; have he : viE t.length (gt l u) = 1 := (by rw [viE, if_neg (by omega), if_pos (by omega)]); have hf := ferr_at (f := (fun i => viE t.length (gt l i))) hz (by show ¬ viE t.length (gt l u) = 0; rw [he]; decide) l.length (by omega); have hg : ferr (fun i => viE t.length (gt l i)) l.length = 1 := hf.trans he; rw [routeS, if_neg (fun hh => hh hct), if_neg (by omega), if_neg (by omega), if_pos (by rw [hg]; decide), hg]; done) | (refine fpure ?_; refine ⟨?_, rfl⟩; rw [routeS, if_neg (fun hh => hh hct), if_neg (by omega), if_neg (by omega), if_neg (fun hh => hh hzz), ← hr, vF_hit (by omega) (by omega)]; done) | (refine fpure ?_; refine ⟨?_, rfl⟩; rw [routeS, if_neg (fun hh => hh hct), if_neg (by omega), if_neg (by omega), if_neg (fun hh => hh hzz), ← hr, vF_end (by omega)]; done)
       ·
        try simp only [decide_eq_true_eq, decide_eq_false_iff_not, Bool.not_eq_true', Bool.not_eq_false', beq_iff_eq, beq_eq_false_iff_ne, ne_eq] at h10
        refine at_skip rfl ?_
        refine blk_n ?_
        refine then_n ?_
        refine rg rfl ?_
        refine Rq ?_
        refine Rq ?_
        refine Rq ?_
        have tr : ∀ a b c d e f g h i j k m n o p q r s t u v w : AV, let l := lc_route_ok a b c d e f g h i j k m n o p q r s t; trim ((11,w)::(56,v)::(55,u)::l) l = [(0,a),(1,b),(2,c),(6,d),(7,e),(8,f),(10,g),(11,w),(15,i),(17,j),(21,k),(28,m),(29,n),(30,o),(31,p),(34,q),(39,r),(54,s),(87,t)] := by intros; rfl
        refine R_nil (tr ..) ?_; clear tr
        refine then_n ?_
        exact ⟨_, _, ⟨z + 1, X2, _, _, _, _, rfl, rfl, by rfl, by omega, by exact (vF_miss (by omega) (by omega)).symm.trans hr⟩, by rfl, by omega⟩
      ·
       try simp only [decide_eq_true_eq, decide_eq_false_iff_not, Bool.not_eq_true', Bool.not_eq_false', beq_iff_eq, beq_eq_false_iff_ne, ne_eq] at h9
       refine at_exit rfl ?_
       refine then_x ?_
       refine then_x ?_
       refine blk_x ?_
       refine then_n ?_
       refine at_seq rfl ?_
       refine rg rfl ?_
       refine Rq ?_
       refine Rq ?_
       have tr : ∀ a b c d e f g h i j k m n o p q r s t u v : AV, let l := lc_route_ok a b c d e f g h i j k m n o p q r s t; trim ((7,v)::(6,u)::l) l = [(0,a),(1,b),(2,c),(6,u),(7,v),(8,f),(10,g),(11,h),(15,i),(17,j),(21,k),(28,m),(29,n),(30,o),(31,p),(34,q),(39,r),(54,s),(87,t)] := by intros; rfl
       refine R_nil (tr ..) ?_; clear tr
       refine then_n ?_
       refine at_ret rfl ?_
       first | (refine fpure ?_; refine ⟨?_, rfl⟩; rw [routeS, if_pos (by assumption)]; done) | (refine fpure ?_; refine ⟨?_, rfl⟩; rw [routeS, if_neg (fun hh => hh hct), if_pos (by omega)]; done) | (refine fpure ?_; refine ⟨?_, rfl⟩; rw [routeS, if_neg (fun hh => hh hct), if_neg (by omega), if_pos (by omega)]; done) | (refine fpure ?_; refine ⟨?_, rfl⟩; have he : viE t.length (gt l u) = 2 := (by rw [viE, if_pos (by omega)]); have hf := ferr_at (f := (fun i => viE t.length (gt l i))) hz (by show ¬ viE t.length (gt l u) = 0; rw [he]; decide) l.length (by omega); have hg : ferr (fun i => viE t.length (gt l i)) l.length = 2 := hf.trans he; rw [routeS, if_neg (fun hh => hh hct), if_neg (by omega), if_neg (by omega), if_pos (by rw [hg]; decide), hg]; done) | (refine fpure ?_; refine ⟨?_, rfl⟩; have he : viE t.length (gt l u) = 1 := (by rw [viE, if_neg (by omega), if_pos (by omega)]); have hf := ferr_at (f := (fun i => viE t.length (gt l i))) hz (by show ¬ viE t.length (gt l u) = 0; rw [he]; decide) l.length (by omega); have hg : ferr (fun i => viE t.length (gt l i)) l.length = 1 := hf.trans he; rw [routeS, if_neg (fun hh => hh hct), if_neg (by omega), if_neg (by omega), if_pos (by rw [hg]; decide), hg]; done) | (refine fpure ?_; refine ⟨?_, rfl⟩; rw [routeS, if_neg (fun hh => hh hct), if_neg (by omega), if_neg (by omega), if_neg (fun hh => hh hzz), ← hr, vF_hit (by omega) (by omega)]; done) | (refine fpure ?_; refine ⟨?_, rfl⟩; rw [routeS, if_neg (fun hh => hh hct), if_neg (by omega), if_neg (by omega), if_neg (fun hh => hh hzz), ← hr, vF_end (by omega)]; done)

abbrev lc_rroute_ok (a b c d e f g h i j k m n o p q r s t : AV) : Env := [(0,a),(1,b),(2,c),(6,d),(7,e),(8,f),(10,g),(11,h),(15,i),(19,j),(25,k),(26,m),(27,n),(28,o),(29,p),(39,q),(49,r),(54,s),(87,t)]
theorem rroute_ok (lim : Nat) (H : Heap) (t : List (List Int)) (l : List Vi) (rest : Int) : ACall sig lim 27 [rowsAV t, visAV l, AV.i rest] H fun r H' => r = .tup [AV.i (routeS t l rest).1, AV.i (routeS t l rest).2] ∧ H' = H := by
 refine ACall_pure (fa := fa27) rfl rfl rfl rfl ?_
 have tr : ∀ a0 a1 a2 : AV, env0 fa27.keep [a0, a1, a2] = [(0,a0),(1,a1),(2,a2),(6,.any),(7,.any),(8,.any),(10,.any),(11,.any),(15,.any),(19,.any),(25,.any),(26,.any),(27,.any),(28,.any),(29,.any),(39,.any),(49,.any),(54,.any),(87,.any)] := fun a0 a1 a2 => rfl
 refine W_to (tr _ _ _) ?_; clear tr
 refine at_seq rfl ?_
 refine rg rfl ?_
 refine Rq ?_
 refine Rq ?_
 have tr : ∀ a b c d e f g h i j k m n o p q r s t u v : AV, let l := lc_rroute_ok a b c d e f g h i j k m n o p q r s t; trim ((7,v)::(6,u)::l) l = [(0,a),(1,b),(2,c),(6,u),(7,v),(8,f),(10,g),(11,h),(15,i),(19,j),(25,k),(26,m),(27,n),(28,o),(29,p),(39,q),(49,r),(54,s),(87,t)] := by intros; rfl
 refine R_nil (tr ..) ?_; clear tr
 refine then_n ?_
 refine at_seq rfl ?_
 refine at_seq rfl ?_
 refine rg rfl ?_
 refine Rq ?_
 refine Rcall ?_
 refine ACall_eq (rtravel_ok _ _ _) ?_
 refine Rq ?_
 have tr : ∀ a b c d e f g h i j k m n o p q r s t u v w : AV, let l := lc_rroute_ok a b c d e f g h i j k m n o p q r s t; trim ((8,w)::(13,v)::(12,u)::l) l = [(0,a),(1,b),(2,c),(6,d),(7,e),(8,w),(10,g),(11,h),(15,i),(19,j),(25,k),(26,m),(27,n),(28,o),(29,p),(39,q),(49,r),(54,s),(87,t)] := by intros; rfl
 refine R_nil (tr ..) ?_; clear tr
 refine then_n ?_
 refine at_seq rfl ?_
 refine rg rfl ?_
 refine Rq ?_
 refine Rq ?_
 have tr : ∀ a b c d e f g h i j k m n o p q r s t u v : AV, let l := lc_rroute_ok a b c d e f g h i j k m n o p q r s t; trim ((15,v)::(14,u)::l) l = [(0,a),(1,b),(2,c),(6,d),(7,e),(8,f),(10,g),(11,h),(15,v),(19,j),(25,k),(26,m),(27,n),(28,o),(29,p),(39,q),(49,r),(54,s),(87,t)] := by intros; rfl
 refine R_nil (tr ..) ?_; clear tr
 refine then_n ?_
 refine cdd (fun h1 => ?_) (fun h1 => ?_)
 ·
  try simp only [decide_eq_true_eq, decide_eq_false_iff_not, Bool.not_eq_true', Bool.not_eq_false', beq_iff_eq, beq_eq_false_iff_ne, ne_eq] at h1
  refine at_seq rfl ?_
  refine rg rfl ?_
  refine Rq ?_
  refine Rq ?_
  refine Rq ?_
  have tr : ∀ a b c d e f g h i j k m n o p q r s t u v w : AV, let l := lc_rroute_ok a b c d e f g h i j k m n o p q r s t; trim ((7,w)::(6,v)::(16,u)::l) l = [(0,a),(1,b),(2,c),(6,v),(7,w),(8,f),(10,g),(11,h),(15,i),(19,j),(25,k),(26,m),(27,n),(28,o),(29,p),(39,q),(49,r),(54,s),(87,t)] := by intros; rfl
  refine R_nil (tr ..) ?_; clear tr
  refine then_n ?_
  refine at_ret rfl ?_
  refine then_r ?_
  first | (refine fpure ?_; refine ⟨?_, rfl⟩; rw [routeS, if_pos (by assumption)]; done) | (refine fpure ?_; refine ⟨?_, rfl⟩; rw [routeS, if_neg (fun hh => hh hct), if_pos (by omega)]; done) | (refine fpure ?_; refine ⟨?_, rfl⟩; rw [routeS, if_neg (fun hh => hh hct), if_neg (by omega), if_pos (by omega)]; done) | (refine fpure ?_; refine ⟨?_, rfl⟩; have he : viE t.length (gt l u) = 2 := (by rw [viE, if_pos (by omega)]); have hf := ferr_at (f := (fun i => viE t.length (gt l i))) hz (by show ¬ viE t.length (gt l u) = 0; rw [he]; decide) l.length (by omega); have hg : ferr (fun i => viE t.length (gt l i)) l.length = 2 := hf.trans he; rw [routeS, if_neg (fun hh => hh hct), if_neg (by omega), if_neg (by omega), if_pos (by rw [hg]; decide), hg]; done) | (refine fpure ?_; refine ⟨?_, rfl⟩; have he : viE t.length (gt l u) = 1 := (by rw [viE, if_neg (by omega), if_pos (by omega)]); have hf := ferr_at (f := (fun i => viE t.length (gt l i))) hz (by show ¬ viE t.length (gt l u) = 0; rw [he]; decide) l.length (by omega); have hg : ferr (fun i => viE t.length (gt l i)) l.length = 1 := hf.trans he; rw [routeS, if_neg (fun hh => hh hct), if_neg (by omega), if_neg (by omega), if_pos (by rw [hg]; decide), hg]; done) | (refine fpure ?_; refine ⟨?_, rfl⟩; rw [routeS, if_neg (fun hh => hh hct), if_neg (by omega), if_neg (by omega), if_neg (fun hh => hh hzz), ← hr, vF_hit (by omega) (by omega)]; done) | (refine fpure ?_; refine ⟨?_, rfl⟩; rw [routeS, if_neg (fun hh => hh hct), if_neg (by omega), if_neg (by omega), if_neg (fun hh => hh hzz), ← hr, vF_end (by omega)]; done)
 ·
  try simp only [decide_eq_true_eq, decide_eq_false_iff_not, Bool.not_eq_true', Bool.not_eq_false', beq_iff_eq, beq_eq_false_iff_ne, ne_eq] at h1
  refine at_skip rfl ?_
  refine then_n ?_
  refine at_seq rfl ?_
  refine at_seq rfl ?_
  refine rg rfl ?_
  have hct : ctS t = 0 := by first | assumption | (exact Decidable.not_not.mp (by assumption)) | omega
  obtain ⟨ht0, ht20, hlen, htr⟩ := ct_of hct
  refine Rq ?_
  refine Rq ?_
  refine Rq ?_
  have tr : ∀ a b c d e f g h i j k m n o p q r s t u v w : AV, let l := lc_rroute_ok a b c d e f g h i j k m n o p q r s t; trim ((19,w)::(18,v)::(17,u)::l) l = [(0,a),(1,b),(2,c),(6,d),(7,e),(8,f),(10,g),(11,h),(15,i),(19,w),(25,k),(26,m),(27,n),(28,o),(29,p),(39,q),(49,r),(54,s),(87,t)] := by intros; rfl
  refine R_nil (tr ..) ?_; clear tr
  refine then_n ?_
  refine cdd (fun h2 => ?_) (fun h2 => ?_)
  ·
   try simp only [decide_eq_true_eq, decide_eq_false_iff_not, Bool.not_eq_true', Bool.not_eq_false', beq_iff_eq, beq_eq_false_iff_ne, ne_eq] at h2
   refine at_seq rfl ?_
   refine rg rfl ?_
   refine Rq ?_
   refine Rq ?_
   have tr : ∀ a b c d e f g h i j k m n o p q r s t u v : AV, let l := lc_rroute_ok a b c d e f g h i j k m n o p q r s t; trim ((7,v)::(6,u)::l) l = [(0,a),(1,b),(2,c),(6,u),(7,v),(8,f),(10,g),(11,h),(15,i),(19,j),(25,k),(26,m),(27,n),(28,o),(29,p),(39,q),(49,r),(54,s),(87,t)] := by intros; rfl
   refine R_nil (tr ..) ?_; clear tr
   refine then_n ?_
   refine at_ret rfl ?_
   refine then_r ?_
   first | (refine fpure ?_; refine ⟨?_, rfl⟩; rw [routeS, if_pos (by assumption)]; done) | (refine fpure ?_; refine ⟨?_, rfl⟩; rw [routeS, if_neg (fun hh => hh hct), if_pos (by omega)]; done) | (refine fpure ?_; refine ⟨?_, rfl⟩; rw [routeS, if_neg (fun hh => hh hct), if_neg (by omega), if_pos (by omega)]; done) | (refine fpure ?_; refine ⟨?_, rfl⟩; have he : viE t.length (gt l u) = 2 := (by rw [viE, if_pos (by omega)]); have hf := ferr_at (f := (fun i => viE t.length (gt l i))) hz (by show ¬ viE t.length (gt l u) = 0; rw [he]; decide) l.length (by omega); have hg : ferr (fun i => viE t.length (gt l i)) l.length = 2 := hf.trans he; rw [routeS, if_neg (fun hh => hh hct), if_neg (by omega), if_neg (by omega), if_pos (by rw [hg]; decide), hg]; done) | (refine fpure ?_; refine ⟨?_, rfl⟩; have he : viE t.length (gt l u) = 1 := (by rw [viE, if_neg (by omega), if_pos (by omega)]); have hf := ferr_at (f := (fun i => viE t.length (gt l i))) hz (by show ¬ viE t.length (gt l u) = 0; rw [he]; decide) l.length (by omega); have hg : ferr (fun i => viE t.length (gt l i)) l.length = 1 := hf.trans he; rw [routeS, if_neg (fun hh => hh hct), if_neg (by omega), if_neg (by omega), if_pos (by rw [hg]; decide), hg]; done) | (refine fpure ?_; refine ⟨?_, rfl⟩; rw [routeS, if_neg (fun hh => hh hct), if_neg (by omega), if_neg (by omega), if_neg (fun hh => hh hzz), ← hr, vF_hit (by omega) (by omega)]; done) | (refine fpure ?_; refine ⟨?_, rfl⟩; rw [routeS, if_neg (fun hh => hh hct), if_neg (by omega), if_neg (by omega), if_neg (fun hh => hh hzz), ← hr, vF_end (by omega)]; done)
  ·
   try simp only [decide_eq_true_eq, decide_eq_false_iff_not, Bool.not_eq_true', Bool.not_eq_false', beq_iff_eq, beq_eq_false_iff_ne, ne_eq] at h2
   refine at_skip rfl ?_
   refine then_n ?_
   refine at_seq rfl ?_
   refine at_seq rfl ?_
   refine rg rfl ?_
   refine Rq ?_
   refine Rq ?_
   refine Rq ?_
   refine Rp_split (fun h3 => ?_) (fun h3 => ?_)
   ·
    try simp only [decide_eq_true_eq, decide_eq_false_iff_not, Bool.not_eq_true', Bool.not_eq_false', beq_iff_eq, beq_eq_false_iff_ne, ne_eq] at h3
    refine Rn ?_
    refine Rn ?_
    refine Rq ?_
    have tr : ∀ a b c d e f g h i j k m n o p q r s t u v w x y z : AV, let l := lc_rroute_ok a b c d e f g h i j k m n o p q r s t; trim ((25,z)::(24,y)::(23,x)::(22,w)::(21,v)::(20,u)::l) l = [(0,a),(1,b),(2,c),(6,d),(7,e),(8,f),(10,g),(11,h),(15,i),(19,j),(25,z),(26,m),(27,n),(28,o),(29,p),(39,q),(49,r),(54,s),(87,t)] := by intros; rfl
    refine R_nil (tr ..) ?_; clear tr
    refine then_n ?_
    refine cdt ?_
    refine at_seq rfl ?_
    refine rg rfl ?_
    refine Rq ?_
    refine Rq ?_
    have tr : ∀ a b c d e f g h i j k m n o p q r s t u v : AV, let l := lc_rroute_ok a b c d e f g h i j k m n o p q r s t; trim ((7,v)::(6,u)::l) l = [(0,a),(1,b),(2,c),(6,u),(7,v),(8,f),(10,g),(11,h),(15,i),(19,j),(25,k),(26,m),(27,n),(28,o),(29,p),(39,q),(49,r),(54,s),(87,t)] := by intros; rfl
    refine R_nil (tr ..) ?_; clear tr
    refine then_n ?_
    refine at_ret rfl ?_
    refine then_r ?_
    first | (refine fpure ?_; refine ⟨?_, rfl⟩; rw [routeS, if_pos (by assumption)]; done) | (refine fpure ?_; refine ⟨?_, rfl⟩; rw [routeS, if_neg (fun hh => hh hct), if_pos (by omega)]; done) | (refine fpure ?_; refine ⟨?_, rfl⟩; rw [routeS, if_neg (fun hh => hh hct), if_neg (by omega), if_pos (by omega)]; done) | (refine fpure ?_; refine ⟨?_, rfl⟩; have he : viE t.length (gt l u) = 2 := (by rw [viE, if_pos (by omega)]); have hf := ferr_at (f := (fun i => viE t.length (gt l i))) hz (by show ¬ viE t.length (gt l u) = 0; rw [he]; decide) l.length (by omega); have hg : ferr (fun i => viE t.length (gt l i)) l.length = 2 := hf.trans he; rw [routeS, if_neg (fun hh => hh hct), if_neg (by omega), if_neg (by omega), if_pos (by rw [hg]; decide), hg]; done) | (refine fpure ?_; refine ⟨?_, rfl⟩; have he : viE t.length (gt l u) = 1 := (by rw [viE, if_neg (by omega), if_pos (by omega)]); have hf := ferr_at (f := (fun i => viE t.length (gt l i))) hz (by show ¬ viE t.length (gt l u) = 0; rw [he]; decide) l.length (by omega); have hg : ferr (fun i => viE t.length (gt l i)) l.length = 1 := hf.trans he; rw [routeS, if_neg (fun hh => hh hct), if_neg (by omega), if_neg (by omega), if_pos (by rw [hg]; decide), hg]; done) | (refine fpure ?_; refine ⟨?_, rfl⟩; rw [routeS, if_neg (fun hh => hh hct), if_neg (by omega), if_neg (by omega), if_neg (fun hh => hh hzz), ← hr, vF_hit (by omega) (by omega)]; done) | (refine fpure ?_; refine ⟨?_, rfl⟩; rw [routeS, if_neg (fun hh => hh hct), if_neg (by omega), if_neg (by omega), if_neg (fun hh => hh hzz), ← hr, vF_end (by omega)]; done)
   ·
    try simp only [decide_eq_true_eq, decide_eq_false_iff_not, Bool.not_eq_true', Bool.not_eq_false', beq_iff_eq, beq_eq_false_iff_ne, ne_eq] at h3
    refine Ry ?_
    refine Rq ?_
    refine Ry ?_
    refine Rq ?_
    refine Rq ?_
    have tr : ∀ a b c d e f g h i j k m n o p q r s t u v w x y z : AV, let l := lc_rroute_ok a b c d e f g h i j k m n o p q r s t; trim ((25,z)::(24,y)::(23,x)::(22,w)::(21,v)::(20,u)::l) l = [(0,a),(1,b),(2,c),(6,d),(7,e),(8,f),(10,g),(11,h),(15,i),(19,j),(25,z),(26,m),(27,n),(28,o),(29,p),(39,q),(49,r),(54,s),(87,t)] := by intros; rfl
    refine R_nil (tr ..) ?_; clear tr
    refine then_n ?_
    refine cdd (fun h4 => ?_) (fun h4 => ?_)
    ·
     try simp only [decide_eq_true_eq, decide_eq_false_iff_not, Bool.not_eq_true', Bool.not_eq_false', beq_iff_eq, beq_eq_false_iff_ne, ne_eq] at h4
     refine at_seq rfl ?_
     refine rg rfl ?_
     refine Rq ?_
     refine Rq ?_
     have tr : ∀ a b c d e f g h i j k m n o p q r s t u v : AV, let l := lc_rroute_ok a b c d e f g h i j k m n o p q r s t; trim ((7,v)::(6,u)::l) l = [(0,a),(1,b),(2,c),(6,u),(7,v),(8,f),(10,g),(11,h),(15,i),(19,j),(25,k),(26,m),(27,n),(28,o),(29,p),(39,q),(49,r),(54,s),(87,t)] := by intros; rfl
     refine R_nil (tr ..) ?_; clear tr
     refine then_n ?_
     refine at_ret rfl ?_
     refine then_r ?_
     first | (refine fpure ?_; refine ⟨?_, rfl⟩; rw [routeS, if_pos (by assumption)]; done) | (refine fpure ?_; refine ⟨?_, rfl⟩; rw [routeS, if_neg (fun hh => hh hct), if_pos (by omega)]; done) | (refine fpure ?_; refine ⟨?_, rfl⟩; rw [routeS, if_neg (fun hh => hh hct), if_neg (by omega), if_pos (by omega)]; done) | (refine fpure ?_; refine ⟨?_, rfl⟩; have he : viE t.length (gt l u) = 2 := (by rw [viE, if_pos (by omega)]); have hf := ferr_at (f := (fun i => viE t.length (gt l i))) hz (by show ¬ viE t.length (gt l u) = 0; rw [he]; decide) l.length (by omega); have hg : ferr (fun i => viE t.length (gt l i)) l.length = 2 := hf.trans he; rw [routeS, if_neg (fun hh => hh hct), if_neg (by omega), if_neg (by omega), if_pos (by rw [hg]; decide), hg]; done) | (refine fpure ?_; refine ⟨?_, rfl⟩; have he : viE t.length (gt l u) = 1 := (by rw [viE, if_neg (by omega), if_pos (by omega)]); have hf := ferr_at (f := (fun i => viE t.length (gt l i))) hz (by show ¬ viE t.length (gt l u) = 0; rw [he]; decide) l.length (by omega); have hg : ferr (fun i => viE t.length (gt l i)) l.length = 1 := hf.trans he; rw [routeS, if_neg (fun hh => hh hct), if_neg (by omega), if_neg (by omega), if_pos (by rw [hg]; decide), hg]; done) | (refine fpure ?_; refine ⟨?_, rfl⟩; rw [routeS, if_neg (fun hh => hh hct), if_neg (by omega), if_neg (by omega), if_neg (fun hh => hh hzz), ← hr, vF_hit (by omega) (by omega)]; done) | (refine fpure ?_; refine ⟨?_, rfl⟩; rw [routeS, if_neg (fun hh => hh hct), if_neg (by omega), if_neg (by omega), if_neg (fun hh => hh hzz), ← hr, vF_end (by omega)]; done)
    ·
     try simp only [decide_eq_true_eq, decide_eq_false_iff_not, Bool.not_eq_true', Bool.not_eq_false', beq_iff_eq, beq_eq_false_iff_ne, ne_eq] at h4
     refine at_skip rfl ?_
     refine then_n ?_
     refine at_seq rfl ?_
     refine at_seq rfl ?_
     refine rg rfl ?_
     refine Rq ?_
     refine Rq ?_
     refine Rq ?_
     have tr : ∀ a b c d e f g h i j k m n o p q r s t u v w : AV, let l := lc_rroute_ok a b c d e f g h i j k m n o p q r s t; trim ((28,w)::(27,v)::(26,u)::l) l = [(0,a),(1,b),(2,c),(6,d),(7,e),(8,f),(10,g),(11,h),(15,i),(19,j),(25,k),(26,u),(27,v),(28,w),(29,p),(39,q),(49,r),(54,s),(87,t)] := by intros; rfl
     refine R_nil (tr ..) ?_; clear tr
     refine then_n ?_
     refine at_block rfl ?_
     refine loop_n rfl (fun mm kv H' => ∃ u : Nat, ∃ X : Heap, ∃ x6 x7 x10 x29 x39 x49 : AV, (kv = [(6, x6), (7, x7), (10, x10), (28, AV.i u), (29, x29), (39, x39), (49, x49)]) ∧ (mm = l.length - u) ∧ (H' = H ++ X) ∧ (u ≤ l.length) ∧ (ferr (fun i => viE t.length (gt l i)) u = 0)) ⟨0, [], _, _, _, _, _, _, rfl, rfl, by simp, by omega, by rfl⟩ (by rfl) ?_
     rintro mm kv H1 ⟨u, X, x6, x7, x10, x29, x39, x49, rfl, rfl, hX, hu, hz⟩
     have tr : ∀ a b c d e f g h i j k m n o p q r s t u v w x y z A : AV, upd [(0,a),(1,b),(2,c),(6,d),(7,e),(8,f),(10,g),(11,h),(15,i),(19,j),(25,k),(26,m),(27,n),(28,o),(29,p),(39,q),(49,r),(54,s),(87,t)] [(6,u),(7,v),(10,w),(28,x),(29,y),(39,z),(49,A)] = [(0,a),(1,b),(2,c),(6,u),(7,v),(8,f),(10,w),(11,h),(15,i),(19,j),(25,k),(26,m),(27,n),(28,x),(29,y),(39,z),(49,A),(54,s),(87,t)] := by intros; rfl
     refine W_to (tr ..) ?_; clear tr
     subst hX
     refine at_seq rfl ?_
     refine rg rfl ?_
     refine Rq ?_
     have tr : ∀ a b c d e f g h i j k m n o p q r s t u : AV, let l := lc_rroute_ok a b c d e f g h i j k m n o p q r s t; trim ((29,u)::l) l = [(0,a),(1,b),(2,c),(6,d),(7,e),(8,f),(10,g),(11,h),(15,i),(19,j),(25,k),(26,m),(27,n),(28,o),(29,u),(39,q),(49,r),(54,s),(87,t)] := by intros; rfl
     refine R_nil (tr ..) ?_; clear tr
     refine then_n ?_
     refine at_seq rfl ?_
     refine cdd (fun h5 => ?_) (fun h5 => ?_)
     ·
      try simp only [decide_eq_true_eq, decide_eq_false_iff_not, Bool.not_eq_true', Bool.not_eq_false', beq_iff_eq, beq_eq_false_iff_ne, ne_eq] at h5
      refine at_skip rfl ?_
      refine then_n ?_
      refine at_seq rfl ?_
      refine at_block rfl ?_
      refine at_seq rfl ?_
      refine rg rfl ?_
      refine Rq ?_
      refine Rq ?_
      refine R_alloc (by simp (disch := first | omega | (simp only [List.length_map, List.length_append, List.length_set, List.length_cons, List.length_nil]; omega)) only [go_sem, ↓reduceIte, Nat.reduceEqDiff, reduceCtorEq]; rfl) rfl (by simp only [List.map_cons, List.map_nil]; rfl) ?_
      refine R_store ty57 (by simp (disch := first | omega | (simp only [List.length_map, List.length_append, List.length_set, List.length_cons, List.length_nil]; omega)) only [go_sem, ↓reduceIte, Nat.reduceEqDiff, reduceCtorEq]; rfl) (by simp (disch := first | omega | (simp only [List.length_map, List.length_append, List.length_set, List.length_cons, List.length_nil]; omega)) only [go_sem, ↓reduceIte, Nat.reduceEqDiff, reduceCtorEq]; rfl) (by simp (disch := first | omega | (simp only [List.length_map, List.length_append, List.length_set, List.length_cons, List.length_nil]; omega)) only [go_sem, ↓reduceIte, Nat.reduceEqDiff, reduceCtorEq]; rfl) (by simp) (by rfl) (by simp (disch := first | omega | (simp only [List.length_map, List.length_append, List.length_set, List.length_cons, List.length_nil]; omega)) only [go_sem, ↓reduceIte, Nat.reduceEqDiff, reduceCtorEq]; rfl) ?_
      have tr : ∀ a b c d e f g h i j k m n o p q r s t u v w : AV, let l := lc_rroute_ok a b c d e f g h i j k m n o p q r s t; trim ((10,w)::(31,v)::(30,u)::l) l = [(0,a),(1,b),(2,c),(6,d),(7,e),(8,f),(10,w),(11,h),(15,i),(19,j),(25,k),(26,m),(27,n),(28,o),(29,p),(39,q),(49,r),(54,s),(87,t)] := by intros; rfl
      refine R_nil (tr ..) ?_; clear tr
      refine then_n ?_
      refine at_seq rfl ?_
      refine at_seq rfl ?_
      refine rg rfl ?_
      refine Rq ?_
      refine Rq ?_
      refine Rq ?_
      refine Rq ?_
      refine Rp_split (fun h6 => ?_) (fun h6 => ?_)
      ·
       try simp only [decide_eq_true_eq, decide_eq_false_iff_not, Bool.not_eq_true', Bool.not_eq_false', beq_iff_eq, beq_eq_false_iff_ne, ne_eq] at h6
       refine Rn ?_
       refine Rn ?_
       refine Rn ?_
       refine Rq ?_
       have tr : ∀ a b c d e f g h i j k m n o p q r s t u v w x y z A B : AV, let l := lc_rroute_ok a b c d e f g h i j k m n o p q r s t; trim ((39,B)::(38,A)::(37,z)::(36,y)::(35,x)::(34,w)::(33,v)::(32,u)::l) l = [(0,a),(1,b),(2,c),(6,d),(7,e),(8,f),(10,g),(11,h),(15,i),(19,j),(25,k),(26,m),(27,n),(28,o),(29,p),(39,B),(49,r),(54,s),(87,t)] := by intros; rfl
       refine R_nil (tr ..) ?_; clear tr
       refine then_n ?_
       refine cdt ?_
       refine at_seq rfl ?_
       refine rg rfl ?_
       refine Rq ?_
       refine Rq ?_
       have tr : ∀ a b c d e f g h i j k m n o p q r s t u v : AV, let l := lc_rroute_ok a b c d e f g h i j k m n o p q r s t; trim ((7,v)::(6,u)::l) l = [(0,a),(1,b),(2,c),(6,u),(7,v),(8,f),(10,g),(11,h),(15,i),(19,j),(25,k),(26,m),(27,n),(28,o),(29,p),(39,q),(49,r),(54,s),(87,t)] := by intros; rfl
       refine R_nil (tr ..) ?_; clear tr
       refine then_n ?_
       refine at_ret rfl ?_
       refine then_r ?_
       refine blk_r ?_
       refine then_r ?_
       refine then_r ?_
       refine blk_r ?_
       refine then_r ?_
       first | (refine fpure ?_; refine ⟨?_, rfl⟩; rw [routeS, if_pos (by assumption)]; done) | (refine fpure ?_; refine ⟨?_, rfl⟩; rw [routeS, if_neg (fun hh => hh hct), if_pos (by omega)]; done) | (refine fpure ?_; refine ⟨?_, rfl⟩; rw [routeS, if_neg (fun hh => hh hct), if_neg (by omega), if_pos (by omega)]; done) | (refine fpure ?_; refine ⟨?_, rfl⟩; have he : viE t.length (gt l u) = 2 := (by rw [viE, if_pos (by omega)]); have hf := ferr_at (f := (fun i => viE t.length (gt l i))) hz (by show ¬ viE t.length (gt l u) = 0; rw [he]; decide) l.length (by omega); have hg : ferr (fun i => viE t.length (gt l i)) l.length = 2 := hf.trans he; rw [routeS, if_neg (fun hh => hh hct), if_neg (by omega), if_neg (by omega), if_pos (by rw [hg]; decide), hg]; done) | (refine fpure ?_; refine ⟨?_, rfl⟩; have he : viE t.length (gt l u) = 1 := (by rw [viE, if_neg (by omega), if_pos (by omega)]); have hf := ferr_at (f := (fun i => viE t.length (gt l i))) hz (by show ¬ viE t.length (gt l u) = 0; rw [he]; decide) l.length (by omega); have hg : ferr (fun i => viE t.length (gt l i)) l.length = 1 := hf.trans he; rw [routeS, if_neg (fun hh => hh hct), if_neg (by omega), if_neg (by omega), if_pos (by rw [hg]; decide), hg]; done) | (refine fpure ?_; refine ⟨?_, rfl⟩; rw [routeS, if_neg (fun hh => hh hct), if_neg (by omega), if_neg (by omega), if_neg (fun hh => hh hzz), ← hr, vF_hit (by omega) (by omega)]; done) | (refine fpure ?_; refine ⟨?_, rfl⟩; rw [routeS, if_neg (fun hh => hh hct), if_neg (by omega), if_neg (by omega), if_neg (fun hh => hh hzz), ← hr, vF_end (by omega)]; done)
      ·
       try simp only [decide_eq_true_eq, decide_eq_false_iff_not, Bool.not_eq_true', Bool.not_eq_false', beq_iff_eq, beq_eq_false_iff_ne, ne_eq] at h6
       refine Ry ?_
       refine Rq ?_
       refine Ry ?_
       refine Rq ?_
       refine Ry ?_
       refine Rq ?_
       refine Rq ?_
       have tr : ∀ a b c d e f g h i j k m n o p q r s t u v w x y z A B : AV, let l := lc_rroute_ok a b c d e f g h i j k m n o p q r s t; trim ((39,B)::(38,A)::(37,z)::(36,y)::(35,x)::(34,w)::(33,v)::(32,u)::l) l = [(0,a),(1,b),(2,c),(6,d),(7,e),(8,f),(10,g),(11,h),(15,i),(19,j),(25,k),(26,m),(27,n),(28,o),(29,p),(39,B),(49,r),(54,s),(87,t)] := by intros; rfl
       refine R_nil (tr ..) ?_; clear tr
       refine then_n ?_
       refine cdd (fun h7 => ?_) (fun h7 => ?_)
       ·
        try simp only [decide_eq_true_eq, decide_eq_false_iff_not, Bool.not_eq_true', Bool.not_eq_false', beq_iff_eq, beq_eq_false_iff_ne, ne_eq] at h7
        refine at_seq rfl ?_
        refine rg rfl ?_
        refine Rq ?_
        refine Rq ?_
        have tr : ∀ a b c d e f g h i j k m n o p q r s t u v : AV, let l := lc_rroute_ok a b c d e f g h i j k m n o p q r s t; trim ((7,v)::(6,u)::l) l = [(0,a),(1,b),(2,c),(6,u),(7,v),(8,f),(10,g),(11,h),(15,i),(19,j),(25,k),(26,m),(27,n),(28,o),(29,p),(39,q),(49,r),(54,s),(87,t)] := by intros; rfl
        refine R_nil (tr ..) ?_; clear tr
        refine then_n ?_
        refine at_ret rfl ?_
        refine then_r ?_
        refine blk_r ?_
        refine then_r ?_
        refine then_r ?_
        refine blk_r ?_
        refine then_r ?_
        first | (refine fpure ?_; refine ⟨?_, rfl⟩; rw [routeS, if_pos (by assumption)]; done) | (refine fpure ?_; refine ⟨?_, rfl⟩; rw [routeS, if_neg (fun hh => hh hct), if_pos (by omega)]; done) | (refine fpure ?_; refine ⟨?_, rfl⟩; rw [routeS, if_neg (fun hh => hh hct), if_neg (by omega), if_pos (by omega)]; done) | (refine fpure ?_; refine ⟨?_, rfl⟩; have he : viE t.length (gt l u) = 2 := (by rw [viE, if_pos (by omega)]); have hf := ferr_at (f := (fun i => viE t.length (gt l i))) hz (by show ¬ viE t.length (gt l u) = 0; rw [he]; decide) l.length (by omega); have hg : ferr (fun i => viE t.length (gt l i)) l.length = 2 := hf.trans he; rw [routeS, if_neg (fun hh => hh hct), if_neg (by omega), if_neg (by omega), if_pos (by rw [hg]; decide), hg]; done) | (refine fpure ?_; refine ⟨?_, rfl⟩; have he : viE t.length (gt l u) = 1 := (by rw [viE, if_neg (by omega), if_pos (by omega)]); have hf := ferr_at (f := (fun i => viE t.length (gt l i))) hz (by show ¬ viE t.length (gt l u) = 0; rw [he]; decide) l.length (by omega); have hg : ferr (fun i => viE t.length (gt l i)) l.length = 1 := hf.trans he; rw [routeS, if_neg (fun hh => hh hct), if_neg (by omega), if_neg (by omega), if_pos (by rw [hg]; decide), hg]; done) | (refine fpure ?_; refine ⟨?_, rfl⟩; rw [routeS, if_neg (fun hh => hh hct), if_neg (by omega), if_neg (by omega), if_neg (fun hh => hh hzz), ← hr, vF_hit (by omega) (by omega)]; done) | (refine fpure ?_; refine ⟨?_, rfl⟩; rw [routeS, if_neg (fun hh => hh hct), if_neg (by omega), if_neg (by omega), if_neg (fun hh => hh hzz), ← hr, vF_end (by omega)]; done)
       ·
        try simp only [decide_eq_true_eq, decide_eq_false_iff_not, Bool.not_eq_true', Bool.not_eq_false', beq_iff_eq, beq_eq_false_iff_ne, ne_eq] at h7
        refine at_skip rfl ?_
        refine then_n ?_
        refine at_seq rfl ?_
        refine rg rfl ?_
        refine Rq ?_
        refine Rq ?_
        refine Rq ?_
        refine Rq ?_
        refine Rp_split (fun h8 => ?_) (fun h8 => ?_)
        ·
         try simp only [decide_eq_true_eq, decide_eq_false_iff_not, Bool.not_eq_true', Bool.not_eq_false', beq_iff_eq, beq_eq_false_iff_ne, ne_eq] at h8
         refine Rn ?_
         refine Rn ?_
         refine Rn ?_
         refine Rn ?_
         refine Rn ?_
         refine Rq ?_
         have tr : ∀ a b c d e f g h i j k m n o p q r s t u v w x y z A B C D : AV, let l := lc_rroute_ok a b c d e f g h i j k m n o p q r s t; trim ((49,D)::(48,C)::(47,B)::(46,A)::(45,z)::(44,y)::(43,x)::(42,w)::(41,v)::(40,u)::l) l = [(0,a),(1,b),(2,c),(6,d),(7,e),(8,f),(10,g),(11,h),(15,i),(19,j),(25,k),(26,m),(27,n),(28,o),(29,p),(39,q),(49,D),(54,s),(87,t)] := by intros; rfl
         refine R_nil (tr ..) ?_; clear tr
         refine then_n ?_
         refine cdt ?_
         refine at_seq rfl ?_
         refine rg rfl ?_
         refine Rq ?_
         refine Rq ?_
         have tr : ∀ a b c d e f g h i j k m n o p q r s t u v : AV, let l := lc_rroute_ok a b c d e f g h i j k m n o p q r s t; trim ((7,v)::(6,u)::l) l = [(0,a),(1,b),(2,c),(6,u),(7,v),(8,f),(10,g),(11,h),(15,i),(19,j),(25,k),(26,m),(27,n),(28,o),(29,p),(39,q),(49,r),(54,s),(87,t)] := by intros; rfl
         refine R_nil (tr ..) ?_; clear tr
         refine then_n ?_
         refine at_ret rfl ?_
         refine blk_r ?_
         refine then_r ?_
         refine then_r ?_
         refine blk_r ?_
         refine then_r ?_
         first | (refine fpure ?_; refine ⟨?_, rfl⟩; rw [routeS, if_pos (by assumption)]; done) | (refine fpure ?_; refine ⟨?_, rfl⟩; rw [routeS, if_neg (fun hh => hh hct), if_pos (by omega)]; done) | (refine fpure ?_; refine ⟨?_, rfl⟩; rw [routeS, if_neg (fun hh => hh hct), if_neg (by omega), if_pos (by omega)]; done) | (refine fpure ?_; refine ⟨?_, rfl⟩; have he : viE t.length (gt l u) = 2 := (by rw [viE, if_pos (by omega)]); have hf := ferr_at (f := (fun i => viE t.length (gt l i))) hz (by show ¬ viE t.length (gt l u) = 0; rw [he]; decide) l.length (by omega); have hg : ferr (fun i => viE t.length (gt l i)) l.length = 2 := hf.trans he; rw [routeS, if_neg (fun hh => hh hct), if_neg (by omega), if_neg (by omega), if_pos (by rw [hg]; decide), hg]; done) | (refine fpure ?_; refine ⟨?_, rfl⟩; have he : viE t.length (gt l u) = 1 := (by rw [viE, if_neg (by omega), if_pos (by omega)]); have hf := ferr_at (f := (fun i => viE t.length (gt l i))) hz (by show ¬ viE t.length (gt l u) = 0; rw [he]; decide) l.length (by omega); have hg : ferr (fun i => viE t.length (gt l i)) l.length = 1 := hf.trans he; rw [routeS, if_neg (fun hh => hh hct), if_neg (by omega), if_neg (by omega), if_pos (by rw [hg]; decide), hg]; done) | (refine fpure ?_; refine ⟨?_, rfl⟩; rw [routeS, if_neg (fun hh => hh hct), if_neg (by omega), if_neg (by omega), if_neg (fun hh => hh hzz), ← hr, vF_hit (by omega) (by omega)]; done) | (refine fpure ?_; refine ⟨?_, rfl⟩; rw [routeS, if_neg (fun hh => hh hct), if_neg (by omega), if_neg (by omega), if_neg (fun hh => hh hzz), ← hr, vF_end (by omega)]; done)
        ·
         try simp only [decide_eq_true_eq, decide_eq_false_iff_not, Bool.not_eq_true', Bool.not_eq_false', beq_iff_eq, beq_eq_false_iff_ne, ne_eq] at h8
         refine Ry ?_
         refine Rq ?_
         refine Ry ?_
         refine Rq ?_
         refine Ry ?_
         refine Rq ?_
         refine Ry ?_
         refine Rq ?_
         refine Ry ?_
         refine Rq ?_
         refine Rq ?_
         have tr : ∀ a b c d e f g h i j k m n o p q r s t u v w x y z A B C D : AV, let l := lc_rroute_ok a b c d e f g h i j k m n o p q r s t; trim ((49,D)::(48,C)::(47,B)::(46,A)::(45,z)::(44,y)::(43,x)::(42,w)::(41,v)::(40,u)::l) l = [(0,a),(1,b),(2,c),(6,d),(7,e),(8,f),(10,g),(11,h),(15,i),(19,j),(25,k),(26,m),(27,n),(28,o),(29,p),(39,q),(49,D),(54,s),(87,t)] := by intros; rfl
         refine R_nil (tr ..) ?_; clear tr
         refine then_n ?_
         refine cdd (fun h9 => ?_) (fun h9 => ?_)
         ·
          try simp only [decide_eq_true_eq, decide_eq_false_iff_not, Bool.not_eq_true', Bool.not_eq_false', beq_iff_eq, beq_eq_false_iff_ne, ne_eq] at h9
          refine at_seq rfl ?_
          refine rg rfl ?_
          refine Rq ?_
          refine Rq ?_
          have tr : ∀ a b c d e f g h i j k m n o p q r s t u v : AV, let l := lc_rroute_ok a b c d e f g h i j k m n o p q r s t; trim ((7,v)::(6,u)::l) l = [(0,a),(1,b),(2,c),(6,u),(7,v),(8,f),(10,g),(11,h),(15,i),(19,j),(25,k),(26,m),(27,n),(28,o),(29,p),(39,q),(49,r),(54,s),(87,t)] := by intros; rfl
          refine R_nil (tr ..) ?_; clear tr
          refine then_n ?_
          refine at_ret rfl ?_
          refine blk_r ?_
          refine then_r ?_
          refine then_r ?_
          refine blk_r ?_
          refine then_r ?_
          first | (refine fpure ?_; refine ⟨?_, rfl⟩; rw [routeS, if_pos (by assumption)]; done) | (refine fpure ?_; refine ⟨?_, rfl⟩; rw [routeS, if_neg (fun hh => hh hct), if_pos (by omega)]; done) | (refine fpure ?_; refine ⟨?_, rfl⟩; rw [routeS, if_neg (fun hh => hh hct), if_neg (by omega), if_pos (by omega)]; done) | (refine fpure ?_; refine ⟨?_, rfl⟩; have he : viE t.length (gt l u) = 2 := (by rw [viE, if_pos (by omega)]); have hf := ferr_at (f := (fun i => viE t.length (gt l i))) hz (by show ¬ viE t.length (gt l u) = 0; rw [he]; decide) l.length (by omega); have hg : ferr (fun i => viE t.length (gt l i)) l.length = 2 := hf.trans he; rw [routeS, if_neg (fun hh => hh hct), if_neg (by omega), if_neg (by omega), if_pos (by rw [hg]; decide), hg]; done) | (refine fpure ?_; refine ⟨?_, rfl⟩; have he : viE t.length (gt l u) = 1 := (by rw [viE, if_neg (by omega), if_pos (by omega)]); have hf := ferr_at (f := (fun i => viE t.length (gt l i))) hz (by show ¬ viE t.length (gt l u) = 0; rw [he]; decide) l.length (by omega); have hg : ferr (fun i => viE t.length (gt l i)) l.length = 1 := hf.trans he; rw [routeS, if_neg (fun hh => hh hct), if_neg (by omega), if_neg (by omega), if_pos (by rw [hg]; decide), hg]; done) | (refine fpure ?_; refine ⟨?_, rfl⟩; rw [routeS, if_neg (fun hh => hh hct), if_neg (by omega), if_neg (by omega), if_neg (fun hh => hh hzz), ← hr, vF_hit (by omega) (by omega)]; done) | (refine fpure ?_; refine ⟨?_, rfl⟩; rw [routeS, if_neg (fun hh => hh hct), if_neg (by omega), if_neg (by omega), if_neg (fun hh => hh hzz), ← hr, vF_end (by omega)]; done)
         ·
          try simp only [decide_eq_true_eq, decide_eq_false_iff_not, Bool.not_eq_true', Bool.not_eq_false', beq_iff_eq, beq_eq_false_iff_ne, ne_eq] at h9
          refine at_skip rfl ?_
          refine blk_n ?_
          refine then_n ?_
          refine rg rfl ?_
          refine Rq ?_
          refine Rq ?_
          have tr : ∀ a b c d e f g h i j k m n o p q r s t u v : AV, let l := lc_rroute_ok a b c d e f g h i j k m n o p q r s t; trim ((28,v)::(50,u)::l) l = [(0,a),(1,b),(2,c),(6,d),(7,e),(8,f),(10,g),(11,h),(15,i),(19,j),(25,k),(26,m),(27,n),(28,v),(29,p),(39,q),(49,r),(54,s),(87,t)] := by intros; rfl
          refine R_nil (tr ..) ?_; clear tr
          refine then_n ?_
          exact ⟨_, _, ⟨u + 1, X ++ [some (viC (gt l u))], _, _, _, _, _, _, rfl, rfl, by simp; rfl, by omega, by exact ferr_ok hz (by show viE t.length (gt l u) = 0; rw [viE, if_neg (by omega), if_neg (by omega)])⟩, by rfl, by omega⟩
     ·
      try simp only [decide_eq_true_eq, decide_eq_false_iff_not, Bool.not_eq_true', Bool.not_eq_false', beq_iff_eq, beq_eq_false_iff_ne, ne_eq] at h5
      refine at_exit rfl ?_
      refine then_x ?_
      refine then_x ?_
      refine blk_x ?_
      refine then_n ?_
      refine at_seq rfl ?_
      refine at_seq rfl ?_
      refine rg rfl ?_
      have hzz : ferr (fun i => viE t.length (gt l i)) l.length = 0 := by rw [← show u = l.length by omega]; exact hz
      have hall := vi_all hzz
      refine Rq ?_
      have tr : ∀ a b c d e f g h i j k m n o p q r s t u : AV, let l := lc_rroute_ok a b c d e f g h i j k m n o p q r s t; trim ((11,u)::l) l = [(0,a),(1,b),(2,c),(6,d),(7,e),(8,f),(10,g),(11,u),(15,i),(19,j),(25,k),(26,m),(27,n),(28,o),(29,p),(39,q),(49,r),(54,s),(87,t)] := by intros; rfl
      refine R_nil (tr ..) ?_; clear tr
      refine then_n ?_
      refine at_block rfl ?_
      refine loop_n rfl (fun mm kv H' => ∃ z : Nat, ∃ X2 : Heap, ∃ x6 x7 x54 x87 : AV, (kv = [(6, x6), (7, x7), (11, AV.i z), (54, x54), (87, x87)]) ∧ (mm = l.length - z) ∧ (H' = H ++ X2) ∧ (1 ≤ z) ∧ (vF t l rest (l.length - z) z = vF t l rest (l.length - 1) 1)) ⟨1, X, _, _, _, _, rfl, rfl, by rfl, by omega, by rfl⟩ (by rfl) ?_
      rintro mm kv H2 ⟨z, X2, x6, x7, x54, x87, rfl, rfl, hX2, hz1, hr⟩
      have tr : ∀ a b c d e f g h i j k m n o p q r s t u v w x y : AV, upd [(0,a),(1,b),(2,c),(6,d),(7,e),(8,f),(10,g),(11,h),(15,i),(19,j),(25,k),(26,m),(27,n),(28,o),(29,p),(39,q),(49,r),(54,s),(87,t)] [(6,u),(7,v),(11,w),(54,x),(87,y)] = [(0,a),(1,b),(2,c),(6,u),(7,v),(8,f),(10,g),(11,w),(15,i),(19,j),(25,k),(26,m),(27,n),(28,o),(29,p),(39,q),(49,r),(54,x),(87,y)] := by intros; rfl
      refine W_to (tr ..) ?_; clear tr
      subst hX2
      refine at_seq rfl ?_
      refine at_seq rfl ?_
      refine rg rfl ?_
      refine Rq ?_
      refine Rq ?_
      refine Rq ?_
      refine Rq ?_
      have tr : ∀ a b c d e f g h i j k m n o p q r s t u v w x : AV, let l := lc_rroute_ok a b c d e f g h i j k m n o p q r s t; trim ((54,x)::(53,w)::(52,v)::(51,u)::l) l = [(0,a),(1,b),(2,c),(6,d),(7,e),(8,f),(10,g),(11,h),(15,i),(19,j),(25,k),(26,m),(27,n),(28,o),(29,p),(39,q),(49,r),(54,x),(87,t)] := by intros; rfl
      refine R_nil (tr ..) ?_; clear tr
      refine then_n ?_
      refine cdd (fun h10 => ?_) (fun h10 => ?_)
      ·
       try simp only [decide_eq_true_eq, decide_eq_false_iff_not, Bool.not_eq_true', Bool.not_eq_false', beq_iff_eq, beq_eq_false_iff_ne, ne_eq] at h10
       refine at_skip rfl ?_
       refine then_n ?_
       refine at_seq rfl ?_
       refine at_block rfl ?_
       refine at_seq rfl ?_
       refine rd rfl rfl ?_
       have a1 := hall z (by omega)
       have a2 := hall (z - 1) (by omega)
       have a3 : (gt l (z - 1)).g.toNat < t.length := by omega
       have a4 : (gt l z).g.toNat < t.length := by omega
       have a5 := hlen (gt l (z - 1)).g.toNat a3
       have a6 : (gt l z).g.toNat < (gt t (gt l (z - 1)).g.toNat).length := by omega
       refine Qq ?_
       refine Qq ?_
       refine Qq ?_
       refine Qq ?_
       refine Qq ?_
       refine Qq ?_
       refine Qq ?_
       refine Qq ?_
       refine Qq ?_
       refine Qq ?_
       refine Qq ?_
       refine Qq ?_
       refine Qq ?_
       refine Qq ?_
       refine Qq ?_
       refine Qq ?_
       refine Qq ?_
       refine Qq ?_
       refine Qq ?_
       refine Qq ?_
       refine Qq ?_
       refine Qq ?_
       refine Qq ?_
       refine Qq ?_
       refine Qq ?_
       refine Qq ?_
       refine Qq ?_
       refine Qq ?_
       refine Qq ?_
       refine Qq ?_
       refine Qq ?_
       refine Q_nil ?_
       have tr : ∀ a b c d e f g h i j k m n o p q r s t u v w x y z A B C D E F G H I J K L M N O P Q R S T U V W X Y : AV, let l := lc_rroute_ok a b c d e f g h i j k m n o p q r s t; trim ((87,Y)::(86,X)::(85,W)::(84,V)::(83,U)::(82,T)::(81,S)::(80,R)::(79,Q)::(78,P)::(77,O)::(76,N)::(75,M)::(74,L)::(73,K)::(72,J)::(71,I)::(70,H)::(69,G)::(68,F)::(67,E)::(66,D)::(65,C)::(64,B)::(63,A)::(62,z)::(61,y)::(60,x)::(59,w)::(58,v)::(57,u)::l) l = [(0,a),(1,b),(2,c),(6,d),(7,e),(8,f),(10,g),(11,h),(15,i),(19,j),(25,k),(26,m),(27,n),(28,o),(29,p),(39,q),(49,r),(54,s),(87,Y)] := by intros; rfl
       refine R_nil (tr ..) ?_; clear tr
       refine then_n ?_
       refine cdd (fun h11 => ?_) (fun h11 => ?_)
       ·
        try simp only [decide_eq_true_eq, decide_eq_false_iff_not, Bool.not_eq_true', Bool.not_eq_false', beq_iff_eq, beq_eq_false_iff_ne, ne_eq] at h11
        refine at_seq rfl ?_
        refine rg rfl ?_
        refine Rq ?_
        refine Rq ?_
        refine Rq ?_
        have tr : ∀ a b c d e f g h i j k m n o p q r s t u v w : AV, let l := lc_rroute_ok a b c d e f g h i j k m n o p q r s t; trim ((7,w)::(6,v)::(88,u)::l) l = [(0,a),(1,b),(2,c),(6,v),(7,w),(8,f),(10,g),(11,h),(15,i),(19,j),(25,k),(26,m),(27,n),(28,o),(29,p),(39,q),(49,r),(54,s),(87,t)] := by intros; rfl
        refine R_nil (tr ..) ?_; clear tr
        refine then_n ?_
        refine at_ret rfl ?_
        refine blk_r ?_
        refine then_r ?_
        refine then_r ?_
        refine blk_r ?_
        refine then_r ?_
        first | (refine fpure ?_; refine ⟨?_, rfl⟩; rw [routeS, if_pos (by assumption)]; done) | (refine fpure ?_; refine ⟨?_, rfl⟩; rw [routeS, if_neg (fun hh => hh hct), if_pos (by omega)]; done) | (refine fpure ?_; refine ⟨?_, rfl⟩; rw [routeS, if_neg (fun hh => hh hct), if_neg (by omega), if_pos (by omega)]; done) | (refine fpure ?_; refine ⟨?_, rfl⟩; have he : viE t.length (gt l u) = 2 := (by rw [viE, if_pos (by omega)]); have hf := ferr_at (f := (fun i => viE t.length (gt l i))) hz (by show ¬ viE t.length (gt l u) = 0; rw [he]; decide) l.length (by omega); have hg : ferr (fun i => viE t.length (gt l i)) l.length = 2 := hf.trans he; rw [routeS, if_neg (fun hh => hh hct), if_neg (by omega), if_neg (by omega), if_pos (by rw [hg]; decide), hg]; done) | (refine fpure ?_; refine ⟨?_, rfl⟩; have he : viE t.length (gt l u) = 1 := (by rw [viE, if_neg (by omega), if_pos (by omega)]); have hf := ferr_at (f := (fun i => viE t.length (gt l i))) hz (by show ¬ viE t.length (gt l u) = 0; rw [he]; decide) l.length (by omega); have hg : ferr (fun i => viE t.length (gt l i)) l.length = 1 := hf.trans he; rw [routeS, if_neg (fun hh => hh hct), if_neg (by omega), if_neg (by omega), if_pos (by rw [hg]; decide), hg]; done) | (refine fpure ?_; refine ⟨?_, rfl⟩; rw [routeS, if_neg (fun hh => hh hct), if_neg (by omega), if_neg (by omega), if_neg (fun hh => hh hzz), ← hr, vF_hit (by omega) (by omega)]; done) | (refine fpure ?_; refine ⟨?_, rfl⟩; rw [routeS, if_neg (fun hh => hh hct), if_neg (by omega), if_neg (by omega), if_neg (fun hh => hh hzz), ← hr, vF_end (by omega)]; done)
       ·
        try simp only [decide_eq_true_eq, decide_eq_false_iff_not, Bool.not_eq_true', Bool.not_eq_false', beq_iff_eq, beq_eq_false_iff_ne, ne_eq] at h11
        refine at_skip rfl ?_
        refine blk_n ?_
        refine then_n ?_
        refine rg rfl ?_
        refine Rq ?_
        refine Rq ?_
        refine Rq ?_
        have tr : ∀ a b c d e f g h i j k m n o p q r s t u v w : AV, let l := lc_rroute_ok a b c d e f g h i j k m n o p q r s t; trim ((11,w)::(56,v)::(55,u)::l) l = [(0,a),(1,b),(2,c),(6,d),(7,e),(8,f),(10,g),(11,w),(15,i),(19,j),(25,k),(26,m),(27,n),(28,o),(29,p),(39,q),(49,r),(54,s),(87,t)] := by intros; rfl
        refine R_nil (tr ..) ?_; clear tr
        refine then_n ?_
        exact ⟨_, _, ⟨z + 1, X2, _, _, _, _, rfl, rfl, by rfl, by omega, by exact (vF_miss (by omega) (by omega)).symm.trans hr⟩, by rfl, by omega⟩
      ·
       try simp only [decide_eq_true_eq, decide_eq_false_iff_not, Bool.not_eq_true', Bool.not_eq_false', beq_iff_eq, beq_eq_false_iff_ne, ne_eq] at h10
       refine at_exit rfl ?_
       refine then_x ?_
       refine then_x ?_
       refine blk_x ?_
       refine then_n ?_
       refine at_seq rfl ?_
       refine rg rfl ?_
       refine Rq ?_
       refine Rq ?_
       have tr : ∀ a b c d e f g h i j k m n o p q r s t u v : AV, let l := lc_rroute_ok a b c d e f g h i j k m n o p q r s t; trim ((7,v)::(6,u)::l) l = [(0,a),(1,b),(2,c),(6,u),(7,v),(8,f),(10,g),(11,h),(15,i),(19,j),(25,k),(26,m),(27,n),(28,o),(29,p),(39,q),(49,r),(54,s),(87,t)] := by intros; rfl
       refine R_nil (tr ..) ?_; clear tr
       refine then_n ?_
       refine at_ret rfl ?_
       first | (refine fpure ?_; refine ⟨?_, rfl⟩; rw [routeS, if_pos (by assumption)]; done) | (refine fpure ?_; refine ⟨?_, rfl⟩; rw [routeS, if_neg (fun hh => hh hct), if_pos (by omega)]; done) | (refine fpure ?_; refine ⟨?_, rfl⟩; rw [routeS, if_neg (fun hh => hh hct), if_neg (by omega), if_pos (by omega)]; done) | (refine fpure ?_; refine ⟨?_, rfl⟩; have he : viE t.length (gt l u) = 2 := (by rw [viE, if_pos (by omega)]); have hf := ferr_at (f := (fun i => viE t.length (gt l i))) hz (by show ¬ viE t.length (gt l u) = 0; rw [he]; decide) l.length (by omega); have hg : ferr (fun i => viE t.length (gt l i)) l.length = 2 := hf.trans he; rw [routeS, if_neg (fun hh => hh hct), if_neg (by omega), if_neg (by omega), if_pos (by rw [hg]; decide), hg]; done) | (refine fpure ?_; refine ⟨?_, rfl⟩; have he : viE t.length (gt l u) = 1 := (by rw [viE, if_neg (by omega), if_pos (by omega)]); have hf := ferr_at (f := (fun i => viE t.length (gt l i))) hz (by show ¬ viE t.length (gt l u) = 0; rw [he]; decide) l.length (by omega); have hg : ferr (fun i => viE t.length (gt l i)) l.length = 1 := hf.trans he; rw [routeS, if_neg (fun hh => hh hct), if_neg (by omega), if_neg (by omega), if_pos (by rw [hg]; decide), hg]; done) | (refine fpure ?_; refine ⟨?_, rfl⟩; rw [routeS, if_neg (fun hh => hh hct), if_neg (by omega), if_neg (by omega), if_neg (fun hh => hh hzz), ← hr, vF_hit (by omega) (by omega)]; done) | (refine fpure ?_; refine ⟨?_, rfl⟩; rw [routeS, if_neg (fun hh => hh hct), if_neg (by omega), if_neg (by omega), if_neg (fun hh => hh hzz), ← hr, vF_end (by omega)]; done)

end Go.Proofs.YtocmcdejkoejhaaDoor
