/-
  Walks of chapter 48. The steps are written by program (walk.py).
-/
import Derived.Test.YtocmcdejkoejhaaDoorK3
import Derived.Test.YtocmcdejkoejhaaDoorRA
set_option linter.unusedSimpArgs false
set_option linter.unusedVariables false
set_option maxHeartbeats 1000000
set_option maxRecDepth 20000
namespace Go.Proofs.YtocmcdejkoejhaaDoor
open Go Go.Am
abbrev lc_small_ok (a b c d e f g h : AV) : Env := [(0,a),(2,b),(3,c),(5,d),(6,e),(7,f),(8,g),(9,h)]
theorem small_ok (lim : Nat) (H : Heap) (t : List (List Int)) (hL : t.length ≤ 9223372036854775807) : ACall sig lim 23 [rowsAV t] H fun r H' => (∃ b : Bool, r = .v (.bool b) ∧ (b = true → t.length ≤ 50)) ∧ H' = H := by
 refine ACall_pure (fa := fa23) rfl rfl rfl rfl ?_
 have tr : ∀ a0 : AV, env0 fa23.keep [a0] = [(0,a0),(2,.any),(3,.any),(5,.any),(6,.any),(7,.any),(8,.any),(9,.any)] := fun a0 => rfl
 refine W_to (tr _) ?_; clear tr
 refine at_seq rfl ?_
 refine rg rfl ?_
 refine Rq ?_
 have tr : ∀ a b c d e f g h i : AV, let l := lc_small_ok a b c d e f g h; trim ((2,i)::l) l = [(0,a),(2,i),(3,c),(5,d),(6,e),(7,f),(8,g),(9,h)] := by intros; rfl
 refine R_nil (tr ..) ?_; clear tr
 refine then_n ?_
 refine at_seq rfl ?_
 refine rg rfl ?_
 refine Rq ?_
 have tr : ∀ a b c d e f g h i : AV, let l := lc_small_ok a b c d e f g h; trim ((3,i)::l) l = [(0,a),(2,b),(3,i),(5,d),(6,e),(7,f),(8,g),(9,h)] := by intros; rfl
 refine R_nil (tr ..) ?_; clear tr
 refine then_n ?_
 refine at_seq rfl ?_
 refine at_seq rfl ?_
 refine rg rfl ?_
 refine Rq ?_
 refine Rq ?_
 refine Rq ?_
 have tr : ∀ a b c d e f g h i j k : AV, let l := lc_small_ok a b c d e f g h; trim ((8,k)::(7,j)::(6,i)::l) l = [(0,a),(2,b),(3,c),(5,d),(6,i),(7,j),(8,k),(9,h)] := by intros; rfl
 refine R_nil (tr ..) ?_; clear tr
 refine then_n ?_
 refine at_block rfl ?_
 refine loop_n rfl (fun mm kv H' => ∃ u : Nat, ∃ n : Int, ∃ x5 x9 : AV, (kv = [(3, AV.i n), (5, x5), (8, AV.i u), (9, x9)]) ∧ (mm = t.length - u) ∧ (H' = H) ∧ (u ≤ t.length)) ⟨0, 0, _, _, rfl, rfl, rfl, by omega⟩ (by rfl) ?_
 rintro mm kv H' ⟨u, n, x5, x9, rfl, rfl, rfl, hu⟩
 have tr : ∀ a b c d e f g h i j k m : AV, upd [(0,a),(2,b),(3,c),(5,d),(6,e),(7,f),(8,g),(9,h)] [(3,i),(5,j),(8,k),(9,m)] = [(0,a),(2,b),(3,i),(5,j),(6,e),(7,f),(8,k),(9,m)] := by intros; rfl
 refine W_to (tr ..) ?_; clear tr
 refine at_seq rfl ?_
 refine rg rfl ?_
 refine Rq ?_
 have tr : ∀ a b c d e f g h i : AV, let l := lc_small_ok a b c d e f g h; trim ((9,i)::l) l = [(0,a),(2,b),(3,c),(5,d),(6,e),(7,f),(8,g),(9,i)] := by intros; rfl
 refine R_nil (tr ..) ?_; clear tr
 refine then_n ?_
 refine at_seq rfl ?_
 refine cdd (fun h1 => ?_) (fun h1 => ?_)
 ·
  try simp only [decide_eq_true_eq, decide_eq_false_iff_not, Bool.not_eq_true', Bool.not_eq_false', beq_iff_eq, beq_eq_false_iff_ne, ne_eq] at h1
  refine at_skip rfl ?_
  refine then_n ?_
  refine at_seq rfl ?_
  refine at_block rfl ?_
  refine at_seq rfl ?_
  refine rg rfl ?_
  refine Rq ?_
  refine Rq ?_
  refine Rq ?_
  have tr : ∀ a b c d e f g h i j k : AV, let l := lc_small_ok a b c d e f g h; trim ((5,k)::(11,j)::(10,i)::l) l = [(0,a),(2,b),(3,c),(5,k),(6,e),(7,f),(8,g),(9,h)] := by intros; rfl
  refine R_nil (tr ..) ?_; clear tr
  refine then_n ?_
  refine rg rfl ?_
  refine Rq ?_
  refine Rq ?_
  refine Rq ?_
  refine Rq ?_
  refine Rq ?_
  have tr : ∀ a b c d e f g h i j k m n : AV, let l := lc_small_ok a b c d e f g h; trim ((3,n)::(15,m)::(14,k)::(13,j)::(12,i)::l) l = [(0,a),(2,b),(3,n),(5,d),(6,e),(7,f),(8,g),(9,h)] := by intros; rfl
  refine R_nil (tr ..) ?_; clear tr
  refine blk_n ?_
  refine then_n ?_
  refine rg rfl ?_
  refine Rq ?_
  refine Rq ?_
  have tr : ∀ a b c d e f g h i j : AV, let l := lc_small_ok a b c d e f g h; trim ((8,j)::(16,i)::l) l = [(0,a),(2,b),(3,c),(5,d),(6,e),(7,f),(8,j),(9,h)] := by intros; rfl
  refine R_nil (tr ..) ?_; clear tr
  refine then_n ?_
  exact ⟨_, _, ⟨u + 1, _, _, _, rfl, rfl, rfl, by omega⟩, by rfl, by omega⟩
 ·
  try simp only [decide_eq_true_eq, decide_eq_false_iff_not, Bool.not_eq_true', Bool.not_eq_false', beq_iff_eq, beq_eq_false_iff_ne, ne_eq] at h1
  refine at_exit rfl ?_
  refine then_x ?_
  refine then_x ?_
  refine blk_x ?_
  refine then_n ?_
  refine at_seq rfl ?_
  refine rg rfl ?_
  refine Rq ?_
  refine Rq ?_
  refine Rq ?_
  refine Rq ?_
  refine Rp_split (fun h2 => ?_) (fun h2 => ?_)
  ·
   try simp only [decide_eq_true_eq, decide_eq_false_iff_not, Bool.not_eq_true', Bool.not_eq_false', beq_iff_eq, beq_eq_false_iff_ne, ne_eq] at h2
   refine Ry ?_
   refine Rq ?_
   refine Ry ?_
   refine Rq ?_
   refine Rq ?_
   refine Rq ?_
   have tr : ∀ a b c d e f g h i j k m n o p q : AV, let l := lc_small_ok a b c d e f g h; trim ((2,q)::(23,p)::(22,o)::(21,n)::(20,m)::(19,k)::(18,j)::(17,i)::l) l = [(0,a),(2,q),(3,c),(5,d),(6,e),(7,f),(8,g),(9,h)] := by intros; rfl
   refine R_nil (tr ..) ?_; clear tr
   refine then_n ?_
   refine at_ret rfl ?_
   refine fpure ?_
   first | exact ⟨⟨_, rfl, fun _ => by omega⟩, rfl⟩ | exact ⟨⟨_, rfl, fun hh => by cases hh⟩, rfl⟩
  ·
   try simp only [decide_eq_true_eq, decide_eq_false_iff_not, Bool.not_eq_true', Bool.not_eq_false', beq_iff_eq, beq_eq_false_iff_ne, ne_eq] at h2
   refine Rn ?_
   refine Rn ?_
   refine Rq ?_
   refine Rq ?_
   have tr : ∀ a b c d e f g h i j k m n o p q : AV, let l := lc_small_ok a b c d e f g h; trim ((2,q)::(23,p)::(22,o)::(21,n)::(20,m)::(19,k)::(18,j)::(17,i)::l) l = [(0,a),(2,q),(3,c),(5,d),(6,e),(7,f),(8,g),(9,h)] := by intros; rfl
   refine R_nil (tr ..) ?_; clear tr
   refine then_n ?_
   refine at_ret rfl ?_
   refine fpure ?_
   first | exact ⟨⟨_, rfl, fun _ => by omega⟩, rfl⟩ | exact ⟨⟨_, rfl, fun hh => by cases hh⟩, rfl⟩

abbrev lc_travel_ok (a b c d e f g h i j k m n o p q r s t u v w x y z : AV) : Env := [(0,a),(2,b),(4,c),(5,d),(6,e),(7,f),(8,g),(9,h),(13,i),(17,j),(18,k),(19,m),(20,n),(27,o),(29,p),(30,q),(31,r),(32,s),(36,t),(37,u),(38,v),(39,w),(43,x),(50,y),(58,z)]
theorem travel_ok (lim : Nat) (H : Heap) (t : List (List Int)) : ACall sig lim 28 [rowsAV t] H fun r H' => r = AV.i (ctS t) ∧ H' = H := by
 refine ACall_pure (fa := fa28) rfl rfl rfl rfl ?_
 have tr : ∀ a0 : AV, env0 fa28.keep [a0] = [(0,a0),(2,.any),(4,.any),(5,.any),(6,.any),(7,.any),(8,.any),(9,.any),(13,.any),(17,.any),(18,.any),(19,.any),(20,.any),(27,.any),(29,.any),(30,.any),(31,.any),(32,.any),(36,.any),(37,.any),(38,.any),(39,.any),(43,.any),(50,.any),(58,.any)] := fun a0 => rfl
 refine W_to (tr _) ?_; clear tr
 refine at_seq rfl ?_
 refine rg rfl ?_
 refine Rq ?_
 have tr : ∀ a b c d e f g h i j k m n o p q r s t u v w x y z A : AV, let l := lc_travel_ok a b c d e f g h i j k m n o p q r s t u v w x y z; trim ((2,A)::l) l = [(0,a),(2,A),(4,c),(5,d),(6,e),(7,f),(8,g),(9,h),(13,i),(17,j),(18,k),(19,m),(20,n),(27,o),(29,p),(30,q),(31,r),(32,s),(36,t),(37,u),(38,v),(39,w),(43,x),(50,y),(58,z)] := by intros; rfl
 refine R_nil (tr ..) ?_; clear tr
 refine then_n ?_
 refine at_seq rfl ?_
 refine at_block rfl ?_
 refine at_seq rfl ?_
 refine rg rfl ?_
 refine Rq ?_
 refine Rq ?_
 refine Rq ?_
 refine Rq ?_
 have tr : ∀ a b c d e f g h i j k m n o p q r s t u v w x y z A B C D : AV, let l := lc_travel_ok a b c d e f g h i j k m n o p q r s t u v w x y z; trim ((9,D)::(12,C)::(11,B)::(10,A)::l) l = [(0,a),(2,b),(4,c),(5,d),(6,e),(7,f),(8,g),(9,D),(13,i),(17,j),(18,k),(19,m),(20,n),(27,o),(29,p),(30,q),(31,r),(32,s),(36,t),(37,u),(38,v),(39,w),(43,x),(50,y),(58,z)] := by intros; rfl
 refine R_nil (tr ..) ?_; clear tr
 refine then_n ?_
 refine cdd (fun h1 => ?_) (fun h1 => ?_)
 ·
  try simp only [decide_eq_true_eq, decide_eq_false_iff_not, Bool.not_eq_true', Bool.not_eq_false', beq_iff_eq, beq_eq_false_iff_ne, ne_eq] at h1
  refine at_seq rfl ?_
  refine rg rfl ?_
  refine Rq ?_
  have tr : ∀ a b c d e f g h i j k m n o p q r s t u v w x y z A : AV, let l := lc_travel_ok a b c d e f g h i j k m n o p q r s t u v w x y z; trim ((2,A)::l) l = [(0,a),(2,A),(4,c),(5,d),(6,e),(7,f),(8,g),(9,h),(13,i),(17,j),(18,k),(19,m),(20,n),(27,o),(29,p),(30,q),(31,r),(32,s),(36,t),(37,u),(38,v),(39,w),(43,x),(50,y),(58,z)] := by intros; rfl
  refine R_nil (tr ..) ?_; clear tr
  refine then_n ?_
  refine at_ret rfl ?_
  refine blk_r ?_
  refine then_r ?_
  first | (refine fpure ?_; refine ⟨?_, rfl⟩; rw [ct_a (by omega)]; done) | (refine fpure ?_; refine ⟨?_, rfl⟩; rw [ct_b (by omega) (by omega)]; done) | (refine fpure ?_; refine ⟨?_, rfl⟩; rw [ct_c (u := u) (by omega) (by omega) (by omega) hln (by omega)]; done) | (refine fpure ?_; refine ⟨?_, rfl⟩; rw [ct_d (by omega) (by omega) hll (u := v) (j := w) (by omega) (by omega) hro hw0 (e := 2) (by rw [trE, if_pos (by omega)]) (by decide)]; done) | (refine fpure ?_; refine ⟨?_, rfl⟩; rw [ct_d (by omega) (by omega) hll (u := v) (j := w) (by omega) (by omega) hro hw0 (e := 11) (by rw [trE, if_neg (by omega), if_pos (by omega)]) (by decide)]; done) | (refine fpure ?_; refine ⟨?_, rfl⟩; rw [ct_d (by omega) (by omega) hll (u := v) (j := w) (by omega) (by omega) hro hw0 (e := 13) (by rw [trE, if_neg (by omega), if_neg (by omega), if_pos (by omega)]) (by decide)]; done) | (refine fpure ?_; refine ⟨?_, rfl⟩; rw [ct_e (by omega) (by omega) hll (by rw [← show v = t.length by omega]; exact hro)]; done)
 ·
  try simp only [decide_eq_true_eq, decide_eq_false_iff_not, Bool.not_eq_true', Bool.not_eq_false', beq_iff_eq, beq_eq_false_iff_ne, ne_eq] at h1
  refine at_seq rfl ?_
  refine rg rfl ?_
  refine Rq ?_
  refine Rq ?_
  refine Rq ?_
  refine Rq ?_
  have tr : ∀ a b c d e f g h i j k m n o p q r s t u v w x y z A B C D : AV, let l := lc_travel_ok a b c d e f g h i j k m n o p q r s t u v w x y z; trim ((13,D)::(16,C)::(15,B)::(14,A)::l) l = [(0,a),(2,b),(4,c),(5,d),(6,e),(7,f),(8,g),(9,h),(13,D),(17,j),(18,k),(19,m),(20,n),(27,o),(29,p),(30,q),(31,r),(32,s),(36,t),(37,u),(38,v),(39,w),(43,x),(50,y),(58,z)] := by intros; rfl
  refine R_nil (tr ..) ?_; clear tr
  refine then_n ?_
  refine cdd (fun h2 => ?_) (fun h2 => ?_)
  ·
   try simp only [decide_eq_true_eq, decide_eq_false_iff_not, Bool.not_eq_true', Bool.not_eq_false', beq_iff_eq, beq_eq_false_iff_ne, ne_eq] at h2
   refine at_seq rfl ?_
   refine rg rfl ?_
   refine Rq ?_
   have tr : ∀ a b c d e f g h i j k m n o p q r s t u v w x y z A : AV, let l := lc_travel_ok a b c d e f g h i j k m n o p q r s t u v w x y z; trim ((2,A)::l) l = [(0,a),(2,A),(4,c),(5,d),(6,e),(7,f),(8,g),(9,h),(13,i),(17,j),(18,k),(19,m),(20,n),(27,o),(29,p),(30,q),(31,r),(32,s),(36,t),(37,u),(38,v),(39,w),(43,x),(50,y),(58,z)] := by intros; rfl
   refine R_nil (tr ..) ?_; clear tr
   refine then_n ?_
   refine at_ret rfl ?_
   refine blk_r ?_
   refine then_r ?_
   first | (refine fpure ?_; refine ⟨?_, rfl⟩; rw [ct_a (by omega)]; done) | (refine fpure ?_; refine ⟨?_, rfl⟩; rw [ct_b (by omega) (by omega)]; done) | (refine fpure ?_; refine ⟨?_, rfl⟩; rw [ct_c (u := u) (by omega) (by omega) (by omega) hln (by omega)]; done) | (refine fpure ?_; refine ⟨?_, rfl⟩; rw [ct_d (by omega) (by omega) hll (u := v) (j := w) (by omega) (by omega) hro hw0 (e := 2) (by rw [trE, if_pos (by omega)]) (by decide)]; done) | (refine fpure ?_; refine ⟨?_, rfl⟩; rw [ct_d (by omega) (by omega) hll (u := v) (j := w) (by omega) (by omega) hro hw0 (e := 11) (by rw [trE, if_neg (by omega), if_pos (by omega)]) (by decide)]; done) | (refine fpure ?_; refine ⟨?_, rfl⟩; rw [ct_d (by omega) (by omega) hll (u := v) (j := w) (by omega) (by omega) hro hw0 (e := 13) (by rw [trE, if_neg (by omega), if_neg (by omega), if_pos (by omega)]) (by decide)]; done) | (refine fpure ?_; refine ⟨?_, rfl⟩; rw [ct_e (by omega) (by omega) hll (by rw [← show v = t.length by omega]; exact hro)]; done)
  ·
   try simp only [decide_eq_true_eq, decide_eq_false_iff_not, Bool.not_eq_true', Bool.not_eq_false', beq_iff_eq, beq_eq_false_iff_ne, ne_eq] at h2
   refine at_skip rfl ?_
   refine blk_n ?_
   refine then_n ?_
   refine at_seq rfl ?_
   refine at_seq rfl ?_
   refine rg rfl ?_
   refine Rq ?_
   refine Rq ?_
   refine Rq ?_
   have tr : ∀ a b c d e f g h i j k m n o p q r s t u v w x y z A B C : AV, let l := lc_travel_ok a b c d e f g h i j k m n o p q r s t u v w x y z; trim ((19,C)::(18,B)::(17,A)::l) l = [(0,a),(2,b),(4,c),(5,d),(6,e),(7,f),(8,g),(9,h),(13,i),(17,A),(18,B),(19,C),(20,n),(27,o),(29,p),(30,q),(31,r),(32,s),(36,t),(37,u),(38,v),(39,w),(43,x),(50,y),(58,z)] := by intros; rfl
   refine R_nil (tr ..) ?_; clear tr
   refine then_n ?_
   refine at_block rfl ?_
   refine loop_n rfl (fun mm kv H' => ∃ u : Nat, ∃ x2 x4 x20 x27 : AV, (kv = [(2, x2), (4, x4), (19, AV.i u), (20, x20), (27, x27)]) ∧ (mm = t.length - u) ∧ (H' = H) ∧ (u ≤ t.length) ∧ (ferr (lnE t) u = 0)) ⟨0, _, _, _, _, rfl, rfl, rfl, by omega, by rfl⟩ (by rfl) ?_
   rintro mm kv H' ⟨u, x2, x4, x20, x27, rfl, rfl, rfl, hu, hln⟩
   have tr : ∀ a b c d e f g h i j k m n o p q r s t u v w x y z A B C D E : AV, upd [(0,a),(2,b),(4,c),(5,d),(6,e),(7,f),(8,g),(9,h),(13,i),(17,j),(18,k),(19,m),(20,n),(27,o),(29,p),(30,q),(31,r),(32,s),(36,t),(37,u),(38,v),(39,w),(43,x),(50,y),(58,z)] [(2,A),(4,B),(19,C),(20,D),(27,E)] = [(0,a),(2,A),(4,B),(5,d),(6,e),(7,f),(8,g),(9,h),(13,i),(17,j),(18,k),(19,C),(20,D),(27,E),(29,p),(30,q),(31,r),(32,s),(36,t),(37,u),(38,v),(39,w),(43,x),(50,y),(58,z)] := by intros; rfl
   refine W_to (tr ..) ?_; clear tr
   obtain ⟨H, hHH⟩ : ∃ x, x = H' := ⟨_, rfl⟩
   subst hHH
   refine at_seq rfl ?_
   refine rg rfl ?_
   refine Rq ?_
   have tr : ∀ a b c d e f g h i j k m n o p q r s t u v w x y z A : AV, let l := lc_travel_ok a b c d e f g h i j k m n o p q r s t u v w x y z; trim ((20,A)::l) l = [(0,a),(2,b),(4,c),(5,d),(6,e),(7,f),(8,g),(9,h),(13,i),(17,j),(18,k),(19,m),(20,A),(27,o),(29,p),(30,q),(31,r),(32,s),(36,t),(37,u),(38,v),(39,w),(43,x),(50,y),(58,z)] := by intros; rfl
   refine R_nil (tr ..) ?_; clear tr
   refine then_n ?_
   refine at_seq rfl ?_
   refine cdd (fun h3 => ?_) (fun h3 => ?_)
   ·
    try simp only [decide_eq_true_eq, decide_eq_false_iff_not, Bool.not_eq_true', Bool.not_eq_false', beq_iff_eq, beq_eq_false_iff_ne, ne_eq] at h3
    refine at_skip rfl ?_
    refine then_n ?_
    refine at_seq rfl ?_
    refine at_block rfl ?_
    refine at_seq rfl ?_
    refine rg rfl ?_
    refine Rq ?_
    refine Rq ?_
    refine Rq ?_
    have tr : ∀ a b c d e f g h i j k m n o p q r s t u v w x y z A B C : AV, let l := lc_travel_ok a b c d e f g h i j k m n o p q r s t u v w x y z; trim ((4,C)::(22,B)::(21,A)::l) l = [(0,a),(2,b),(4,C),(5,d),(6,e),(7,f),(8,g),(9,h),(13,i),(17,j),(18,k),(19,m),(20,n),(27,o),(29,p),(30,q),(31,r),(32,s),(36,t),(37,u),(38,v),(39,w),(43,x),(50,y),(58,z)] := by intros; rfl
    refine R_nil (tr ..) ?_; clear tr
    refine then_n ?_
    refine at_seq rfl ?_
    refine rg rfl ?_
    refine Rq ?_
    refine Rq ?_
    refine Rq ?_
    refine Rq ?_
    refine Rq ?_
    have tr : ∀ a b c d e f g h i j k m n o p q r s t u v w x y z A B C D E : AV, let l := lc_travel_ok a b c d e f g h i j k m n o p q r s t u v w x y z; trim ((27,E)::(26,D)::(25,C)::(24,B)::(23,A)::l) l = [(0,a),(2,b),(4,c),(5,d),(6,e),(7,f),(8,g),(9,h),(13,i),(17,j),(18,k),(19,m),(20,n),(27,E),(29,p),(30,q),(31,r),(32,s),(36,t),(37,u),(38,v),(39,w),(43,x),(50,y),(58,z)] := by intros; rfl
    refine R_nil (tr ..) ?_; clear tr
    refine then_n ?_
    refine cdd (fun h4 => ?_) (fun h4 => ?_)
    ·
     try simp only [decide_eq_true_eq, decide_eq_false_iff_not, Bool.not_eq_true', Bool.not_eq_false', beq_iff_eq, beq_eq_false_iff_ne, ne_eq] at h4
     refine at_seq rfl ?_
     refine rg rfl ?_
     refine Rq ?_
     have tr : ∀ a b c d e f g h i j k m n o p q r s t u v w x y z A : AV, let l := lc_travel_ok a b c d e f g h i j k m n o p q r s t u v w x y z; trim ((2,A)::l) l = [(0,a),(2,A),(4,c),(5,d),(6,e),(7,f),(8,g),(9,h),(13,i),(17,j),(18,k),(19,m),(20,n),(27,o),(29,p),(30,q),(31,r),(32,s),(36,t),(37,u),(38,v),(39,w),(43,x),(50,y),(58,z)] := by intros; rfl
     refine R_nil (tr ..) ?_; clear tr
     refine then_n ?_
     refine at_ret rfl ?_
     refine blk_r ?_
     refine then_r ?_
     refine then_r ?_
     refine blk_r ?_
     refine then_r ?_
     first | (refine fpure ?_; refine ⟨?_, rfl⟩; rw [ct_a (by omega)]; done) | (refine fpure ?_; refine ⟨?_, rfl⟩; rw [ct_b (by omega) (by omega)]; done) | (refine fpure ?_; refine ⟨?_, rfl⟩; rw [ct_c (u := u) (by omega) (by omega) (by omega) hln (by omega)]; done) | (refine fpure ?_; refine ⟨?_, rfl⟩; rw [ct_d (by omega) (by omega) hll (u := v) (j := w) (by omega) (by omega) hro hw0 (e := 2) (by rw [trE, if_pos (by omega)]) (by decide)]; done) | (refine fpure ?_; refine ⟨?_, rfl⟩; rw [ct_d (by omega) (by omega) hll (u := v) (j := w) (by omega) (by omega) hro hw0 (e := 11) (by rw [trE, if_neg (by omega), if_pos (by omega)]) (by decide)]; done) | (refine fpure ?_; refine ⟨?_, rfl⟩; rw [ct_d (by omega) (by omega) hll (u := v) (j := w) (by omega) (by omega) hro hw0 (e := 13) (by rw [trE, if_neg (by omega), if_neg (by omega), if_pos (by omega)]) (by decide)]; done) | (refine fpure ?_; refine ⟨?_, rfl⟩; rw [ct_e (by omega) (by omega) hll (by rw [← show v = t.length by omega]; exact hro)]; done)
    ·
     try simp only [decide_eq_true_eq, decide_eq_false_iff_not, Bool.not_eq_true', Bool.not_eq_false', beq_iff_eq, beq_eq_false_iff_ne, ne_eq] at h4
     refine at_skip rfl ?_
     refine blk_n ?_
     refine then_n ?_
     refine rg rfl ?_
     refine Rq ?_
     refine Rq ?_
     have tr : ∀ a b c d e f g h i j k m n o p q r s t u v w x y z A B : AV, let l := lc_travel_ok a b c d e f g h i j k m n o p q r s t u v w x y z; trim ((19,B)::(28,A)::l) l = [(0,a),(2,b),(4,c),(5,d),(6,e),(7,f),(8,g),(9,h),(13,i),(17,j),(18,k),(19,B),(20,n),(27,o),(29,p),(30,q),(31,r),(32,s),(36,t),(37,u),(38,v),(39,w),(43,x),(50,y),(58,z)] := by intros; rfl
     refine R_nil (tr ..) ?_; clear tr
     refine then_n ?_
     exact ⟨_, _, ⟨u + 1, _, _, _, _, rfl, rfl, rfl, by omega, by exact ferr_ok hln (by rw [lnE, if_neg (by omega)])⟩, by rfl, by omega⟩
   ·
    try simp only [decide_eq_true_eq, decide_eq_false_iff_not, Bool.not_eq_true', Bool.not_eq_false', beq_iff_eq, beq_eq_false_iff_ne, ne_eq] at h3
    refine at_exit rfl ?_
    refine then_x ?_
    refine then_x ?_
    refine blk_x ?_
    refine then_n ?_
    refine at_seq rfl ?_
    refine at_seq rfl ?_
    refine rg rfl ?_
    have hll : ferr (lnE t) t.length = 0 := by rw [← show u = t.length by omega]; exact hln
    have hlen := ln_of hll
    refine Rq ?_
    refine Rq ?_
    refine Rq ?_
    have tr : ∀ a b c d e f g h i j k m n o p q r s t u v w x y z A B C : AV, let l := lc_travel_ok a b c d e f g h i j k m n o p q r s t u v w x y z; trim ((31,C)::(30,B)::(29,A)::l) l = [(0,a),(2,b),(4,c),(5,d),(6,e),(7,f),(8,g),(9,h),(13,i),(17,j),(18,k),(19,m),(20,n),(27,o),(29,A),(30,B),(31,C),(32,s),(36,t),(37,u),(38,v),(39,w),(43,x),(50,y),(58,z)] := by intros; rfl
    refine R_nil (tr ..) ?_; clear tr
    refine then_n ?_
    refine at_block rfl ?_
    refine loop_n rfl (fun mm kv H' => ∃ v : Nat, ∃ x2 x5 x6 x7 x8 x32 x36 x37 x38 x39 x43 x50 x58 : AV, (kv = [(2, x2), (5, x5), (6, x6), (7, x7), (8, x8), (31, AV.i v), (32, x32), (36, x36), (37, x37), (38, x38), (39, x39), (43, x43), (50, x50), (58, x58)]) ∧ (mm = t.length - v) ∧ (H' = H) ∧ (v ≤ t.length) ∧ (ferr (rowE t) v = 0)) ⟨0, _, _, _, _, _, _, _, _, _, _, _, _, _, rfl, rfl, rfl, by omega, by rfl⟩ (by rfl) ?_
    rintro mm kv H' ⟨v, x2, x5, x6, x7, x8, x32, x36, x37, x38, x39, x43, x50, x58, rfl, rfl, rfl, hv, hro⟩
    have tr : ∀ a b c d e f g h i j k m n o p q r s t u v w x y z A B C D E F G H I J K L M N : AV, upd [(0,a),(2,b),(4,c),(5,d),(6,e),(7,f),(8,g),(9,h),(13,i),(17,j),(18,k),(19,m),(20,n),(27,o),(29,p),(30,q),(31,r),(32,s),(36,t),(37,u),(38,v),(39,w),(43,x),(50,y),(58,z)] [(2,A),(5,B),(6,C),(7,D),(8,E),(31,F),(32,G),(36,H),(37,I),(38,J),(39,K),(43,L),(50,M),(58,N)] = [(0,a),(2,A),(4,c),(5,B),(6,C),(7,D),(8,E),(9,h),(13,i),(17,j),(18,k),(19,m),(20,n),(27,o),(29,p),(30,q),(31,F),(32,G),(36,H),(37,I),(38,J),(39,K),(43,L),(50,M),(58,N)] := by intros; rfl
    refine W_to (tr ..) ?_; clear tr
    obtain ⟨H, hHH⟩ : ∃ x, x = H' := ⟨_, rfl⟩
    subst hHH
    refine at_seq rfl ?_
    refine rg rfl ?_
    refine Rq ?_
    have tr : ∀ a b c d e f g h i j k m n o p q r s t u v w x y z A : AV, let l := lc_travel_ok a b c d e f g h i j k m n o p q r s t u v w x y z; trim ((32,A)::l) l = [(0,a),(2,b),(4,c),(5,d),(6,e),(7,f),(8,g),(9,h),(13,i),(17,j),(18,k),(19,m),(20,n),(27,o),(29,p),(30,q),(31,r),(32,A),(36,t),(37,u),(38,v),(39,w),(43,x),(50,y),(58,z)] := by intros; rfl
    refine R_nil (tr ..) ?_; clear tr
    refine then_n ?_
    refine at_seq rfl ?_
    refine cdd (fun h5 => ?_) (fun h5 => ?_)
    ·
     try simp only [decide_eq_true_eq, decide_eq_false_iff_not, Bool.not_eq_true', Bool.not_eq_false', beq_iff_eq, beq_eq_false_iff_ne, ne_eq] at h5
     refine at_skip rfl ?_
     refine then_n ?_
     refine at_seq rfl ?_
     refine at_block rfl ?_
     refine at_seq rfl ?_
     refine rg rfl ?_
     refine Rq ?_
     refine Rq ?_
     refine Rq ?_
     refine Rq ?_
     refine Rq ?_
     have tr : ∀ a b c d e f g h i j k m n o p q r s t u v w x y z A B C D E : AV, let l := lc_travel_ok a b c d e f g h i j k m n o p q r s t u v w x y z; trim ((6,E)::(5,D)::(35,C)::(34,B)::(33,A)::l) l = [(0,a),(2,b),(4,c),(5,D),(6,E),(7,f),(8,g),(9,h),(13,i),(17,j),(18,k),(19,m),(20,n),(27,o),(29,p),(30,q),(31,r),(32,s),(36,t),(37,u),(38,v),(39,w),(43,x),(50,y),(58,z)] := by intros; rfl
     refine R_nil (tr ..) ?_; clear tr
     refine then_n ?_
     refine at_seq rfl ?_
     refine rg rfl ?_
     have hlv := hlen v (by omega)
     refine Rq ?_
     refine Rq ?_
     refine Rq ?_
     have tr : ∀ a b c d e f g h i j k m n o p q r s t u v w x y z A B C : AV, let l := lc_travel_ok a b c d e f g h i j k m n o p q r s t u v w x y z; trim ((38,C)::(37,B)::(36,A)::l) l = [(0,a),(2,b),(4,c),(5,d),(6,e),(7,f),(8,g),(9,h),(13,i),(17,j),(18,k),(19,m),(20,n),(27,o),(29,p),(30,q),(31,r),(32,s),(36,A),(37,B),(38,C),(39,w),(43,x),(50,y),(58,z)] := by intros; rfl
     refine R_nil (tr ..) ?_; clear tr
     refine then_n ?_
     refine at_block rfl ?_
     refine loop_n rfl (fun mm kv H' => ∃ w : Nat, ∃ x2 x7 x8 x39 x43 x50 x58 : AV, (kv = [(2, x2), (7, x7), (8, x8), (38, AV.i w), (39, x39), (43, x43), (50, x50), (58, x58)]) ∧ (mm = t.length - w) ∧ (H' = H) ∧ (w ≤ t.length) ∧ (ferr (trE t v) w = 0)) ⟨0, _, _, _, _, _, _, _, rfl, rfl, rfl, by omega, by rfl⟩ (by rfl) ?_
     rintro mm kv H' ⟨w, x2, x7, x8, x39, x43, x50, x58, rfl, rfl, rfl, hw, hw0⟩
     have tr : ∀ a b c d e f g h i j k m n o p q r s t u v w x y z A B C D E F G H : AV, upd [(0,a),(2,b),(4,c),(5,d),(6,e),(7,f),(8,g),(9,h),(13,i),(17,j),(18,k),(19,m),(20,n),(27,o),(29,p),(30,q),(31,r),(32,s),(36,t),(37,u),(38,v),(39,w),(43,x),(50,y),(58,z)] [(2,A),(7,B),(8,C),(38,D),(39,E),(43,F),(50,G),(58,H)] = [(0,a),(2,A),(4,c),(5,d),(6,e),(7,B),(8,C),(9,h),(13,i),(17,j),(18,k),(19,m),(20,n),(27,o),(29,p),(30,q),(31,r),(32,s),(36,t),(37,u),(38,D),(39,E),(43,F),(50,G),(58,H)] := by intros; rfl
     refine W_to (tr ..) ?_; clear tr
     obtain ⟨H, hHH⟩ : ∃ x, x = H' := ⟨_, rfl⟩
     subst hHH
     refine at_seq rfl ?_
     refine rg rfl ?_
     refine Rq ?_
     have tr : ∀ a b c d e f g h i j k m n o p q r s t u v w x y z A : AV, let l := lc_travel_ok a b c d e f g h i j k m n o p q r s t u v w x y z; trim ((39,A)::l) l = [(0,a),(2,b),(4,c),(5,d),(6,e),(7,f),(8,g),(9,h),(13,i),(17,j),(18,k),(19,m),(20,n),(27,o),(29,p),(30,q),(31,r),(32,s),(36,t),(37,u),(38,v),(39,A),(43,x),(50,y),(58,z)] := by intros; rfl
     refine R_nil (tr ..) ?_; clear tr
     refine then_n ?_
     refine at_seq rfl ?_
     refine cdd (fun h6 => ?_) (fun h6 => ?_)
     ·
      try simp only [decide_eq_true_eq, decide_eq_false_iff_not, Bool.not_eq_true', Bool.not_eq_false', beq_iff_eq, beq_eq_false_iff_ne, ne_eq] at h6
      refine at_skip rfl ?_
      refine then_n ?_
      refine at_seq rfl ?_
      refine at_block rfl ?_
      refine at_seq rfl ?_
      refine rg rfl ?_
      refine Rq ?_
      refine Rq ?_
      refine Rq ?_
      refine Rq ?_
      refine Rq ?_
      have tr : ∀ a b c d e f g h i j k m n o p q r s t u v w x y z A B C D E : AV, let l := lc_travel_ok a b c d e f g h i j k m n o p q r s t u v w x y z; trim ((8,E)::(7,D)::(42,C)::(41,B)::(40,A)::l) l = [(0,a),(2,b),(4,c),(5,d),(6,e),(7,D),(8,E),(9,h),(13,i),(17,j),(18,k),(19,m),(20,n),(27,o),(29,p),(30,q),(31,r),(32,s),(36,t),(37,u),(38,v),(39,w),(43,x),(50,y),(58,z)] := by intros; rfl
      refine R_nil (tr ..) ?_; clear tr
      refine then_n ?_
      refine at_block rfl ?_
      refine at_seq rfl ?_
      refine rg rfl ?_
      refine Rq ?_
      refine Rq ?_
      refine Rq ?_
      refine Rp_split (fun h7 => ?_) (fun h7 => ?_)
      ·
       try simp only [decide_eq_true_eq, decide_eq_false_iff_not, Bool.not_eq_true', Bool.not_eq_false', beq_iff_eq, beq_eq_false_iff_ne, ne_eq] at h7
       refine Rn ?_
       refine Rn ?_
       refine Rq ?_
       refine Rq ?_
       have tr : ∀ a b c d e f g h i j k m n o p q r s t u v w x y z A B C D E F G : AV, let l := lc_travel_ok a b c d e f g h i j k m n o p q r s t u v w x y z; trim ((43,G)::(49,F)::(48,E)::(47,D)::(46,C)::(45,B)::(44,A)::l) l = [(0,a),(2,b),(4,c),(5,d),(6,e),(7,f),(8,g),(9,h),(13,i),(17,j),(18,k),(19,m),(20,n),(27,o),(29,p),(30,q),(31,r),(32,s),(36,t),(37,u),(38,v),(39,w),(43,G),(50,y),(58,z)] := by intros; rfl
       refine R_nil (tr ..) ?_; clear tr
       refine then_n ?_
       refine cdt ?_
       refine at_seq rfl ?_
       refine rg rfl ?_
       refine Rq ?_
       have tr : ∀ a b c d e f g h i j k m n o p q r s t u v w x y z A : AV, let l := lc_travel_ok a b c d e f g h i j k m n o p q r s t u v w x y z; trim ((2,A)::l) l = [(0,a),(2,A),(4,c),(5,d),(6,e),(7,f),(8,g),(9,h),(13,i),(17,j),(18,k),(19,m),(20,n),(27,o),(29,p),(30,q),(31,r),(32,s),(36,t),(37,u),(38,v),(39,w),(43,x),(50,y),(58,z)] := by intros; rfl
       refine R_nil (tr ..) ?_; clear tr
       refine then_n ?_
       refine at_ret rfl ?_
       refine blk_r ?_
       refine blk_r ?_
       refine then_r ?_
       refine then_r ?_
       refine blk_r ?_
       refine blk_r ?_
       refine then_r ?_
       refine then_r ?_
       refine blk_r ?_
       refine then_r ?_
       first | (refine fpure ?_; refine ⟨?_, rfl⟩; rw [ct_a (by omega)]; done) | (refine fpure ?_; refine ⟨?_, rfl⟩; rw [ct_b (by omega) (by omega)]; done) | (refine fpure ?_; refine ⟨?_, rfl⟩; rw [ct_c (u := u) (by omega) (by omega) (by omega) hln (by omega)]; done) | (refine fpure ?_; refine ⟨?_, rfl⟩; rw [ct_d (by omega) (by omega) hll (u := v) (j := w) (by omega) (by omega) hro hw0 (e := 2) (by rw [trE, if_pos (by omega)]) (by decide)]; done) | (refine fpure ?_; refine ⟨?_, rfl⟩; rw [ct_d (by omega) (by omega) hll (u := v) (j := w) (by omega) (by omega) hro hw0 (e := 11) (by rw [trE, if_neg (by omega), if_pos (by omega)]) (by decide)]; done) | (refine fpure ?_; refine ⟨?_, rfl⟩; rw [ct_d (by omega) (by omega) hll (u := v) (j := w) (by omega) (by omega) hro hw0 (e := 13) (by rw [trE, if_neg (by omega), if_neg (by omega), if_pos (by omega)]) (by decide)]; done) | (refine fpure ?_; refine ⟨?_, rfl⟩; rw [ct_e (by omega) (by omega) hll (by rw [← show v = t.length by omega]; exact hro)]; done)
      ·
       try simp only [decide_eq_true_eq, decide_eq_false_iff_not, Bool.not_eq_true', Bool.not_eq_false', beq_iff_eq, beq_eq_false_iff_ne, ne_eq] at h7
       refine Ry ?_
       refine Rq ?_
       refine Ry ?_
       refine Rq ?_
       refine Rq ?_
       refine Rq ?_
       have tr : ∀ a b c d e f g h i j k m n o p q r s t u v w x y z A B C D E F G : AV, let l := lc_travel_ok a b c d e f g h i j k m n o p q r s t u v w x y z; trim ((43,G)::(49,F)::(48,E)::(47,D)::(46,C)::(45,B)::(44,A)::l) l = [(0,a),(2,b),(4,c),(5,d),(6,e),(7,f),(8,g),(9,h),(13,i),(17,j),(18,k),(19,m),(20,n),(27,o),(29,p),(30,q),(31,r),(32,s),(36,t),(37,u),(38,v),(39,w),(43,G),(50,y),(58,z)] := by intros; rfl
       refine R_nil (tr ..) ?_; clear tr
       refine then_n ?_
       refine cdd (fun h8 => ?_) (fun h8 => ?_)
       ·
        try simp only [decide_eq_true_eq, decide_eq_false_iff_not, Bool.not_eq_true', Bool.not_eq_false', beq_iff_eq, beq_eq_false_iff_ne, ne_eq] at h8
        refine at_seq rfl ?_
        refine rg rfl ?_
        refine Rq ?_
        have tr : ∀ a b c d e f g h i j k m n o p q r s t u v w x y z A : AV, let l := lc_travel_ok a b c d e f g h i j k m n o p q r s t u v w x y z; trim ((2,A)::l) l = [(0,a),(2,A),(4,c),(5,d),(6,e),(7,f),(8,g),(9,h),(13,i),(17,j),(18,k),(19,m),(20,n),(27,o),(29,p),(30,q),(31,r),(32,s),(36,t),(37,u),(38,v),(39,w),(43,x),(50,y),(58,z)] := by intros; rfl
        refine R_nil (tr ..) ?_; clear tr
        refine then_n ?_
        refine at_ret rfl ?_
        refine blk_r ?_
        refine blk_r ?_
        refine then_r ?_
        refine then_r ?_
        refine blk_r ?_
        refine blk_r ?_
        refine then_r ?_
        refine then_r ?_
        refine blk_r ?_
        refine then_r ?_
        first | (refine fpure ?_; refine ⟨?_, rfl⟩; rw [ct_a (by omega)]; done) | (refine fpure ?_; refine ⟨?_, rfl⟩; rw [ct_b (by omega) (by omega)]; done) | (refine fpure ?_; refine ⟨?_, rfl⟩; rw [ct_c (u := u) (by omega) (by omega) (by omega) hln (by omega)]; done) | (refine fpure ?_; refine ⟨?_, rfl⟩; rw [ct_d (by omega) (by omega) hll (u := v) (j := w) (by omega) (by omega) hro hw0 (e := 2) (by rw [trE, if_pos (by omega)]) (by decide)]; done) | (refine fpure ?_; refine ⟨?_, rfl⟩; rw [ct_d (by omega) (by omega) hll (u := v) (j := w) (by omega) (by omega) hro hw0 (e := 11) (by rw [trE, if_neg (by omega), if_pos (by omega)]) (by decide)]; done) | (refine fpure ?_; refine ⟨?_, rfl⟩; rw [ct_d (by omega) (by omega) hll (u := v) (j := w) (by omega) (by omega) hro hw0 (e := 13) (by rw [trE, if_neg (by omega), if_neg (by omega), if_pos (by omega)]) (by decide)]; done) | (refine fpure ?_; refine ⟨?_, rfl⟩; rw [ct_e (by omega) (by omega) hll (by rw [← show v = t.length by omega]; exact hro)]; done)
       ·
        try simp only [decide_eq_true_eq, decide_eq_false_iff_not, Bool.not_eq_true', Bool.not_eq_false', beq_iff_eq, beq_eq_false_iff_ne, ne_eq] at h8
        refine at_seq rfl ?_
        refine rg rfl ?_
        refine Rq ?_
        refine Rq ?_
        refine Rq ?_
        refine Rq ?_
        refine Rp_split (fun h9 => ?_) (fun h9 => ?_)
        ·
         try simp only [decide_eq_true_eq, decide_eq_false_iff_not, Bool.not_eq_true', Bool.not_eq_false', beq_iff_eq, beq_eq_false_iff_ne, ne_eq] at h9
         refine Ry ?_
         refine Rq ?_
         refine Ry ?_
         refine Rq ?_
         refine Rq ?_
         refine Rq ?_
         have tr : ∀ a b c d e f g h i j k m n o p q r s t u v w x y z A B C D E F G H : AV, let l := lc_travel_ok a b c d e f g h i j k m n o p q r s t u v w x y z; trim ((50,H)::(57,G)::(56,F)::(55,E)::(54,D)::(53,C)::(52,B)::(51,A)::l) l = [(0,a),(2,b),(4,c),(5,d),(6,e),(7,f),(8,g),(9,h),(13,i),(17,j),(18,k),(19,m),(20,n),(27,o),(29,p),(30,q),(31,r),(32,s),(36,t),(37,u),(38,v),(39,w),(43,x),(50,H),(58,z)] := by intros; rfl
         refine R_nil (tr ..) ?_; clear tr
         refine then_n ?_
         refine cdd (fun h10 => ?_) (fun h10 => ?_)
         ·
          try simp only [decide_eq_true_eq, decide_eq_false_iff_not, Bool.not_eq_true', Bool.not_eq_false', beq_iff_eq, beq_eq_false_iff_ne, ne_eq] at h10
          refine at_seq rfl ?_
          refine rg rfl ?_
          refine Rq ?_
          have tr : ∀ a b c d e f g h i j k m n o p q r s t u v w x y z A : AV, let l := lc_travel_ok a b c d e f g h i j k m n o p q r s t u v w x y z; trim ((2,A)::l) l = [(0,a),(2,A),(4,c),(5,d),(6,e),(7,f),(8,g),(9,h),(13,i),(17,j),(18,k),(19,m),(20,n),(27,o),(29,p),(30,q),(31,r),(32,s),(36,t),(37,u),(38,v),(39,w),(43,x),(50,y),(58,z)] := by intros; rfl
          refine R_nil (tr ..) ?_; clear tr
          refine then_n ?_
          refine at_ret rfl ?_
          refine blk_r ?_
          refine blk_r ?_
          refine then_r ?_
          refine then_r ?_
          refine blk_r ?_
          refine blk_r ?_
          refine then_r ?_
          refine then_r ?_
          refine blk_r ?_
          refine then_r ?_
          first | (refine fpure ?_; refine ⟨?_, rfl⟩; rw [ct_a (by omega)]; done) | (refine fpure ?_; refine ⟨?_, rfl⟩; rw [ct_b (by omega) (by omega)]; done) | (refine fpure ?_; refine ⟨?_, rfl⟩; rw [ct_c (u := u) (by omega) (by omega) (by omega) hln (by omega)]; done) | (refine fpure ?_; refine ⟨?_, rfl⟩; rw [ct_d (by omega) (by omega) hll (u := v) (j := w) (by omega) (by omega) hro hw0 (e := 2) (by rw [trE, if_pos (by omega)]) (by decide)]; done) | (refine fpure ?_; refine ⟨?_, rfl⟩; rw [ct_d (by omega) (by omega) hll (u := v) (j := w) (by omega) (by omega) hro hw0 (e := 11) (by rw [trE, if_neg (by omega), if_pos (by omega)]) (by decide)]; done) | (refine fpure ?_; refine ⟨?_, rfl⟩; rw [ct_d (by omega) (by omega) hll (u := v) (j := w) (by omega) (by omega) hro hw0 (e := 13) (by rw [trE, if_neg (by omega), if_neg (by omega), if_pos (by omega)]) (by decide)]; done) | (refine fpure ?_; refine ⟨?_, rfl⟩; rw [ct_e (by omega) (by omega) hll (by rw [← show v = t.length by omega]; exact hro)]; done)
         ·
          try simp only [decide_eq_true_eq, decide_eq_false_iff_not, Bool.not_eq_true', Bool.not_eq_false', beq_iff_eq, beq_eq_false_iff_ne, ne_eq] at h10
          refine at_seq rfl ?_
          refine rg rfl ?_
          have hlw := hlen w (by omega)
          refine Rq ?_
          refine Rq ?_
          refine Rq ?_
          refine Rq ?_
          refine Rq ?_
          refine Rq ?_
          refine Rq ?_
          refine Rq ?_
          refine Rq ?_
          refine Rq ?_
          have tr : ∀ a b c d e f g h i j k m n o p q r s t u v w x y z A B C D E F G H I J : AV, let l := lc_travel_ok a b c d e f g h i j k m n o p q r s t u v w x y z; trim ((58,J)::(67,I)::(66,H)::(65,G)::(64,F)::(63,E)::(62,D)::(61,C)::(60,B)::(59,A)::l) l = [(0,a),(2,b),(4,c),(5,d),(6,e),(7,f),(8,g),(9,h),(13,i),(17,j),(18,k),(19,m),(20,n),(27,o),(29,p),(30,q),(31,r),(32,s),(36,t),(37,u),(38,v),(39,w),(43,x),(50,y),(58,J)] := by intros; rfl
          refine R_nil (tr ..) ?_; clear tr
          refine then_n ?_
          refine cdd (fun h11 => ?_) (fun h11 => ?_)
          ·
           try simp only [decide_eq_true_eq, decide_eq_false_iff_not, Bool.not_eq_true', Bool.not_eq_false', beq_iff_eq, beq_eq_false_iff_ne, ne_eq] at h11
           refine at_seq rfl ?_
           refine rg rfl ?_
           refine Rq ?_
           have tr : ∀ a b c d e f g h i j k m n o p q r s t u v w x y z A : AV, let l := lc_travel_ok a b c d e f g h i j k m n o p q r s t u v w x y z; trim ((2,A)::l) l = [(0,a),(2,A),(4,c),(5,d),(6,e),(7,f),(8,g),(9,h),(13,i),(17,j),(18,k),(19,m),(20,n),(27,o),(29,p),(30,q),(31,r),(32,s),(36,t),(37,u),(38,v),(39,w),(43,x),(50,y),(58,z)] := by intros; rfl
           refine R_nil (tr ..) ?_; clear tr
           refine then_n ?_
           refine at_ret rfl ?_
           refine blk_r ?_
           refine blk_r ?_
           refine then_r ?_
           refine then_r ?_
           refine blk_r ?_
           refine blk_r ?_
           refine then_r ?_
           refine then_r ?_
           refine blk_r ?_
           refine then_r ?_
           first | (refine fpure ?_; refine ⟨?_, rfl⟩; rw [ct_a (by omega)]; done) | (refine fpure ?_; refine ⟨?_, rfl⟩; rw [ct_b (by omega) (by omega)]; done) | (refine fpure ?_; refine ⟨?_, rfl⟩; rw [ct_c (u := u) (by omega) (by omega) (by omega) hln (by omega)]; done) | (refine fpure ?_; refine ⟨?_, rfl⟩; rw [ct_d (by omega) (by omega) hll (u := v) (j := w) (by omega) (by omega) hro hw0 (e := 2) (by rw [trE, if_pos (by omega)]) (by decide)]; done) | (refine fpure ?_; refine ⟨?_, rfl⟩; rw [ct_d (by omega) (by omega) hll (u := v) (j := w) (by omega) (by omega) hro hw0 (e := 11) (by rw [trE, if_neg (by omega), if_pos (by omega)]) (by decide)]; done) | (refine fpure ?_; refine ⟨?_, rfl⟩; rw [ct_d (by omega) (by omega) hll (u := v) (j := w) (by omega) (by omega) hro hw0 (e := 13) (by rw [trE, if_neg (by omega), if_neg (by omega), if_pos (by omega)]) (by decide)]; done) | (refine fpure ?_; refine ⟨?_, rfl⟩; rw [ct_e (by omega) (by omega) hll (by rw [← show v = t.length by omega]; exact hro)]; done)
          ·
           try simp only [decide_eq_true_eq, decide_eq_false_iff_not, Bool.not_eq_true', Bool.not_eq_false', beq_iff_eq, beq_eq_false_iff_ne, ne_eq] at h11
           refine at_skip rfl ?_
           refine blk_n ?_
           refine blk_n ?_
           refine then_n ?_
           refine rg rfl ?_
           refine Rq ?_
           refine Rq ?_
           have tr : ∀ a b c d e f g h i j k m n o p q r s t u v w x y z A B : AV, let l := lc_travel_ok a b c d e f g h i j k m n o p q r s t u v w x y z; trim ((38,B)::(68,A)::l) l = [(0,a),(2,b),(4,c),(5,d),(6,e),(7,f),(8,g),(9,h),(13,i),(17,j),(18,k),(19,m),(20,n),(27,o),(29,p),(30,q),(31,r),(32,s),(36,t),(37,u),(38,B),(39,w),(43,x),(50,y),(58,z)] := by intros; rfl
           refine R_nil (tr ..) ?_; clear tr
           refine then_n ?_
           exact ⟨_, _, ⟨w + 1, _, _, _, _, _, _, _, rfl, rfl, rfl, by omega, by exact ferr_ok hw0 (by rw [trE, if_neg (by omega), if_neg (by omega), if_neg (by omega)])⟩, by rfl, by omega⟩
        ·
         try simp only [decide_eq_true_eq, decide_eq_false_iff_not, Bool.not_eq_true', Bool.not_eq_false', beq_iff_eq, beq_eq_false_iff_ne, ne_eq] at h9
         refine Rn ?_
         refine Rn ?_
         refine Rq ?_
         refine Rq ?_
         have tr : ∀ a b c d e f g h i j k m n o p q r s t u v w x y z A B C D E F G H : AV, let l := lc_travel_ok a b c d e f g h i j k m n o p q r s t u v w x y z; trim ((50,H)::(57,G)::(56,F)::(55,E)::(54,D)::(53,C)::(52,B)::(51,A)::l) l = [(0,a),(2,b),(4,c),(5,d),(6,e),(7,f),(8,g),(9,h),(13,i),(17,j),(18,k),(19,m),(20,n),(27,o),(29,p),(30,q),(31,r),(32,s),(36,t),(37,u),(38,v),(39,w),(43,x),(50,H),(58,z)] := by intros; rfl
         refine R_nil (tr ..) ?_; clear tr
         refine then_n ?_
         refine cdf ?_
         refine at_seq rfl ?_
         refine rg rfl ?_
         have hlw := hlen w (by omega)
         refine Rq ?_
         refine Rq ?_
         refine Rq ?_
         refine Rq ?_
         refine Rq ?_
         refine Rq ?_
         refine Rq ?_
         refine Rq ?_
         refine Rq ?_
         refine Rq ?_
         have tr : ∀ a b c d e f g h i j k m n o p q r s t u v w x y z A B C D E F G H I J : AV, let l := lc_travel_ok a b c d e f g h i j k m n o p q r s t u v w x y z; trim ((58,J)::(67,I)::(66,H)::(65,G)::(64,F)::(63,E)::(62,D)::(61,C)::(60,B)::(59,A)::l) l = [(0,a),(2,b),(4,c),(5,d),(6,e),(7,f),(8,g),(9,h),(13,i),(17,j),(18,k),(19,m),(20,n),(27,o),(29,p),(30,q),(31,r),(32,s),(36,t),(37,u),(38,v),(39,w),(43,x),(50,y),(58,J)] := by intros; rfl
         refine R_nil (tr ..) ?_; clear tr
         refine then_n ?_
         refine cdd (fun h12 => ?_) (fun h12 => ?_)
         ·
          try simp only [decide_eq_true_eq, decide_eq_false_iff_not, Bool.not_eq_true', Bool.not_eq_false', beq_iff_eq, beq_eq_false_iff_ne, ne_eq] at h12
          refine at_seq rfl ?_
          refine rg rfl ?_
          refine Rq ?_
          have tr : ∀ a b c d e f g h i j k m n o p q r s t u v w x y z A : AV, let l := lc_travel_ok a b c d e f g h i j k m n o p q r s t u v w x y z; trim ((2,A)::l) l = [(0,a),(2,A),(4,c),(5,d),(6,e),(7,f),(8,g),(9,h),(13,i),(17,j),(18,k),(19,m),(20,n),(27,o),(29,p),(30,q),(31,r),(32,s),(36,t),(37,u),(38,v),(39,w),(43,x),(50,y),(58,z)] := by intros; rfl
          refine R_nil (tr ..) ?_; clear tr
          refine then_n ?_
          refine at_ret rfl ?_
          refine blk_r ?_
          refine blk_r ?_
          refine then_r ?_
          refine then_r ?_
          refine blk_r ?_
          refine blk_r ?_
          refine then_r ?_
          refine then_r ?_
          refine blk_r ?_
          refine then_r ?_
          first | (refine fpure ?_; refine ⟨?_, rfl⟩; rw [ct_a (by omega)]; done) | (refine fpure ?_; refine ⟨?_, rfl⟩; rw [ct_b (by omega) (by omega)]; done) | (refine fpure ?_; refine ⟨?_, rfl⟩; rw [ct_c (u := u) (by omega) (by omega) (by omega) hln (by omega)]; done) | (refine fpure ?_; refine ⟨?_, rfl⟩; rw [ct_d (by omega) (by omega) hll (u := v) (j := w) (by omega) (by omega) hro hw0 (e := 2) (by rw [trE, if_pos (by omega)]) (by decide)]; done) | (refine fpure ?_; refine ⟨?_, rfl⟩; rw [ct_d (by omega) (by omega) hll (u := v) (j := w) (by omega) (by omega) hro hw0 (e := 11) (by rw [trE, if_neg (by omega), if_pos (by omega)]) (by decide)]; done) | (refine fpure ?_; refine ⟨?_, rfl⟩; rw [ct_d (by omega) (by omega) hll (u := v) (j := w) (by omega) (by omega) hro hw0 (e := 13) (by rw [trE, if_neg (by omega), if_neg (by omega), if_pos (by omega)]) (by decide)]; done) | (refine fpure ?_; refine ⟨?_, rfl⟩; rw [ct_e (by omega) (by omega) hll (by rw [← show v = t.length by omega]; exact hro)]; done)
         ·
          try simp only [decide_eq_true_eq, decide_eq_false_iff_not, Bool.not_eq_true', Bool.not_eq_false', beq_iff_eq, beq_eq_false_iff_ne, ne_eq] at h12
          refine at_skip rfl ?_
          refine blk_n ?_
          refine blk_n ?_
          refine then_n ?_
          refine rg rfl ?_
          refine Rq ?_
          refine Rq ?_
          have tr : ∀ a b c d e f g h i j k m n o p q r s t u v w x y z A B : AV, let l := lc_travel_ok a b c d e f g h i j k m n o p q r s t u v w x y z; trim ((38,B)::(68,A)::l) l = [(0,a),(2,b),(4,c),(5,d),(6,e),(7,f),(8,g),(9,h),(13,i),(17,j),(18,k),(19,m),(20,n),(27,o),(29,p),(30,q),(31,r),(32,s),(36,t),(37,u),(38,B),(39,w),(43,x),(50,y),(58,z)] := by intros; rfl
          refine R_nil (tr ..) ?_; clear tr
          refine then_n ?_
          exact ⟨_, _, ⟨w + 1, _, _, _, _, _, _, _, rfl, rfl, rfl, by omega, by exact ferr_ok hw0 (by rw [trE, if_neg (by omega), if_neg (by omega), if_neg (by omega)])⟩, by rfl, by omega⟩
     ·
      try simp only [decide_eq_true_eq, decide_eq_false_iff_not, Bool.not_eq_true', Bool.not_eq_false', beq_iff_eq, beq_eq_false_iff_ne, ne_eq] at h6
      refine at_exit rfl ?_
      refine then_x ?_
      refine then_x ?_
      refine blk_x ?_
      refine blk_n ?_
      refine then_n ?_
      refine rg rfl ?_
      refine Rq ?_
      refine Rq ?_
      have tr : ∀ a b c d e f g h i j k m n o p q r s t u v w x y z A B : AV, let l := lc_travel_ok a b c d e f g h i j k m n o p q r s t u v w x y z; trim ((31,B)::(69,A)::l) l = [(0,a),(2,b),(4,c),(5,d),(6,e),(7,f),(8,g),(9,h),(13,i),(17,j),(18,k),(19,m),(20,n),(27,o),(29,p),(30,q),(31,B),(32,s),(36,t),(37,u),(38,v),(39,w),(43,x),(50,y),(58,z)] := by intros; rfl
      refine R_nil (tr ..) ?_; clear tr
      refine then_n ?_
      exact ⟨_, _, ⟨v + 1, _, _, _, _, _, _, _, _, _, _, _, _, _, rfl, rfl, rfl, by omega, by exact ferr_ok hro (by rw [rowE, ← show w = t.length by omega]; exact hw0)⟩, by rfl, by omega⟩
    ·
     try simp only [decide_eq_true_eq, decide_eq_false_iff_not, Bool.not_eq_true', Bool.not_eq_false', beq_iff_eq, beq_eq_false_iff_ne, ne_eq] at h5
     refine at_exit rfl ?_
     refine then_x ?_
     refine then_x ?_
     refine blk_x ?_
     refine then_n ?_
     refine at_seq rfl ?_
     refine rg rfl ?_
     refine Rq ?_
     have tr : ∀ a b c d e f g h i j k m n o p q r s t u v w x y z A : AV, let l := lc_travel_ok a b c d e f g h i j k m n o p q r s t u v w x y z; trim ((2,A)::l) l = [(0,a),(2,A),(4,c),(5,d),(6,e),(7,f),(8,g),(9,h),(13,i),(17,j),(18,k),(19,m),(20,n),(27,o),(29,p),(30,q),(31,r),(32,s),(36,t),(37,u),(38,v),(39,w),(43,x),(50,y),(58,z)] := by intros; rfl
     refine R_nil (tr ..) ?_; clear tr
     refine then_n ?_
     refine at_ret rfl ?_
     first | (refine fpure ?_; refine ⟨?_, rfl⟩; rw [ct_a (by omega)]; done) | (refine fpure ?_; refine ⟨?_, rfl⟩; rw [ct_b (by omega) (by omega)]; done) | (refine fpure ?_; refine ⟨?_, rfl⟩; rw [ct_c (u := u) (by omega) (by omega) (by omega) hln (by omega)]; done) | (refine fpure ?_; refine ⟨?_, rfl⟩; rw [ct_d (by omega) (by omega) hll (u := v) (j := w) (by omega) (by omega) hro hw0 (e := 2) (by rw [trE, if_pos (by omega)]) (by decide)]; done) | (refine fpure ?_; refine ⟨?_, rfl⟩; rw [ct_d (by omega) (by omega) hll (u := v) (j := w) (by omega) (by omega) hro hw0 (e := 11) (by rw [trE, if_neg (by omega), if_pos (by omega)]) (by decide)]; done) | (refine fpure ?_; refine ⟨?_, rfl⟩; rw [ct_d (by omega) (by omega) hll (u := v) (j := w) (by omega) (by omega) hro hw0 (e := 13) (by rw [trE, if_neg (by omega), if_neg (by omega), if_pos (by omega)]) (by decide)]; done) | (refine fpure ?_; refine ⟨?_, rfl⟩; rw [ct_e (by omega) (by omega) hll (by rw [← show v = t.length by omega]; exact hro)]; done)

abbrev lc_rtravel_ok (a b c d e f g h i j k m n o p q r s t u v w x y z : AV) : Env := [(0,a),(2,b),(4,c),(5,d),(6,e),(7,f),(8,g),(11,h),(14,i),(15,j),(16,k),(17,m),(18,n),(25,o),(27,p),(28,q),(29,r),(30,s),(34,t),(35,u),(36,v),(37,w),(41,x),(48,y),(56,z)]
theorem rtravel_ok (lim : Nat) (H : Heap) (t : List (List Int)) : ACall sig lim 29 [rowsAV t] H fun r H' => r = AV.i (ctS t) ∧ H' = H := by
 refine ACall_pure (fa := fa29) rfl rfl rfl rfl ?_
 have tr : ∀ a0 : AV, env0 fa29.keep [a0] = [(0,a0),(2,.any),(4,.any),(5,.any),(6,.any),(7,.any),(8,.any),(11,.any),(14,.any),(15,.any),(16,.any),(17,.any),(18,.any),(25,.any),(27,.any),(28,.any),(29,.any),(30,.any),(34,.any),(35,.any),(36,.any),(37,.any),(41,.any),(48,.any),(56,.any)] := fun a0 => rfl
 refine W_to (tr _) ?_; clear tr
 refine at_seq rfl ?_
 refine rg rfl ?_
 refine Rq ?_
 have tr : ∀ a b c d e f g h i j k m n o p q r s t u v w x y z A : AV, let l := lc_rtravel_ok a b c d e f g h i j k m n o p q r s t u v w x y z; trim ((2,A)::l) l = [(0,a),(2,A),(4,c),(5,d),(6,e),(7,f),(8,g),(11,h),(14,i),(15,j),(16,k),(17,m),(18,n),(25,o),(27,p),(28,q),(29,r),(30,s),(34,t),(35,u),(36,v),(37,w),(41,x),(48,y),(56,z)] := by intros; rfl
 refine R_nil (tr ..) ?_; clear tr
 refine then_n ?_
 refine at_seq rfl ?_
 refine at_seq rfl ?_
 refine rg rfl ?_
 refine Rq ?_
 refine Rq ?_
 refine Rq ?_
 have tr : ∀ a b c d e f g h i j k m n o p q r s t u v w x y z A B C : AV, let l := lc_rtravel_ok a b c d e f g h i j k m n o p q r s t u v w x y z; trim ((11,C)::(10,B)::(9,A)::l) l = [(0,a),(2,b),(4,c),(5,d),(6,e),(7,f),(8,g),(11,C),(14,i),(15,j),(16,k),(17,m),(18,n),(25,o),(27,p),(28,q),(29,r),(30,s),(34,t),(35,u),(36,v),(37,w),(41,x),(48,y),(56,z)] := by intros; rfl
 refine R_nil (tr ..) ?_; clear tr
 refine then_n ?_
 refine cdd (fun h1 => ?_) (fun h1 => ?_)
 ·
  try simp only [decide_eq_true_eq, decide_eq_false_iff_not, Bool.not_eq_true', Bool.not_eq_false', beq_iff_eq, beq_eq_false_iff_ne, ne_eq] at h1
  refine at_seq rfl ?_
  refine rg rfl ?_
  refine Rq ?_
  have tr : ∀ a b c d e f g h i j k m n o p q r s t u v w x y z A : AV, let l := lc_rtravel_ok a b c d e f g h i j k m n o p q r s t u v w x y z; trim ((2,A)::l) l = [(0,a),(2,A),(4,c),(5,d),(6,e),(7,f),(8,g),(11,h),(14,i),(15,j),(16,k),(17,m),(18,n),(25,o),(27,p),(28,q),(29,r),(30,s),(34,t),(35,u),(36,v),(37,w),(41,x),(48,y),(56,z)] := by intros; rfl
  refine R_nil (tr ..) ?_; clear tr
  refine then_n ?_
  refine at_ret rfl ?_
  refine then_r ?_
  first | (refine fpure ?_; refine ⟨?_, rfl⟩; rw [ct_a (by omega)]; done) | (refine fpure ?_; refine ⟨?_, rfl⟩; rw [ct_b (by omega) (by omega)]; done) | (refine fpure ?_; refine ⟨?_, rfl⟩; rw [ct_c (u := u) (by omega) (by omega) (by omega) hln (by omega)]; done) | (refine fpure ?_; refine ⟨?_, rfl⟩; rw [ct_d (by omega) (by omega) hll (u := v) (j := w) (by omega) (by omega) hro hw0 (e := 2) (by rw [trE, if_pos (by omega)]) (by decide)]; done) | (refine fpure ?_; refine ⟨?_, rfl⟩; rw [ct_d (by omega) (by omega) hll (u := v) (j := w) (by omega) (by omega) hro hw0 (e := 11) (by rw [trE, if_neg (by omega), if_pos (by omega)]) (by decide)]; done) | (refine fpure ?_; refine ⟨?_, rfl⟩; rw [ct_d (by omega) (by omega) hll (u := v) (j := w) (by omega) (by omega) hro hw0 (e := 13) (by rw [trE, if_neg (by omega), if_neg (by omega), if_pos (by omega)]) (by decide)]; done) | (refine fpure ?_; refine ⟨?_, rfl⟩; rw [ct_e (by omega) (by omega) hll (by rw [← show v = t.length by omega]; exact hro)]; done)
 ·
  try simp only [decide_eq_true_eq, decide_eq_false_iff_not, Bool.not_eq_true', Bool.not_eq_false', beq_iff_eq, beq_eq_false_iff_ne, ne_eq] at h1
  refine at_skip rfl ?_
  refine then_n ?_
  refine at_seq rfl ?_
  refine at_seq rfl ?_
  refine rg rfl ?_
  refine Rq ?_
  refine Rq ?_
  refine Rq ?_
  have tr : ∀ a b c d e f g h i j k m n o p q r s t u v w x y z A B C : AV, let l := lc_rtravel_ok a b c d e f g h i j k m n o p q r s t u v w x y z; trim ((14,C)::(13,B)::(12,A)::l) l = [(0,a),(2,b),(4,c),(5,d),(6,e),(7,f),(8,g),(11,h),(14,C),(15,j),(16,k),(17,m),(18,n),(25,o),(27,p),(28,q),(29,r),(30,s),(34,t),(35,u),(36,v),(37,w),(41,x),(48,y),(56,z)] := by intros; rfl
  refine R_nil (tr ..) ?_; clear tr
  refine then_n ?_
  refine cdd (fun h2 => ?_) (fun h2 => ?_)
  ·
   try simp only [decide_eq_true_eq, decide_eq_false_iff_not, Bool.not_eq_true', Bool.not_eq_false', beq_iff_eq, beq_eq_false_iff_ne, ne_eq] at h2
   refine at_seq rfl ?_
   refine rg rfl ?_
   refine Rq ?_
   have tr : ∀ a b c d e f g h i j k m n o p q r s t u v w x y z A : AV, let l := lc_rtravel_ok a b c d e f g h i j k m n o p q r s t u v w x y z; trim ((2,A)::l) l = [(0,a),(2,A),(4,c),(5,d),(6,e),(7,f),(8,g),(11,h),(14,i),(15,j),(16,k),(17,m),(18,n),(25,o),(27,p),(28,q),(29,r),(30,s),(34,t),(35,u),(36,v),(37,w),(41,x),(48,y),(56,z)] := by intros; rfl
   refine R_nil (tr ..) ?_; clear tr
   refine then_n ?_
   refine at_ret rfl ?_
   refine then_r ?_
   first | (refine fpure ?_; refine ⟨?_, rfl⟩; rw [ct_a (by omega)]; done) | (refine fpure ?_; refine ⟨?_, rfl⟩; rw [ct_b (by omega) (by omega)]; done) | (refine fpure ?_; refine ⟨?_, rfl⟩; rw [ct_c (u := u) (by omega) (by omega) (by omega) hln (by omega)]; done) | (refine fpure ?_; refine ⟨?_, rfl⟩; rw [ct_d (by omega) (by omega) hll (u := v) (j := w) (by omega) (by omega) hro hw0 (e := 2) (by rw [trE, if_pos (by omega)]) (by decide)]; done) | (refine fpure ?_; refine ⟨?_, rfl⟩; rw [ct_d (by omega) (by omega) hll (u := v) (j := w) (by omega) (by omega) hro hw0 (e := 11) (by rw [trE, if_neg (by omega), if_pos (by omega)]) (by decide)]; done) | (refine fpure ?_; refine ⟨?_, rfl⟩; rw [ct_d (by omega) (by omega) hll (u := v) (j := w) (by omega) (by omega) hro hw0 (e := 13) (by rw [trE, if_neg (by omega), if_neg (by omega), if_pos (by omega)]) (by decide)]; done) | (refine fpure ?_; refine ⟨?_, rfl⟩; rw [ct_e (by omega) (by omega) hll (by rw [← show v = t.length by omega]; exact hro)]; done)
  ·
   try simp only [decide_eq_true_eq, decide_eq_false_iff_not, Bool.not_eq_true', Bool.not_eq_false', beq_iff_eq, beq_eq_false_iff_ne, ne_eq] at h2
   refine at_skip rfl ?_
   refine then_n ?_
   refine at_seq rfl ?_
   refine at_seq rfl ?_
   refine rg rfl ?_
   refine Rq ?_
   refine Rq ?_
   refine Rq ?_
   have tr : ∀ a b c d e f g h i j k m n o p q r s t u v w x y z A B C : AV, let l := lc_rtravel_ok a b c d e f g h i j k m n o p q r s t u v w x y z; trim ((17,C)::(16,B)::(15,A)::l) l = [(0,a),(2,b),(4,c),(5,d),(6,e),(7,f),(8,g),(11,h),(14,i),(15,A),(16,B),(17,C),(18,n),(25,o),(27,p),(28,q),(29,r),(30,s),(34,t),(35,u),(36,v),(37,w),(41,x),(48,y),(56,z)] := by intros; rfl
   refine R_nil (tr ..) ?_; clear tr
   refine then_n ?_
   refine at_block rfl ?_
   refine loop_n rfl (fun mm kv H' => ∃ u : Nat, ∃ x2 x4 x18 x25 : AV, (kv = [(2, x2), (4, x4), (17, AV.i u), (18, x18), (25, x25)]) ∧ (mm = t.length - u) ∧ (H' = H) ∧ (u ≤ t.length) ∧ (ferr (lnE t) u = 0)) ⟨0, _, _, _, _, rfl, rfl, rfl, by omega, by rfl⟩ (by rfl) ?_
   rintro mm kv H' ⟨u, x2, x4, x18, x25, rfl, rfl, rfl, hu, hln⟩
   have tr : ∀ a b c d e f g h i j k m n o p q r s t u v w x y z A B C D E : AV, upd [(0,a),(2,b),(4,c),(5,d),(6,e),(7,f),(8,g),(11,h),(14,i),(15,j),(16,k),(17,m),(18,n),(25,o),(27,p),(28,q),(29,r),(30,s),(34,t),(35,u),(36,v),(37,w),(41,x),(48,y),(56,z)] [(2,A),(4,B),(17,C),(18,D),(25,E)] = [(0,a),(2,A),(4,B),(5,d),(6,e),(7,f),(8,g),(11,h),(14,i),(15,j),(16,k),(17,C),(18,D),(25,E),(27,p),(28,q),(29,r),(30,s),(34,t),(35,u),(36,v),(37,w),(41,x),(48,y),(56,z)] := by intros; rfl
   refine W_to (tr ..) ?_; clear tr
   obtain ⟨H, hHH⟩ : ∃ x, x = H' := ⟨_, rfl⟩
   subst hHH
   refine at_seq rfl ?_
   refine rg rfl ?_
   refine Rq ?_
   have tr : ∀ a b c d e f g h i j k m n o p q r s t u v w x y z A : AV, let l := lc_rtravel_ok a b c d e f g h i j k m n o p q r s t u v w x y z; trim ((18,A)::l) l = [(0,a),(2,b),(4,c),(5,d),(6,e),(7,f),(8,g),(11,h),(14,i),(15,j),(16,k),(17,m),(18,A),(25,o),(27,p),(28,q),(29,r),(30,s),(34,t),(35,u),(36,v),(37,w),(41,x),(48,y),(56,z)] := by intros; rfl
   refine R_nil (tr ..) ?_; clear tr
   refine then_n ?_
   refine at_seq rfl ?_
   refine cdd (fun h3 => ?_) (fun h3 => ?_)
   ·
    try simp only [decide_eq_true_eq, decide_eq_false_iff_not, Bool.not_eq_true', Bool.not_eq_false', beq_iff_eq, beq_eq_false_iff_ne, ne_eq] at h3
    refine at_skip rfl ?_
    refine then_n ?_
    refine at_seq rfl ?_
    refine at_block rfl ?_
    refine at_seq rfl ?_
    refine rg rfl ?_
    refine Rq ?_
    refine Rq ?_
    refine Rq ?_
    have tr : ∀ a b c d e f g h i j k m n o p q r s t u v w x y z A B C : AV, let l := lc_rtravel_ok a b c d e f g h i j k m n o p q r s t u v w x y z; trim ((4,C)::(20,B)::(19,A)::l) l = [(0,a),(2,b),(4,C),(5,d),(6,e),(7,f),(8,g),(11,h),(14,i),(15,j),(16,k),(17,m),(18,n),(25,o),(27,p),(28,q),(29,r),(30,s),(34,t),(35,u),(36,v),(37,w),(41,x),(48,y),(56,z)] := by intros; rfl
    refine R_nil (tr ..) ?_; clear tr
    refine then_n ?_
    refine at_seq rfl ?_
    refine rg rfl ?_
    refine Rq ?_
    refine Rq ?_
    refine Rq ?_
    refine Rq ?_
    refine Rq ?_
    have tr : ∀ a b c d e f g h i j k m n o p q r s t u v w x y z A B C D E : AV, let l := lc_rtravel_ok a b c d e f g h i j k m n o p q r s t u v w x y z; trim ((25,E)::(24,D)::(23,C)::(22,B)::(21,A)::l) l = [(0,a),(2,b),(4,c),(5,d),(6,e),(7,f),(8,g),(11,h),(14,i),(15,j),(16,k),(17,m),(18,n),(25,E),(27,p),(28,q),(29,r),(30,s),(34,t),(35,u),(36,v),(37,w),(41,x),(48,y),(56,z)] := by intros; rfl
    refine R_nil (tr ..) ?_; clear tr
    refine then_n ?_
    refine cdd (fun h4 => ?_) (fun h4 => ?_)
    ·
     try simp only [decide_eq_true_eq, decide_eq_false_iff_not, Bool.not_eq_true', Bool.not_eq_false', beq_iff_eq, beq_eq_false_iff_ne, ne_eq] at h4
     refine at_seq rfl ?_
     refine rg rfl ?_
     refine Rq ?_
     have tr : ∀ a b c d e f g h i j k m n o p q r s t u v w x y z A : AV, let l := lc_rtravel_ok a b c d e f g h i j k m n o p q r s t u v w x y z; trim ((2,A)::l) l = [(0,a),(2,A),(4,c),(5,d),(6,e),(7,f),(8,g),(11,h),(14,i),(15,j),(16,k),(17,m),(18,n),(25,o),(27,p),(28,q),(29,r),(30,s),(34,t),(35,u),(36,v),(37,w),(41,x),(48,y),(56,z)] := by intros; rfl
     refine R_nil (tr ..) ?_; clear tr
     refine then_n ?_
     refine at_ret rfl ?_
     refine blk_r ?_
     refine then_r ?_
     refine then_r ?_
     refine blk_r ?_
     refine then_r ?_
     first | (refine fpure ?_; refine ⟨?_, rfl⟩; rw [ct_a (by omega)]; done) | (refine fpure ?_; refine ⟨?_, rfl⟩; rw [ct_b (by omega) (by omega)]; done) | (refine fpure ?_; refine ⟨?_, rfl⟩; rw [ct_c (u := u) (by omega) (by omega) (by omega) hln (by omega)]; done) | (refine fpure ?_; refine ⟨?_, rfl⟩; rw [ct_d (by omega) (by omega) hll (u := v) (j := w) (by omega) (by omega) hro hw0 (e := 2) (by rw [trE, if_pos (by omega)]) (by decide)]; done) | (refine fpure ?_; refine ⟨?_, rfl⟩; rw [ct_d (by omega) (by omega) hll (u := v) (j := w) (by omega) (by omega) hro hw0 (e := 11) (by rw [trE, if_neg (by omega), if_pos (by omega)]) (by decide)]; done) | (refine fpure ?_; refine ⟨?_, rfl⟩; rw [ct_d (by omega) (by omega) hll (u := v) (j := w) (by omega) (by omega) hro hw0 (e := 13) (by rw [trE, if_neg (by omega), if_neg (by omega), if_pos (by omega)]) (by decide)]; done) | (refine fpure ?_; refine ⟨?_, rfl⟩; rw [ct_e (by omega) (by omega) hll (by rw [← show v = t.length by omega]; exact hro)]; done)
    ·
     try simp only [decide_eq_true_eq, decide_eq_false_iff_not, Bool.not_eq_true', Bool.not_eq_false', beq_iff_eq, beq_eq_false_iff_ne, ne_eq] at h4
     refine at_skip rfl ?_
     refine blk_n ?_
     refine then_n ?_
     refine rg rfl ?_
     refine Rq ?_
     refine Rq ?_
     have tr : ∀ a b c d e f g h i j k m n o p q r s t u v w x y z A B : AV, let l := lc_rtravel_ok a b c d e f g h i j k m n o p q r s t u v w x y z; trim ((17,B)::(26,A)::l) l = [(0,a),(2,b),(4,c),(5,d),(6,e),(7,f),(8,g),(11,h),(14,i),(15,j),(16,k),(17,B),(18,n),(25,o),(27,p),(28,q),(29,r),(30,s),(34,t),(35,u),(36,v),(37,w),(41,x),(48,y),(56,z)] := by intros; rfl
     refine R_nil (tr ..) ?_; clear tr
     refine then_n ?_
     exact ⟨_, _, ⟨u + 1, _, _, _, _, rfl, rfl, rfl, by omega, by exact ferr_ok hln (by rw [lnE, if_neg (by omega)])⟩, by rfl, by omega⟩
   ·
    try simp only [decide_eq_true_eq, decide_eq_false_iff_not, Bool.not_eq_true', Bool.not_eq_false', beq_iff_eq, beq_eq_false_iff_ne, ne_eq] at h3
    refine at_exit rfl ?_
    refine then_x ?_
    refine then_x ?_
    refine blk_x ?_
    refine then_n ?_
    refine at_seq rfl ?_
    refine at_seq rfl ?_
    refine rg rfl ?_
    have hll : ferr (lnE t) t.length = 0 := by rw [← show u = t.length by omega]; exact hln
    have hlen := ln_of hll
    refine Rq ?_
    refine Rq ?_
    refine Rq ?_
    have tr : ∀ a b c d e f g h i j k m n o p q r s t u v w x y z A B C : AV, let l := lc_rtravel_ok a b c d e f g h i j k m n o p q r s t u v w x y z; trim ((29,C)::(28,B)::(27,A)::l) l = [(0,a),(2,b),(4,c),(5,d),(6,e),(7,f),(8,g),(11,h),(14,i),(15,j),(16,k),(17,m),(18,n),(25,o),(27,A),(28,B),(29,C),(30,s),(34,t),(35,u),(36,v),(37,w),(41,x),(48,y),(56,z)] := by intros; rfl
    refine R_nil (tr ..) ?_; clear tr
    refine then_n ?_
    refine at_block rfl ?_
    refine loop_n rfl (fun mm kv H' => ∃ v : Nat, ∃ x2 x5 x6 x7 x8 x30 x34 x35 x36 x37 x41 x48 x56 : AV, (kv = [(2, x2), (5, x5), (6, x6), (7, x7), (8, x8), (29, AV.i v), (30, x30), (34, x34), (35, x35), (36, x36), (37, x37), (41, x41), (48, x48), (56, x56)]) ∧ (mm = t.length - v) ∧ (H' = H) ∧ (v ≤ t.length) ∧ (ferr (rowE t) v = 0)) ⟨0, _, _, _, _, _, _, _, _, _, _, _, _, _, rfl, rfl, rfl, by omega, by rfl⟩ (by rfl) ?_
    rintro mm kv H' ⟨v, x2, x5, x6, x7, x8, x30, x34, x35, x36, x37, x41, x48, x56, rfl, rfl, rfl, hv, hro⟩
    have tr : ∀ a b c d e f g h i j k m n o p q r s t u v w x y z A B C D E F G H I J K L M N : AV, upd [(0,a),(2,b),(4,c),(5,d),(6,e),(7,f),(8,g),(11,h),(14,i),(15,j),(16,k),(17,m),(18,n),(25,o),(27,p),(28,q),(29,r),(30,s),(34,t),(35,u),(36,v),(37,w),(41,x),(48,y),(56,z)] [(2,A),(5,B),(6,C),(7,D),(8,E),(29,F),(30,G),(34,H),(35,I),(36,J),(37,K),(41,L),(48,M),(56,N)] = [(0,a),(2,A),(4,c),(5,B),(6,C),(7,D),(8,E),(11,h),(14,i),(15,j),(16,k),(17,m),(18,n),(25,o),(27,p),(28,q),(29,F),(30,G),(34,H),(35,I),(36,J),(37,K),(41,L),(48,M),(56,N)] := by intros; rfl
    refine W_to (tr ..) ?_; clear tr
    obtain ⟨H, hHH⟩ : ∃ x, x = H' := ⟨_, rfl⟩
    subst hHH
    refine at_seq rfl ?_
    refine rg rfl ?_
    refine Rq ?_
    have tr : ∀ a b c d e f g h i j k m n o p q r s t u v w x y z A : AV, let l := lc_rtravel_ok a b c d e f g h i j k m n o p q r s t u v w x y z; trim ((30,A)::l) l = [(0,a),(2,b),(4,c),(5,d),(6,e),(7,f),(8,g),(11,h),(14,i),(15,j),(16,k),(17,m),(18,n),(25,o),(27,p),(28,q),(29,r),(30,A),(34,t),(35,u),(36,v),(37,w),(41,x),(48,y),(56,z)] := by intros; rfl
    refine R_nil (tr ..) ?_; clear tr
    refine then_n ?_
    refine at_seq rfl ?_
    refine cdd (fun h5 => ?_) (fun h5 => ?_)
    ·
     try simp only [decide_eq_true_eq, decide_eq_false_iff_not, Bool.not_eq_true', Bool.not_eq_false', beq_iff_eq, beq_eq_false_iff_ne, ne_eq] at h5
     refine at_skip rfl ?_
     refine then_n ?_
     refine at_seq rfl ?_
     refine at_block rfl ?_
     refine at_seq rfl ?_
     refine rg rfl ?_
     refine Rq ?_
     refine Rq ?_
     refine Rq ?_
     refine Rq ?_
     refine Rq ?_
     have tr : ∀ a b c d e f g h i j k m n o p q r s t u v w x y z A B C D E : AV, let l := lc_rtravel_ok a b c d e f g h i j k m n o p q r s t u v w x y z; trim ((6,E)::(5,D)::(33,C)::(32,B)::(31,A)::l) l = [(0,a),(2,b),(4,c),(5,D),(6,E),(7,f),(8,g),(11,h),(14,i),(15,j),(16,k),(17,m),(18,n),(25,o),(27,p),(28,q),(29,r),(30,s),(34,t),(35,u),(36,v),(37,w),(41,x),(48,y),(56,z)] := by intros; rfl
     refine R_nil (tr ..) ?_; clear tr
     refine then_n ?_
     refine at_seq rfl ?_
     refine rg rfl ?_
     have hlv := hlen v (by omega)
     refine Rq ?_
     refine Rq ?_
     refine Rq ?_
     have tr : ∀ a b c d e f g h i j k m n o p q r s t u v w x y z A B C : AV, let l := lc_rtravel_ok a b c d e f g h i j k m n o p q r s t u v w x y z; trim ((36,C)::(35,B)::(34,A)::l) l = [(0,a),(2,b),(4,c),(5,d),(6,e),(7,f),(8,g),(11,h),(14,i),(15,j),(16,k),(17,m),(18,n),(25,o),(27,p),(28,q),(29,r),(30,s),(34,A),(35,B),(36,C),(37,w),(41,x),(48,y),(56,z)] := by intros; rfl
     refine R_nil (tr ..) ?_; clear tr
     refine then_n ?_
     refine at_block rfl ?_
     refine loop_n rfl (fun mm kv H' => ∃ w : Nat, ∃ x2 x7 x8 x37 x41 x48 x56 : AV, (kv = [(2, x2), (7, x7), (8, x8), (36, AV.i w), (37, x37), (41, x41), (48, x48), (56, x56)]) ∧ (mm = t.length - w) ∧ (H' = H) ∧ (w ≤ t.length) ∧ (ferr (trE t v) w = 0)) ⟨0, _, _, _, _, _, _, _, rfl, rfl, rfl, by omega, by rfl⟩ (by rfl) ?_
     rintro mm kv H' ⟨w, x2, x7, x8, x37, x41, x48, x56, rfl, rfl, rfl, hw, hw0⟩
     have tr : ∀ a b c d e f g h i j k m n o p q r s t u v w x y z A B C D E F G H : AV, upd [(0,a),(2,b),(4,c),(5,d),(6,e),(7,f),(8,g),(11,h),(14,i),(15,j),(16,k),(17,m),(18,n),(25,o),(27,p),(28,q),(29,r),(30,s),(34,t),(35,u),(36,v),(37,w),(41,x),(48,y),(56,z)] [(2,A),(7,B),(8,C),(36,D),(37,E),(41,F),(48,G),(56,H)] = [(0,a),(2,A),(4,c),(5,d),(6,e),(7,B),(8,C),(11,h),(14,i),(15,j),(16,k),(17,m),(18,n),(25,o),(27,p),(28,q),(29,r),(30,s),(34,t),(35,u),(36,D),(37,E),(41,F),(48,G),(56,H)] := by intros; rfl
     refine W_to (tr ..) ?_; clear tr
     obtain ⟨H, hHH⟩ : ∃ x, x = H' := ⟨_, rfl⟩
     subst hHH
     refine at_seq rfl ?_
     refine rg rfl ?_
     refine Rq ?_
     have tr : ∀ a b c d e f g h i j k m n o p q r s t u v w x y z A : AV, let l := lc_rtravel_ok a b c d e f g h i j k m n o p q r s t u v w x y z; trim ((37,A)::l) l = [(0,a),(2,b),(4,c),(5,d),(6,e),(7,f),(8,g),(11,h),(14,i),(15,j),(16,k),(17,m),(18,n),(25,o),(27,p),(28,q),(29,r),(30,s),(34,t),(35,u),(36,v),(37,A),(41,x),(48,y),(56,z)] := by intros; rfl
     refine R_nil (tr ..) ?_; clear tr
     refine then_n ?_
     refine at_seq rfl ?_
     refine cdd (fun h6 => ?_) (fun h6 => ?_)
     ·
      try simp only [decide_eq_true_eq, decide_eq_false_iff_not, Bool.not_eq_true', Bool.not_eq_false', beq_iff_eq, beq_eq_false_iff_ne, ne_eq] at h6
      refine at_skip rfl ?_
      refine then_n ?_
      refine at_seq rfl ?_
      refine at_block rfl ?_
      refine at_seq rfl ?_
      refine rg rfl ?_
      refine Rq ?_
      refine Rq ?_
      refine Rq ?_
      refine Rq ?_
      refine Rq ?_
      have tr : ∀ a b c d e f g h i j k m n o p q r s t u v w x y z A B C D E : AV, let l := lc_rtravel_ok a b c d e f g h i j k m n o p q r s t u v w x y z; trim ((8,E)::(7,D)::(40,C)::(39,B)::(38,A)::l) l = [(0,a),(2,b),(4,c),(5,d),(6,e),(7,D),(8,E),(11,h),(14,i),(15,j),(16,k),(17,m),(18,n),(25,o),(27,p),(28,q),(29,r),(30,s),(34,t),(35,u),(36,v),(37,w),(41,x),(48,y),(56,z)] := by intros; rfl
      refine R_nil (tr ..) ?_; clear tr
      refine then_n ?_
      refine at_block rfl ?_
      refine at_seq rfl ?_
      refine rg rfl ?_
      refine Rq ?_
      refine Rq ?_
      refine Rq ?_
      refine Rp_split (fun h7 => ?_) (fun h7 => ?_)
      ·
       try simp only [decide_eq_true_eq, decide_eq_false_iff_not, Bool.not_eq_true', Bool.not_eq_false', beq_iff_eq, beq_eq_false_iff_ne, ne_eq] at h7
       refine Rn ?_
       refine Rn ?_
       refine Rq ?_
       refine Rq ?_
       have tr : ∀ a b c d e f g h i j k m n o p q r s t u v w x y z A B C D E F G : AV, let l := lc_rtravel_ok a b c d e f g h i j k m n o p q r s t u v w x y z; trim ((41,G)::(47,F)::(46,E)::(45,D)::(44,C)::(43,B)::(42,A)::l) l = [(0,a),(2,b),(4,c),(5,d),(6,e),(7,f),(8,g),(11,h),(14,i),(15,j),(16,k),(17,m),(18,n),(25,o),(27,p),(28,q),(29,r),(30,s),(34,t),(35,u),(36,v),(37,w),(41,G),(48,y),(56,z)] := by intros; rfl
       refine R_nil (tr ..) ?_; clear tr
       refine then_n ?_
       refine cdt ?_
       refine at_seq rfl ?_
       refine rg rfl ?_
       refine Rq ?_
       have tr : ∀ a b c d e f g h i j k m n o p q r s t u v w x y z A : AV, let l := lc_rtravel_ok a b c d e f g h i j k m n o p q r s t u v w x y z; trim ((2,A)::l) l = [(0,a),(2,A),(4,c),(5,d),(6,e),(7,f),(8,g),(11,h),(14,i),(15,j),(16,k),(17,m),(18,n),(25,o),(27,p),(28,q),(29,r),(30,s),(34,t),(35,u),(36,v),(37,w),(41,x),(48,y),(56,z)] := by intros; rfl
       refine R_nil (tr ..) ?_; clear tr
       refine then_n ?_
       refine at_ret rfl ?_
       refine blk_r ?_
       refine blk_r ?_
       refine then_r ?_
       refine then_r ?_
       refine blk_r ?_
       refine blk_r ?_
       refine then_r ?_
       refine then_r ?_
       refine blk_r ?_
       refine then_r ?_
       first | (refine fpure ?_; refine ⟨?_, rfl⟩; rw [ct_a (by omega)]; done) | (refine fpure ?_; refine ⟨?_, rfl⟩; rw [ct_b (by omega) (by omega)]; done) | (refine fpure ?_; refine ⟨?_, rfl⟩; rw [ct_c (u := u) (by omega) (by omega) (by omega) hln (by omega)]; done) | (refine fpure ?_; refine ⟨?_, rfl⟩; rw [ct_d (by omega) (by omega) hll (u := v) (j := w) (by omega) (by omega) hro hw0 (e := 2) (by rw [trE, if_pos (by omega)]) (by decide)]; done) | (refine fpure ?_; refine ⟨?_, rfl⟩; rw [ct_d (by omega) (by omega) hll (u := v) (j := w) (by omega) (by omega) hro hw0 (e := 11) (by rw [trE, if_neg (by omega), if_pos (by omega)]) (by decide)]; done) | (refine fpure ?_; refine ⟨?_, rfl⟩; rw [ct_d (by omega) (by omega) hll (u := v) (j := w) (by omega) (by omega) hro hw0 (e := 13) (by rw [trE, if_neg (by omega), if_neg (by omega), if_pos (by omega)]) (by decide)]; done) | (refine fpure ?_; refine ⟨?_, rfl⟩; rw [ct_e (by omega) (by omega) hll (by rw [← show v = t.length by omega]; exact hro)]; done)
      ·
       try simp only [decide_eq_true_eq, decide_eq_false_iff_not, Bool.not_eq_true', Bool.not_eq_false', beq_iff_eq, beq_eq_false_iff_ne, ne_eq] at h7
       refine Ry ?_
       refine Rq ?_
       refine Ry ?_
       refine Rq ?_
       refine Rq ?_
       refine Rq ?_
       have tr : ∀ a b c d e f g h i j k m n o p q r s t u v w x y z A B C D E F G : AV, let l := lc_rtravel_ok a b c d e f g h i j k m n o p q r s t u v w x y z; trim ((41,G)::(47,F)::(46,E)::(45,D)::(44,C)::(43,B)::(42,A)::l) l = [(0,a),(2,b),(4,c),(5,d),(6,e),(7,f),(8,g),(11,h),(14,i),(15,j),(16,k),(17,m),(18,n),(25,o),(27,p),(28,q),(29,r),(30,s),(34,t),(35,u),(36,v),(37,w),(41,G),(48,y),(56,z)] := by intros; rfl
       refine R_nil (tr ..) ?_; clear tr
       refine then_n ?_
       refine cdd (fun h8 => ?_) (fun h8 => ?_)
       ·
        try simp only [decide_eq_true_eq, decide_eq_false_iff_not, Bool.not_eq_true', Bool.not_eq_false', beq_iff_eq, beq_eq_false_iff_ne, ne_eq] at h8
        refine at_seq rfl ?_
        refine rg rfl ?_
        refine Rq ?_
        have tr : ∀ a b c d e f g h i j k m n o p q r s t u v w x y z A : AV, let l := lc_rtravel_ok a b c d e f g h i j k m n o p q r s t u v w x y z; trim ((2,A)::l) l = [(0,a),(2,A),(4,c),(5,d),(6,e),(7,f),(8,g),(11,h),(14,i),(15,j),(16,k),(17,m),(18,n),(25,o),(27,p),(28,q),(29,r),(30,s),(34,t),(35,u),(36,v),(37,w),(41,x),(48,y),(56,z)] := by intros; rfl
        refine R_nil (tr ..) ?_; clear tr
        refine then_n ?_
        refine at_ret rfl ?_
        refine blk_r ?_
        refine blk_r ?_
        refine then_r ?_
        refine then_r ?_
        refine blk_r ?_
        refine blk_r ?_
        refine then_r ?_
        refine then_r ?_
        refine blk_r ?_
        refine then_r ?_
        first | (refine fpure ?_; refine ⟨?_, rfl⟩; rw [ct_a (by omega)]; done) | (refine fpure ?_; refine ⟨?_, rfl⟩; rw [ct_b (by omega) (by omega)]; done) | (refine fpure ?_; refine ⟨?_, rfl⟩; rw [ct_c (u := u) (by omega) (by omega) (by omega) hln (by omega)]; done) | (refine fpure ?_; refine ⟨?_, rfl⟩; rw [ct_d (by omega) (by omega) hll (u := v) (j := w) (by omega) (by omega) hro hw0 (e := 2) (by rw [trE, if_pos (by omega)]) (by decide)]; done) | (refine fpure ?_; refine ⟨?_, rfl⟩; rw [ct_d (by omega) (by omega) hll (u := v) (j := w) (by omega) (by omega) hro hw0 (e := 11) (by rw [trE, if_neg (by omega), if_pos (by omega)]) (by decide)]; done) | (refine fpure ?_; refine ⟨?_, rfl⟩; rw [ct_d (by omega) (by omega) hll (u := v) (j := w) (by omega) (by omega) hro hw0 (e := 13) (by rw [trE, if_neg (by omega), if_neg (by omega), if_pos (by omega)]) (by decide)]; done) | (refine fpure ?_; refine ⟨?_, rfl⟩; rw [ct_e (by omega) (by omega) hll (by rw [← show v = t.length by omega]; exact hro)]; done)
       ·
        try simp only [decide_eq_true_eq, decide_eq_false_iff_not, Bool.not_eq_true', Bool.not_eq_false', beq_iff_eq, beq_eq_false_iff_ne, ne_eq] at h8
        refine at_seq rfl ?_
        refine rg rfl ?_
        refine Rq ?_
        refine Rq ?_
        refine Rq ?_
        refine Rq ?_
        refine Rp_split (fun h9 => ?_) (fun h9 => ?_)
        ·
         try simp only [decide_eq_true_eq, decide_eq_false_iff_not, Bool.not_eq_true', Bool.not_eq_false', beq_iff_eq, beq_eq_false_iff_ne, ne_eq] at h9
         refine Ry ?_
         refine Rq ?_
         refine Ry ?_
         refine Rq ?_
         refine Rq ?_
         refine Rq ?_
         have tr : ∀ a b c d e f g h i j k m n o p q r s t u v w x y z A B C D E F G H : AV, let l := lc_rtravel_ok a b c d e f g h i j k m n o p q r s t u v w x y z; trim ((48,H)::(55,G)::(54,F)::(53,E)::(52,D)::(51,C)::(50,B)::(49,A)::l) l = [(0,a),(2,b),(4,c),(5,d),(6,e),(7,f),(8,g),(11,h),(14,i),(15,j),(16,k),(17,m),(18,n),(25,o),(27,p),(28,q),(29,r),(30,s),(34,t),(35,u),(36,v),(37,w),(41,x),(48,H),(56,z)] := by intros; rfl
         refine R_nil (tr ..) ?_; clear tr
         refine then_n ?_
         refine cdd (fun h10 => ?_) (fun h10 => ?_)
         ·
          try simp only [decide_eq_true_eq, decide_eq_false_iff_not, Bool.not_eq_true', Bool.not_eq_false', beq_iff_eq, beq_eq_false_iff_ne, ne_eq] at h10
          refine at_seq rfl ?_
          refine rg rfl ?_
          refine Rq ?_
          have tr : ∀ a b c d e f g h i j k m n o p q r s t u v w x y z A : AV, let l := lc_rtravel_ok a b c d e f g h i j k m n o p q r s t u v w x y z; trim ((2,A)::l) l = [(0,a),(2,A),(4,c),(5,d),(6,e),(7,f),(8,g),(11,h),(14,i),(15,j),(16,k),(17,m),(18,n),(25,o),(27,p),(28,q),(29,r),(30,s),(34,t),(35,u),(36,v),(37,w),(41,x),(48,y),(56,z)] := by intros; rfl
          refine R_nil (tr ..) ?_; clear tr
          refine then_n ?_
          refine at_ret rfl ?_
          refine blk_r ?_
          refine blk_r ?_
          refine then_r ?_
          refine then_r ?_
          refine blk_r ?_
          refine blk_r ?_
          refine then_r ?_
          refine then_r ?_
          refine blk_r ?_
          refine then_r ?_
          first | (refine fpure ?_; refine ⟨?_, rfl⟩; rw [ct_a (by omega)]; done) | (refine fpure ?_; refine ⟨?_, rfl⟩; rw [ct_b (by omega) (by omega)]; done) | (refine fpure ?_; refine ⟨?_, rfl⟩; rw [ct_c (u := u) (by omega) (by omega) (by omega) hln (by omega)]; done) | (refine fpure ?_; refine ⟨?_, rfl⟩; rw [ct_d (by omega) (by omega) hll (u := v) (j := w) (by omega) (by omega) hro hw0 (e := 2) (by rw [trE, if_pos (by omega)]) (by decide)]; done) | (refine fpure ?_; refine ⟨?_, rfl⟩; rw [ct_d (by omega) (by omega) hll (u := v) (j := w) (by omega) (by omega) hro hw0 (e := 11) (by rw [trE, if_neg (by omega), if_pos (by omega)]) (by decide)]; done) | (refine fpure ?_; refine ⟨?_, rfl⟩; rw [ct_d (by omega) (by omega) hll (u := v) (j := w) (by omega) (by omega) hro hw0 (e := 13) (by rw [trE, if_neg (by omega), if_neg (by omega), if_pos (by omega)]) (by decide)]; done) | (refine fpure ?_; refine ⟨?_, rfl⟩; rw [ct_e (by omega) (by omega) hll (by rw [← show v = t.length by omega]; exact hro)]; done)
         ·
          try simp only [decide_eq_true_eq, decide_eq_false_iff_not, Bool.not_eq_true', Bool.not_eq_false', beq_iff_eq, beq_eq_false_iff_ne, ne_eq] at h10
          refine at_seq rfl ?_
          refine rg rfl ?_
          have hlw := hlen w (by omega)
          refine Rq ?_
          refine Rq ?_
          refine Rq ?_
          refine Rq ?_
          refine Rq ?_
          refine Rq ?_
          refine Rq ?_
          refine Rq ?_
          refine Rq ?_
          refine Rq ?_
          have tr : ∀ a b c d e f g h i j k m n o p q r s t u v w x y z A B C D E F G H I J : AV, let l := lc_rtravel_ok a b c d e f g h i j k m n o p q r s t u v w x y z; trim ((56,J)::(65,I)::(64,H)::(63,G)::(62,F)::(61,E)::(60,D)::(59,C)::(58,B)::(57,A)::l) l = [(0,a),(2,b),(4,c),(5,d),(6,e),(7,f),(8,g),(11,h),(14,i),(15,j),(16,k),(17,m),(18,n),(25,o),(27,p),(28,q),(29,r),(30,s),(34,t),(35,u),(36,v),(37,w),(41,x),(48,y),(56,J)] := by intros; rfl
          refine R_nil (tr ..) ?_; clear tr
          refine then_n ?_
          refine cdd (fun h11 => ?_) (fun h11 => ?_)
          ·
           try simp only [decide_eq_true_eq, decide_eq_false_iff_not, Bool.not_eq_true', Bool.not_eq_false', beq_iff_eq, beq_eq_false_iff_ne, ne_eq] at h11
           refine at_seq rfl ?_
           refine rg rfl ?_
           refine Rq ?_
           have tr : ∀ a b c d e f g h i j k m n o p q r s t u v w x y z A : AV, let l := lc_rtravel_ok a b c d e f g h i j k m n o p q r s t u v w x y z; trim ((2,A)::l) l = [(0,a),(2,A),(4,c),(5,d),(6,e),(7,f),(8,g),(11,h),(14,i),(15,j),(16,k),(17,m),(18,n),(25,o),(27,p),(28,q),(29,r),(30,s),(34,t),(35,u),(36,v),(37,w),(41,x),(48,y),(56,z)] := by intros; rfl
           refine R_nil (tr ..) ?_; clear tr
           refine then_n ?_
           refine at_ret rfl ?_
           refine blk_r ?_
           refine blk_r ?_
           refine then_r ?_
           refine then_r ?_
           refine blk_r ?_
           refine blk_r ?_
           refine then_r ?_
           refine then_r ?_
           refine blk_r ?_
           refine then_r ?_
           first | (refine fpure ?_; refine ⟨?_, rfl⟩; rw [ct_a (by omega)]; done) | (refine fpure ?_; refine ⟨?_, rfl⟩; rw [ct_b (by omega) (by omega)]; done) | (refine fpure ?_; refine ⟨?_, rfl⟩; rw [ct_c (u := u) (by omega) (by omega) (by omega) hln (by omega)]; done) | (refine fpure ?_; refine ⟨?_, rfl⟩; rw [ct_d (by omega) (by omega) hll (u := v) (j := w) (by omega) (by omega) hro hw0 (e := 2) (by rw [trE, if_pos (by omega)]) (by decide)]; done) | (refine fpure ?_; refine ⟨?_, rfl⟩; rw [ct_d (by omega) (by omega) hll (u := v) (j := w) (by omega) (by omega) hro hw0 (e := 11) (by rw [trE, if_neg (by omega), if_pos (by omega)]) (by decide)]; done) | (refine fpure ?_; refine ⟨?_, rfl⟩; rw [ct_d (by omega) (by omega) hll (u := v) (j := w) (by omega) (by omega) hro hw0 (e := 13) (by rw [trE, if_neg (by omega), if_neg (by omega), if_pos (by omega)]) (by decide)]; done) | (refine fpure ?_; refine ⟨?_, rfl⟩; rw [ct_e (by omega) (by omega) hll (by rw [← show v = t.length by omega]; exact hro)]; done)
          ·
           try simp only [decide_eq_true_eq, decide_eq_false_iff_not, Bool.not_eq_true', Bool.not_eq_false', beq_iff_eq, beq_eq_false_iff_ne, ne_eq] at h11
           refine at_skip rfl ?_
           refine blk_n ?_
           refine blk_n ?_
           refine then_n ?_
           refine rg rfl ?_
           refine Rq ?_
           refine Rq ?_
           have tr : ∀ a b c d e f g h i j k m n o p q r s t u v w x y z A B : AV, let l := lc_rtravel_ok a b c d e f g h i j k m n o p q r s t u v w x y z; trim ((36,B)::(66,A)::l) l = [(0,a),(2,b),(4,c),(5,d),(6,e),(7,f),(8,g),(11,h),(14,i),(15,j),(16,k),(17,m),(18,n),(25,o),(27,p),(28,q),(29,r),(30,s),(34,t),(35,u),(36,B),(37,w),(41,x),(48,y),(56,z)] := by intros; rfl
           refine R_nil (tr ..) ?_; clear tr
           refine then_n ?_
           exact ⟨_, _, ⟨w + 1, _, _, _, _, _, _, _, rfl, rfl, rfl, by omega, by exact ferr_ok hw0 (by rw [trE, if_neg (by omega), if_neg (by omega), if_neg (by omega)])⟩, by rfl, by omega⟩
        ·
         try simp only [decide_eq_true_eq, decide_eq_false_iff_not, Bool.not_eq_true', Bool.not_eq_false', beq_iff_eq, beq_eq_false_iff_ne, ne_eq] at h9
         refine Rn ?_
         refine Rn ?_
         refine Rq ?_
         refine Rq ?_
         have tr : ∀ a b c d e f g h i j k m n o p q r s t u v w x y z A B C D E F G H : AV, let l := lc_rtravel_ok a b c d e f g h i j k m n o p q r s t u v w x y z; trim ((48,H)::(55,G)::(54,F)::(53,E)::(52,D)::(51,C)::(50,B)::(49,A)::l) l = [(0,a),(2,b),(4,c),(5,d),(6,e),(7,f),(8,g),(11,h),(14,i),(15,j),(16,k),(17,m),(18,n),(25,o),(27,p),(28,q),(29,r),(30,s),(34,t),(35,u),(36,v),(37,w),(41,x),(48,H),(56,z)] := by intros; rfl
         refine R_nil (tr ..) ?_; clear tr
         refine then_n ?_
         refine cdf ?_
         refine at_seq rfl ?_
         refine rg rfl ?_
         have hlw := hlen w (by omega)
         refine Rq ?_
         refine Rq ?_
         refine Rq ?_
         refine Rq ?_
         refine Rq ?_
         refine Rq ?_
         refine Rq ?_
         refine Rq ?_
         refine Rq ?_
         refine Rq ?_
         have tr : ∀ a b c d e f g h i j k m n o p q r s t u v w x y z A B C D E F G H I J : AV, let l := lc_rtravel_ok a b c d e f g h i j k m n o p q r s t u v w x y z; trim ((56,J)::(65,I)::(64,H)::(63,G)::(62,F)::(61,E)::(60,D)::(59,C)::(58,B)::(57,A)::l) l = [(0,a),(2,b),(4,c),(5,d),(6,e),(7,f),(8,g),(11,h),(14,i),(15,j),(16,k),(17,m),(18,n),(25,o),(27,p),(28,q),(29,r),(30,s),(34,t),(35,u),(36,v),(37,w),(41,x),(48,y),(56,J)] := by intros; rfl
         refine R_nil (tr ..) ?_; clear tr
         refine then_n ?_
         refine cdd (fun h12 => ?_) (fun h12 => ?_)
         ·
          try simp only [decide_eq_true_eq, decide_eq_false_iff_not, Bool.not_eq_true', Bool.not_eq_false', beq_iff_eq, beq_eq_false_iff_ne, ne_eq] at h12
          refine at_seq rfl ?_
          refine rg rfl ?_
          refine Rq ?_
          have tr : ∀ a b c d e f g h i j k m n o p q r s t u v w x y z A : AV, let l := lc_rtravel_ok a b c d e f g h i j k m n o p q r s t u v w x y z; trim ((2,A)::l) l = [(0,a),(2,A),(4,c),(5,d),(6,e),(7,f),(8,g),(11,h),(14,i),(15,j),(16,k),(17,m),(18,n),(25,o),(27,p),(28,q),(29,r),(30,s),(34,t),(35,u),(36,v),(37,w),(41,x),(48,y),(56,z)] := by intros; rfl
          refine R_nil (tr ..) ?_; clear tr
          refine then_n ?_
          refine at_ret rfl ?_
          refine blk_r ?_
          refine blk_r ?_
          refine then_r ?_
          refine then_r ?_
          refine blk_r ?_
          refine blk_r ?_
          refine then_r ?_
          refine then_r ?_
          refine blk_r ?_
          refine then_r ?_
          first | (refine fpure ?_; refine ⟨?_, rfl⟩; rw [ct_a (by omega)]; done) | (refine fpure ?_; refine ⟨?_, rfl⟩; rw [ct_b (by omega) (by omega)]; done) | (refine fpure ?_; refine ⟨?_, rfl⟩; rw [ct_c (u := u) (by omega) (by omega) (by omega) hln (by omega)]; done) | (refine fpure ?_; refine ⟨?_, rfl⟩; rw [ct_d (by omega) (by omega) hll (u := v) (j := w) (by omega) (by omega) hro hw0 (e := 2) (by rw [trE, if_pos (by omega)]) (by decide)]; done) | (refine fpure ?_; refine ⟨?_, rfl⟩; rw [ct_d (by omega) (by omega) hll (u := v) (j := w) (by omega) (by omega) hro hw0 (e := 11) (by rw [trE, if_neg (by omega), if_pos (by omega)]) (by decide)]; done) | (refine fpure ?_; refine ⟨?_, rfl⟩; rw [ct_d (by omega) (by omega) hll (u := v) (j := w) (by omega) (by omega) hro hw0 (e := 13) (by rw [trE, if_neg (by omega), if_neg (by omega), if_pos (by omega)]) (by decide)]; done) | (refine fpure ?_; refine ⟨?_, rfl⟩; rw [ct_e (by omega) (by omega) hll (by rw [← show v = t.length by omega]; exact hro)]; done)
         ·
          try simp only [decide_eq_true_eq, decide_eq_false_iff_not, Bool.not_eq_true', Bool.not_eq_false', beq_iff_eq, beq_eq_false_iff_ne, ne_eq] at h12
          refine at_skip rfl ?_
          refine blk_n ?_
          refine blk_n ?_
          refine then_n ?_
          refine rg rfl ?_
          refine Rq ?_
          refine Rq ?_
          have tr : ∀ a b c d e f g h i j k m n o p q r s t u v w x y z A B : AV, let l := lc_rtravel_ok a b c d e f g h i j k m n o p q r s t u v w x y z; trim ((36,B)::(66,A)::l) l = [(0,a),(2,b),(4,c),(5,d),(6,e),(7,f),(8,g),(11,h),(14,i),(15,j),(16,k),(17,m),(18,n),(25,o),(27,p),(28,q),(29,r),(30,s),(34,t),(35,u),(36,B),(37,w),(41,x),(48,y),(56,z)] := by intros; rfl
          refine R_nil (tr ..) ?_; clear tr
          refine then_n ?_
          exact ⟨_, _, ⟨w + 1, _, _, _, _, _, _, _, rfl, rfl, rfl, by omega, by exact ferr_ok hw0 (by rw [trE, if_neg (by omega), if_neg (by omega), if_neg (by omega)])⟩, by rfl, by omega⟩
     ·
      try simp only [decide_eq_true_eq, decide_eq_false_iff_not, Bool.not_eq_true', Bool.not_eq_false', beq_iff_eq, beq_eq_false_iff_ne, ne_eq] at h6
      refine at_exit rfl ?_
      refine then_x ?_
      refine then_x ?_
      refine blk_x ?_
      refine blk_n ?_
      refine then_n ?_
      refine rg rfl ?_
      refine Rq ?_
      refine Rq ?_
      have tr : ∀ a b c d e f g h i j k m n o p q r s t u v w x y z A B : AV, let l := lc_rtravel_ok a b c d e f g h i j k m n o p q r s t u v w x y z; trim ((29,B)::(67,A)::l) l = [(0,a),(2,b),(4,c),(5,d),(6,e),(7,f),(8,g),(11,h),(14,i),(15,j),(16,k),(17,m),(18,n),(25,o),(27,p),(28,q),(29,B),(30,s),(34,t),(35,u),(36,v),(37,w),(41,x),(48,y),(56,z)] := by intros; rfl
      refine R_nil (tr ..) ?_; clear tr
      refine then_n ?_
      exact ⟨_, _, ⟨v + 1, _, _, _, _, _, _, _, _, _, _, _, _, _, rfl, rfl, rfl, by omega, by exact ferr_ok hro (by rw [rowE, ← show w = t.length by omega]; exact hw0)⟩, by rfl, by omega⟩
    ·
     try simp only [decide_eq_true_eq, decide_eq_false_iff_not, Bool.not_eq_true', Bool.not_eq_false', beq_iff_eq, beq_eq_false_iff_ne, ne_eq] at h5
     refine at_exit rfl ?_
     refine then_x ?_
     refine then_x ?_
     refine blk_x ?_
     refine then_n ?_
     refine at_seq rfl ?_
     refine rg rfl ?_
     refine Rq ?_
     have tr : ∀ a b c d e f g h i j k m n o p q r s t u v w x y z A : AV, let l := lc_rtravel_ok a b c d e f g h i j k m n o p q r s t u v w x y z; trim ((2,A)::l) l = [(0,a),(2,A),(4,c),(5,d),(6,e),(7,f),(8,g),(11,h),(14,i),(15,j),(16,k),(17,m),(18,n),(25,o),(27,p),(28,q),(29,r),(30,s),(34,t),(35,u),(36,v),(37,w),(41,x),(48,y),(56,z)] := by intros; rfl
     refine R_nil (tr ..) ?_; clear tr
     refine then_n ?_
     refine at_ret rfl ?_
     first | (refine fpure ?_; refine ⟨?_, rfl⟩; rw [ct_a (by omega)]; done) | (refine fpure ?_; refine ⟨?_, rfl⟩; rw [ct_b (by omega) (by omega)]; done) | (refine fpure ?_; refine ⟨?_, rfl⟩; rw [ct_c (u := u) (by omega) (by omega) (by omega) hln (by omega)]; done) | (refine fpure ?_; refine ⟨?_, rfl⟩; rw [ct_d (by omega) (by omega) hll (u := v) (j := w) (by omega) (by omega) hro hw0 (e := 2) (by rw [trE, if_pos (by omega)]) (by decide)]; done) | (refine fpure ?_; refine ⟨?_, rfl⟩; rw [ct_d (by omega) (by omega) hll (u := v) (j := w) (by omega) (by omega) hro hw0 (e := 11) (by rw [trE, if_neg (by omega), if_pos (by omega)]) (by decide)]; done) | (refine fpure ?_; refine ⟨?_, rfl⟩; rw [ct_d (by omega) (by omega) hll (u := v) (j := w) (by omega) (by omega) hro hw0 (e := 13) (by rw [trE, if_neg (by omega), if_neg (by omega), if_pos (by omega)]) (by decide)]; done) | (refine fpure ?_; refine ⟨?_, rfl⟩; rw [ct_e (by omega) (by omega) hll (by rw [← show v = t.length by omega]; exact hro)]; done)

end Go.Proofs.YtocmcdejkoejhaaDoor
