/-
  Walks of chapter 48. The steps are written by program (walk.py).
-/
import Derived.Test.YtocmcdejkoejhaaDoorK8
import Derived.Test.YtocmcdejkoejhaaDoorRA
set_option linter.unusedSimpArgs false
set_option linter.unusedVariables false
set_option maxHeartbeats 1000000
set_option maxRecDepth 20000
namespace Go.Proofs.YtocmcdejkoejhaaDoor
open Go Go.Am
abbrev lc_date_ok (a b c d e f g h : AV) : Env := [(0,a),(2,b),(3,c),(4,d),(5,e),(8,f),(12,g),(23,h)]
theorem date_ok (lim : Nat) (H : Heap) (n : Int) : ACall sig lim 16 [AV.i n] H fun r H' => (r = .tup [AV.i (dtS n).1.1, AV.i (dtS n).1.2.1, AV.i (dtS n).1.2.2, AV.i (dtS n).2] ∧ (0 ≤ n ∧ n ≤ 109572 → DateR n (dateS n).1 (dateS n).2.1 (dateS n).2.2)) ∧ H' = H := by
 refine ACall_pure (fa := fa16) rfl rfl rfl rfl ?_
 have tr : ∀ a0 : AV, env0 fa16.keep [a0] = [(0,a0),(2,.any),(3,.any),(4,.any),(5,.any),(8,.any),(12,.any),(23,.any)] := fun a0 => rfl
 refine W_to (tr _) ?_; clear tr
 refine at_seq rfl ?_
 refine rg rfl ?_
 refine Rq ?_
 refine Rq ?_
 refine Rq ?_
 refine Rq ?_
 have tr : ∀ a b c d e f g h i j k m : AV, let l := lc_date_ok a b c d e f g h; trim ((5,m)::(4,k)::(3,j)::(2,i)::l) l = [(0,a),(2,i),(3,j),(4,k),(5,m),(8,f),(12,g),(23,h)] := by intros; rfl
 refine R_nil (tr ..) ?_; clear tr
 refine then_n ?_
 refine at_seq rfl ?_
 refine at_seq rfl ?_
 refine rg rfl ?_
 refine Rq ?_
 refine Rcall ?_
 refine ACall_eq (inside_ok _ _ _) ?_
 refine Rq ?_
 have tr : ∀ a b c d e f g h i j k : AV, let l := lc_date_ok a b c d e f g h; trim ((8,k)::(7,j)::(6,i)::l) l = [(0,a),(2,b),(3,c),(4,d),(5,e),(8,k),(12,g),(23,h)] := by intros; rfl
 refine R_nil (tr ..) ?_; clear tr
 refine then_n ?_
 refine cdd (fun h1 => ?_) (fun h1 => ?_)
 ·
  try simp only [decide_eq_true_eq, decide_eq_false_iff_not, Bool.not_eq_true', Bool.not_eq_false', beq_iff_eq, beq_eq_false_iff_ne, ne_eq] at h1
  refine at_seq rfl ?_
  refine rg rfl ?_
  refine Rq ?_
  refine Rq ?_
  refine Rq ?_
  refine Rq ?_
  have tr : ∀ a b c d e f g h i j k m : AV, let l := lc_date_ok a b c d e f g h; trim ((5,m)::(4,k)::(3,j)::(2,i)::l) l = [(0,a),(2,i),(3,j),(4,k),(5,m),(8,f),(12,g),(23,h)] := by intros; rfl
  refine R_nil (tr ..) ?_; clear tr
  refine then_n ?_
  refine at_ret rfl ?_
  refine then_r ?_
  first | (refine fpure ?_; refine ⟨⟨?_, fun hh => by omega⟩, rfl⟩; rw [dtS, if_pos (by omega)]; done) | (have hD : DateR n y m (z + 1) := ⟨u, v, hu, hv, hy, hm, by omega, by omega, by omega⟩; refine fpure ?_; refine ⟨⟨?_, fun _ => dateS_R hD⟩, rfl⟩; rw [dtS, if_neg (by omega), dateS_eq hD]; done)
 ·
  try simp only [decide_eq_true_eq, decide_eq_false_iff_not, Bool.not_eq_true', Bool.not_eq_false', beq_iff_eq, beq_eq_false_iff_ne, ne_eq] at h1
  refine at_skip rfl ?_
  refine then_n ?_
  refine at_seq rfl ?_
  refine rg rfl ?_
  refine Rq ?_
  refine Rq ?_
  have tr : ∀ a b c d e f g h i j : AV, let l := lc_date_ok a b c d e f g h; trim ((3,j)::(2,i)::l) l = [(0,a),(2,i),(3,j),(4,d),(5,e),(8,f),(12,g),(23,h)] := by intros; rfl
  refine R_nil (tr ..) ?_; clear tr
  refine then_n ?_
  refine at_seq rfl ?_
  refine at_block rfl ?_
  refine loop_n rfl (fun mm kv H' => ∃ u : Nat, ∃ x : Int, ∃ y : Int, ∃ x12 : AV, (kv = [(0, AV.i x), (2, AV.i y), (12, x12)]) ∧ (mm = 300 - u) ∧ (H' = H) ∧ (u < 300) ∧ (x = n - yS u) ∧ (0 ≤ x) ∧ (y = 1900 + (u : Int))) ⟨0, n, 1900, _, rfl, rfl, rfl, by omega, by (rw [yS]; omega), by omega, by omega⟩ (by rfl) ?_
  rintro mm kv H' ⟨u, x, y, x12, rfl, rfl, rfl, hu, hx, hx0, hy⟩
  have tr : ∀ a b c d e f g h i j k : AV, upd [(0,a),(2,b),(3,c),(4,d),(5,e),(8,f),(12,g),(23,h)] [(0,i),(2,j),(12,k)] = [(0,i),(2,j),(3,c),(4,d),(5,e),(8,f),(12,k),(23,h)] := by intros; rfl
  refine W_to (tr ..) ?_; clear tr
  obtain ⟨H, hHH⟩ : ∃ x, x = H' := ⟨_, rfl⟩
  subst hHH
  have hyr := yS_rng u
  have hdr := daysS_pos y
  have hys : yS (u + 1) = yS u + daysS y := by rw [yS, ← hy]
  refine at_seq rfl ?_
  refine at_seq rfl ?_
  refine rg rfl ?_
  refine Rq ?_
  refine Rq ?_
  refine Rcall ?_
  refine ACall_eq (days_ok _ _ _) ?_
  refine Rq ?_
  have tr : ∀ a b c d e f g h i j k m : AV, let l := lc_date_ok a b c d e f g h; trim ((12,m)::(11,k)::(10,j)::(9,i)::l) l = [(0,a),(2,b),(3,c),(4,d),(5,e),(8,f),(12,m),(23,h)] := by intros; rfl
  refine R_nil (tr ..) ?_; clear tr
  refine then_n ?_
  refine cdd (fun h2 => ?_) (fun h2 => ?_)
  ·
   try simp only [decide_eq_true_eq, decide_eq_false_iff_not, Bool.not_eq_true', Bool.not_eq_false', beq_iff_eq, beq_eq_false_iff_ne, ne_eq] at h2
   refine at_skip rfl ?_
   refine then_n ?_
   refine at_block rfl ?_
   refine at_seq rfl ?_
   refine rg rfl ?_
   refine Rq ?_
   refine Rq ?_
   refine Rcall ?_
   refine ACall_eq (days_ok _ _ _) ?_
   refine Rq ?_
   refine Rq ?_
   have tr : ∀ a b c d e f g h i j k m n : AV, let l := lc_date_ok a b c d e f g h; trim ((0,n)::(16,m)::(15,k)::(14,j)::(13,i)::l) l = [(0,n),(2,b),(3,c),(4,d),(5,e),(8,f),(12,g),(23,h)] := by intros; rfl
   refine R_nil (tr ..) ?_; clear tr
   refine then_n ?_
   refine rg rfl ?_
   refine Rq ?_
   refine Rq ?_
   refine Rq ?_
   have tr : ∀ a b c d e f g h i j k : AV, let l := lc_date_ok a b c d e f g h; trim ((2,k)::(18,j)::(17,i)::l) l = [(0,a),(2,k),(3,c),(4,d),(5,e),(8,f),(12,g),(23,h)] := by intros; rfl
   refine R_nil (tr ..) ?_; clear tr
   refine blk_n ?_
   refine then_n ?_
   exact ⟨_, _, ⟨u + 1, x - daysS y, y + 1, _, rfl, rfl, rfl, by exact yL_next (n := n) (by omega) (by omega), by omega, by omega, by omega⟩, by rfl, by omega⟩
  ·
   try simp only [decide_eq_true_eq, decide_eq_false_iff_not, Bool.not_eq_true', Bool.not_eq_false', beq_iff_eq, beq_eq_false_iff_ne, ne_eq] at h2
   refine at_exit rfl ?_
   refine then_x ?_
   refine then_x ?_
   refine blk_x ?_
   refine then_n ?_
   refine at_seq rfl ?_
   refine at_block rfl ?_
   refine loop_n rfl (fun mm kv H' => ∃ v : Nat, ∃ z : Int, ∃ m : Int, ∃ x23 : AV, (kv = [(0, AV.i z), (3, AV.i m), (23, x23)]) ∧ (mm = 12 - v) ∧ (H' = H) ∧ (v < 12) ∧ (z = x - mS y v) ∧ (0 ≤ z) ∧ (m = 1 + (v : Int))) ⟨0, x, 1, _, rfl, rfl, rfl, by omega, by (rw [mS]; omega), by omega, by omega⟩ (by rfl) ?_
   rintro mm kv H' ⟨v, z, m, x23, rfl, rfl, rfl, hv, hz, hz0, hm⟩
   have tr : ∀ a b c d e f g h i j k : AV, upd [(0,a),(2,b),(3,c),(4,d),(5,e),(8,f),(12,g),(23,h)] [(0,i),(3,j),(23,k)] = [(0,i),(2,b),(3,j),(4,d),(5,e),(8,f),(12,g),(23,k)] := by intros; rfl
   refine W_to (tr ..) ?_; clear tr
   obtain ⟨H, hHH⟩ : ∃ x, x = H' := ⟨_, rfl⟩
   subst hHH
   have hlr := lenS_pos y m
   have hmr := mS_rng y v
   have hms : mS y (v + 1) = mS y v + lenS y m := by rw [mS, ← hm]
   refine at_seq rfl ?_
   refine at_seq rfl ?_
   refine rg rfl ?_
   refine Rq ?_
   refine Rq ?_
   refine Rq ?_
   refine Rcall ?_
   refine ACall_eq (length_ok _ _ _ _) ?_
   refine Rq ?_
   have tr : ∀ a b c d e f g h i j k m n : AV, let l := lc_date_ok a b c d e f g h; trim ((23,n)::(22,m)::(21,k)::(20,j)::(19,i)::l) l = [(0,a),(2,b),(3,c),(4,d),(5,e),(8,f),(12,g),(23,n)] := by intros; rfl
   refine R_nil (tr ..) ?_; clear tr
   refine then_n ?_
   refine cdd (fun h3 => ?_) (fun h3 => ?_)
   ·
    try simp only [decide_eq_true_eq, decide_eq_false_iff_not, Bool.not_eq_true', Bool.not_eq_false', beq_iff_eq, beq_eq_false_iff_ne, ne_eq] at h3
    refine at_skip rfl ?_
    refine then_n ?_
    refine at_block rfl ?_
    refine at_seq rfl ?_
    refine rg rfl ?_
    refine Rq ?_
    refine Rq ?_
    refine Rq ?_
    refine Rcall ?_
    refine ACall_eq (length_ok _ _ _ _) ?_
    refine Rq ?_
    refine Rq ?_
    have tr : ∀ a b c d e f g h i j k m n o : AV, let l := lc_date_ok a b c d e f g h; trim ((0,o)::(28,n)::(27,m)::(26,k)::(25,j)::(24,i)::l) l = [(0,o),(2,b),(3,c),(4,d),(5,e),(8,f),(12,g),(23,h)] := by intros; rfl
    refine R_nil (tr ..) ?_; clear tr
    refine then_n ?_
    refine rg rfl ?_
    refine Rq ?_
    refine Rq ?_
    refine Rq ?_
    have tr : ∀ a b c d e f g h i j k : AV, let l := lc_date_ok a b c d e f g h; trim ((3,k)::(30,j)::(29,i)::l) l = [(0,a),(2,b),(3,k),(4,d),(5,e),(8,f),(12,g),(23,h)] := by intros; rfl
    refine R_nil (tr ..) ?_; clear tr
    refine blk_n ?_
    refine then_n ?_
    exact ⟨_, _, ⟨v + 1, z - lenS y m, m + 1, _, rfl, rfl, rfl, by exact mL_next (x := x) (y := y) (by omega) (by omega), by omega, by omega, by omega⟩, by rfl, by omega⟩
   ·
    try simp only [decide_eq_true_eq, decide_eq_false_iff_not, Bool.not_eq_true', Bool.not_eq_false', beq_iff_eq, beq_eq_false_iff_ne, ne_eq] at h3
    refine at_exit rfl ?_
    refine then_x ?_
    refine then_x ?_
    refine blk_x ?_
    refine then_n ?_
    refine at_seq rfl ?_
    refine rg rfl ?_
    refine Rq ?_
    refine Rq ?_
    refine Rq ?_
    refine Rq ?_
    refine Rq ?_
    refine Rq ?_
    refine Rq ?_
    refine Rq ?_
    have tr : ∀ a b c d e f g h i j k m n o p q : AV, let l := lc_date_ok a b c d e f g h; trim ((5,q)::(4,p)::(3,o)::(2,n)::(34,m)::(33,k)::(32,j)::(31,i)::l) l = [(0,a),(2,n),(3,o),(4,p),(5,q),(8,f),(12,g),(23,h)] := by intros; rfl
    refine R_nil (tr ..) ?_; clear tr
    refine then_n ?_
    refine at_ret rfl ?_
    first | (refine fpure ?_; refine ⟨⟨?_, fun hh => by omega⟩, rfl⟩; rw [dtS, if_pos (by omega)]; done) | (have hD : DateR n y m (z + 1) := ⟨u, v, hu, hv, hy, hm, by omega, by omega, by omega⟩; refine fpure ?_; refine ⟨⟨?_, fun _ => dateS_R hD⟩, rfl⟩; rw [dtS, if_neg (by omega), dateS_eq hD]; done)

abbrev lc_rdate_ok (a b c d e f g h i : AV) : Env := [(0,a),(2,b),(3,c),(4,d),(5,e),(6,f),(12,g),(18,h),(27,i)]
theorem rdate_ok (lim : Nat) (H : Heap) (n : Int) : ACall sig lim 36 [AV.i n] H fun r H' => (r = .tup [AV.i (dtS n).1.1, AV.i (dtS n).1.2.1, AV.i (dtS n).1.2.2, AV.i (dtS n).2] ∧ (0 ≤ n ∧ n ≤ 109572 → DateR n (dateS n).1 (dateS n).2.1 (dateS n).2.2)) ∧ H' = H := by
 refine ACall_pure (fa := fa36) rfl rfl rfl rfl ?_
 have tr : ∀ a0 : AV, env0 fa36.keep [a0] = [(0,a0),(2,.any),(3,.any),(4,.any),(5,.any),(6,.any),(12,.any),(18,.any),(27,.any)] := fun a0 => rfl
 refine W_to (tr _) ?_; clear tr
 refine at_seq rfl ?_
 refine rg rfl ?_
 refine Rq ?_
 refine Rq ?_
 refine Rq ?_
 refine Rq ?_
 have tr : ∀ a b c d e f g h i j k m n : AV, let l := lc_rdate_ok a b c d e f g h i; trim ((5,n)::(4,m)::(3,k)::(2,j)::l) l = [(0,a),(2,j),(3,k),(4,m),(5,n),(6,f),(12,g),(18,h),(27,i)] := by intros; rfl
 refine R_nil (tr ..) ?_; clear tr
 refine then_n ?_
 refine at_seq rfl ?_
 refine at_seq rfl ?_
 refine rg rfl ?_
 refine Rq ?_
 refine Rq ?_
 refine Rq ?_
 refine Rp_split (fun h1 => ?_) (fun h1 => ?_)
 ·
  try simp only [decide_eq_true_eq, decide_eq_false_iff_not, Bool.not_eq_true', Bool.not_eq_false', beq_iff_eq, beq_eq_false_iff_ne, ne_eq] at h1
  refine Rn ?_
  refine Rn ?_
  refine Rq ?_
  have tr : ∀ a b c d e f g h i j k m n o p : AV, let l := lc_rdate_ok a b c d e f g h i; trim ((12,p)::(11,o)::(10,n)::(9,m)::(8,k)::(7,j)::l) l = [(0,a),(2,b),(3,c),(4,d),(5,e),(6,f),(12,p),(18,h),(27,i)] := by intros; rfl
  refine R_nil (tr ..) ?_; clear tr
  refine then_n ?_
  refine cdt ?_
  refine at_seq rfl ?_
  refine rg rfl ?_
  refine Rq ?_
  refine Rq ?_
  refine Rq ?_
  refine Rq ?_
  have tr : ∀ a b c d e f g h i j k m n : AV, let l := lc_rdate_ok a b c d e f g h i; trim ((5,n)::(4,m)::(3,k)::(2,j)::l) l = [(0,a),(2,j),(3,k),(4,m),(5,n),(6,f),(12,g),(18,h),(27,i)] := by intros; rfl
  refine R_nil (tr ..) ?_; clear tr
  refine then_n ?_
  refine at_ret rfl ?_
  refine then_r ?_
  first | (refine fpure ?_; refine ⟨⟨?_, fun hh => by omega⟩, rfl⟩; rw [dtS, if_pos (by omega)]; done) | (have hD : DateR n y m (x + 1) := ⟨u, v, hu, hv, hy, hm, by omega, by omega, by omega⟩; refine fpure ?_; refine ⟨⟨?_, fun _ => dateS_R hD⟩, rfl⟩; rw [dtS, if_neg (by omega), dateS_eq hD]; done)
 ·
  try simp only [decide_eq_true_eq, decide_eq_false_iff_not, Bool.not_eq_true', Bool.not_eq_false', beq_iff_eq, beq_eq_false_iff_ne, ne_eq] at h1
  refine Ry ?_
  refine Rq ?_
  refine Ry ?_
  refine Rq ?_
  refine Rq ?_
  have tr : ∀ a b c d e f g h i j k m n o p : AV, let l := lc_rdate_ok a b c d e f g h i; trim ((12,p)::(11,o)::(10,n)::(9,m)::(8,k)::(7,j)::l) l = [(0,a),(2,b),(3,c),(4,d),(5,e),(6,f),(12,p),(18,h),(27,i)] := by intros; rfl
  refine R_nil (tr ..) ?_; clear tr
  refine then_n ?_
  refine cdd (fun h2 => ?_) (fun h2 => ?_)
  ·
   try simp only [decide_eq_true_eq, decide_eq_false_iff_not, Bool.not_eq_true', Bool.not_eq_false', beq_iff_eq, beq_eq_false_iff_ne, ne_eq] at h2
   refine at_seq rfl ?_
   refine rg rfl ?_
   refine Rq ?_
   refine Rq ?_
   refine Rq ?_
   refine Rq ?_
   have tr : ∀ a b c d e f g h i j k m n : AV, let l := lc_rdate_ok a b c d e f g h i; trim ((5,n)::(4,m)::(3,k)::(2,j)::l) l = [(0,a),(2,j),(3,k),(4,m),(5,n),(6,f),(12,g),(18,h),(27,i)] := by intros; rfl
   refine R_nil (tr ..) ?_; clear tr
   refine then_n ?_
   refine at_ret rfl ?_
   refine then_r ?_
   first | (refine fpure ?_; refine ⟨⟨?_, fun hh => by omega⟩, rfl⟩; rw [dtS, if_pos (by omega)]; done) | (have hD : DateR n y m (x + 1) := ⟨u, v, hu, hv, hy, hm, by omega, by omega, by omega⟩; refine fpure ?_; refine ⟨⟨?_, fun _ => dateS_R hD⟩, rfl⟩; rw [dtS, if_neg (by omega), dateS_eq hD]; done)
  ·
   try simp only [decide_eq_true_eq, decide_eq_false_iff_not, Bool.not_eq_true', Bool.not_eq_false', beq_iff_eq, beq_eq_false_iff_ne, ne_eq] at h2
   refine at_skip rfl ?_
   refine then_n ?_
   refine at_seq rfl ?_
   refine rg rfl ?_
   refine Rq ?_
   refine Rq ?_
   have tr : ∀ a b c d e f g h i j k : AV, let l := lc_rdate_ok a b c d e f g h i; trim ((6,k)::(13,j)::l) l = [(0,a),(2,b),(3,c),(4,d),(5,e),(6,k),(12,g),(18,h),(27,i)] := by intros; rfl
   refine R_nil (tr ..) ?_; clear tr
   refine then_n ?_
   refine at_seq rfl ?_
   refine rg rfl ?_
   refine Rq ?_
   refine Rq ?_
   have tr : ∀ a b c d e f g h i j k : AV, let l := lc_rdate_ok a b c d e f g h i; trim ((3,k)::(2,j)::l) l = [(0,a),(2,j),(3,k),(4,d),(5,e),(6,f),(12,g),(18,h),(27,i)] := by intros; rfl
   refine R_nil (tr ..) ?_; clear tr
   refine then_n ?_
   refine at_seq rfl ?_
   refine at_block rfl ?_
   refine loop_n rfl (fun mm kv H' => ∃ u : Nat, ∃ v : Nat, ∃ x : Int, ∃ y : Int, ∃ m : Int, ∃ x18 x27 : AV, (kv = [(2, AV.i y), (3, AV.i m), (6, AV.i x), (18, x18), (27, x27)]) ∧ (mm = 3600 - (12 * u + v)) ∧ (H' = H) ∧ (u < 300) ∧ (v < 12) ∧ (x = n - yS u - mS y v) ∧ (0 ≤ x) ∧ (y = 1900 + (u : Int)) ∧ (m = 1 + (v : Int))) ⟨0, 0, n, 1900, 1, _, _, rfl, rfl, rfl, by omega, by omega, by (rw [yS, mS]; omega), by omega, by omega, by omega⟩ (by rfl) ?_
   rintro mm kv H' ⟨u, v, x, y, m, x18, x27, rfl, rfl, rfl, hu, hv, hx, hx0, hy, hm⟩
   have tr : ∀ a b c d e f g h i j k m n o : AV, upd [(0,a),(2,b),(3,c),(4,d),(5,e),(6,f),(12,g),(18,h),(27,i)] [(2,j),(3,k),(6,m),(18,n),(27,o)] = [(0,a),(2,j),(3,k),(4,d),(5,e),(6,m),(12,g),(18,n),(27,o)] := by intros; rfl
   refine W_to (tr ..) ?_; clear tr
   obtain ⟨H, hHH⟩ : ∃ x, x = H' := ⟨_, rfl⟩
   subst hHH
   have hyr := yS_rng u
   have hlr := lenS_pos y m
   have hmr := mS_rng y v
   have hms : mS y (v + 1) = mS y v + lenS y m := by rw [mS, ← hm]
   have hys : yS (u + 1) = yS u + daysS y := by rw [yS, ← hy]
   have h12 : v + 1 = 12 → mS y (v + 1) = daysS y := fun h => by rw [h]; exact mS_year y
   have hm0 : mS (y + 1) 0 = 0 := rfl
   refine at_seq rfl ?_
   refine at_seq rfl ?_
   refine rg rfl ?_
   refine Rq ?_
   refine Rq ?_
   refine Rq ?_
   refine Rcall ?_
   refine ACall_eq (rlength_ok _ _ _ _) ?_
   refine Rq ?_
   have tr : ∀ a b c d e f g h i j k m n o : AV, let l := lc_rdate_ok a b c d e f g h i; trim ((18,o)::(17,n)::(16,m)::(15,k)::(14,j)::l) l = [(0,a),(2,b),(3,c),(4,d),(5,e),(6,f),(12,g),(18,o),(27,i)] := by intros; rfl
   refine R_nil (tr ..) ?_; clear tr
   refine then_n ?_
   refine cdd (fun h3 => ?_) (fun h3 => ?_)
   ·
    try simp only [decide_eq_true_eq, decide_eq_false_iff_not, Bool.not_eq_true', Bool.not_eq_false', beq_iff_eq, beq_eq_false_iff_ne, ne_eq] at h3
    refine at_skip rfl ?_
    refine then_n ?_
    refine at_block rfl ?_
    refine at_seq rfl ?_
    refine rg rfl ?_
    refine Rq ?_
    refine Rq ?_
    refine Rq ?_
    refine Rcall ?_
    refine ACall_eq (rlength_ok _ _ _ _) ?_
    refine Rq ?_
    refine Rq ?_
    have tr : ∀ a b c d e f g h i j k m n o p : AV, let l := lc_rdate_ok a b c d e f g h i; trim ((6,p)::(23,o)::(22,n)::(21,m)::(20,k)::(19,j)::l) l = [(0,a),(2,b),(3,c),(4,d),(5,e),(6,p),(12,g),(18,h),(27,i)] := by intros; rfl
    refine R_nil (tr ..) ?_; clear tr
    refine then_n ?_
    refine at_seq rfl ?_
    refine rg rfl ?_
    refine Rq ?_
    refine Rq ?_
    refine Rq ?_
    have tr : ∀ a b c d e f g h i j k m : AV, let l := lc_rdate_ok a b c d e f g h i; trim ((3,m)::(25,k)::(24,j)::l) l = [(0,a),(2,b),(3,m),(4,d),(5,e),(6,f),(12,g),(18,h),(27,i)] := by intros; rfl
    refine R_nil (tr ..) ?_; clear tr
    refine then_n ?_
    refine at_seq rfl ?_
    refine rg rfl ?_
    refine Rq ?_
    refine Rq ?_
    have tr : ∀ a b c d e f g h i j k : AV, let l := lc_rdate_ok a b c d e f g h i; trim ((27,k)::(26,j)::l) l = [(0,a),(2,b),(3,c),(4,d),(5,e),(6,f),(12,g),(18,h),(27,k)] := by intros; rfl
    refine R_nil (tr ..) ?_; clear tr
    refine then_n ?_
    refine cdd (fun h4 => ?_) (fun h4 => ?_)
    ·
     try simp only [decide_eq_true_eq, decide_eq_false_iff_not, Bool.not_eq_true', Bool.not_eq_false', beq_iff_eq, beq_eq_false_iff_ne, ne_eq] at h4
     refine rg rfl ?_
     refine Rq ?_
     refine Rq ?_
     refine Rq ?_
     refine Rq ?_
     have tr : ∀ a b c d e f g h i j k m n : AV, let l := lc_rdate_ok a b c d e f g h i; trim ((3,n)::(2,m)::(29,k)::(28,j)::l) l = [(0,a),(2,m),(3,n),(4,d),(5,e),(6,f),(12,g),(18,h),(27,i)] := by intros; rfl
     refine R_nil (tr ..) ?_; clear tr
     refine blk_n ?_
     refine then_n ?_
     exact ⟨_, _, ⟨u + 1, 0, x - lenS y m, y + 1, 1, _, _, rfl, rfl, rfl, by first | omega | exact yL_next (n := n) (by omega) (by omega), by omega, by omega, by omega, by omega, by omega⟩, by rfl, by omega⟩
    ·
     try simp only [decide_eq_true_eq, decide_eq_false_iff_not, Bool.not_eq_true', Bool.not_eq_false', beq_iff_eq, beq_eq_false_iff_ne, ne_eq] at h4
     refine at_skip rfl ?_
     refine blk_n ?_
     refine then_n ?_
     exact ⟨_, _, ⟨u, v + 1, x - lenS y m, y, m + 1, _, _, rfl, rfl, rfl, by first | omega | exact yL_next (n := n) (by omega) (by omega), by omega, by omega, by omega, by omega, by omega⟩, by rfl, by omega⟩
   ·
    try simp only [decide_eq_true_eq, decide_eq_false_iff_not, Bool.not_eq_true', Bool.not_eq_false', beq_iff_eq, beq_eq_false_iff_ne, ne_eq] at h3
    refine at_exit rfl ?_
    refine then_x ?_
    refine then_x ?_
    refine blk_x ?_
    refine then_n ?_
    refine at_seq rfl ?_
    refine rg rfl ?_
    refine Rq ?_
    refine Rq ?_
    refine Rq ?_
    refine Rq ?_
    refine Rq ?_
    refine Rq ?_
    refine Rq ?_
    refine Rq ?_
    have tr : ∀ a b c d e f g h i j k m n o p q r : AV, let l := lc_rdate_ok a b c d e f g h i; trim ((5,r)::(4,q)::(3,p)::(2,o)::(33,n)::(32,m)::(31,k)::(30,j)::l) l = [(0,a),(2,o),(3,p),(4,q),(5,r),(6,f),(12,g),(18,h),(27,i)] := by intros; rfl
    refine R_nil (tr ..) ?_; clear tr
    refine then_n ?_
    refine at_ret rfl ?_
    first | (refine fpure ?_; refine ⟨⟨?_, fun hh => by omega⟩, rfl⟩; rw [dtS, if_pos (by omega)]; done) | (have hD : DateR n y m (x + 1) := ⟨u, v, hu, hv, hy, hm, by omega, by omega, by omega⟩; refine fpure ?_; refine ⟨⟨?_, fun _ => dateS_R hD⟩, rfl⟩; rw [dtS, if_neg (by omega), dateS_eq hD]; done)

end Go.Proofs.YtocmcdejkoejhaaDoor
