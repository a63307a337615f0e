/-
  Walks of chapter 2. The steps are written by program (walk.py).
-/
import Derived.Test.YtokhmkkifmhfmaaDoorRA
import Derived.Test.YtokhmkkifmhfmaaDoorD64
set_option linter.unusedSimpArgs false
set_option linter.unusedVariables false
set_option maxHeartbeats 1000000
set_option maxRecDepth 20000
namespace Go.Proofs.YtokhmkkifmhfmaaDoor
open Go Go.Am
theorem cv3_59 (n : Int) : convV Tryd.prog 3 59 (.v (.int .i64 n)) = some (.v (.int .u64 (n % 18446744073709551616))) := by simp only [convV, ty3, tk59, wrap_u]
abbrev lc_div64_ok (a b c d e f g h i j k m n o p q r s t u v w x : AV) : Env := [(0,a),(1,b),(2,c),(6,d),(7,e),(8,f),(9,g),(10,h),(11,i),(12,j),(13,k),(14,m),(15,n),(16,o),(17,p),(18,q),(20,r),(24,s),(27,t),(78,u),(85,v),(113,w),(120,x)]
theorem div64_ok (lim : Nat) (H : Heap) (hi lo y : Int) (h0 : 0 ≤ hi) (hlt : hi < y) (hlo : 0 ≤ lo ∧ lo ≤ 18446744073709551615) (hy : y ≤ 18446744073709551615) : ACall sig lim 38 [u6 hi, u6 lo, u6 y] H fun r H' => r = .tup [u6 ((hi * 18446744073709551616 + lo) / y), u6 ((hi * 18446744073709551616 + lo) % y)] ∧ H' = H := by
 obtain ⟨s, p, Y, u, v, a, b, hs, hs63, hp, hY, hY1, hY2, hu0, huY, hv, hN, e1, e2, e3, e4, e5, e6⟩ := d64_pre h0 hlt hlo hy
 have hvv : v = v / 4294967296 * 4294967296 + v % 4294967296 := by omega
 have hYp : 0 < Y := by omega
 refine ACall_pure (fa := fa38) rfl rfl rfl rfl ?_
 have tr : ∀ a0 a1 a2 : AV, env0 fa38.keep [a0, a1, a2] = [(0,a0),(1,a1),(2,a2),(6,.any),(7,.any),(8,.any),(9,.any),(10,.any),(11,.any),(12,.any),(13,.any),(14,.any),(15,.any),(16,.any),(17,.any),(18,.any),(20,.any),(24,.any),(27,.any),(78,.any),(85,.any),(113,.any),(120,.any)] := fun a0 a1 a2 => rfl
 refine W_to (tr _ _ _) ?_; clear tr
 refine at_seq rfl ?_
 refine rg rfl ?_
 refine Rq ?_
 refine Rq ?_
 have tr : ∀ a b c d e f g h i j k m n o p q r s t u v w x y z : AV, let l := lc_div64_ok a b c d e f g h i j k m n o p q r s t u v w x; trim ((7,z)::(6,y)::l) l = [(0,a),(1,b),(2,c),(6,y),(7,z),(8,f),(9,g),(10,h),(11,i),(12,j),(13,k),(14,m),(15,n),(16,o),(17,p),(18,q),(20,r),(24,s),(27,t),(78,u),(85,v),(113,w),(120,x)] := by intros; rfl
 refine R_nil (tr ..) ?_; clear tr
 refine then_n ?_
 refine at_seq rfl ?_
 refine at_seq rfl ?_
 refine rg rfl ?_
 refine Rq ?_
 refine Rq ?_
 have tr : ∀ a b c d e f g h i j k m n o p q r s t u v w x y z : AV, let l := lc_div64_ok a b c d e f g h i j k m n o p q r s t u v w x; trim ((20,z)::(19,y)::l) l = [(0,a),(1,b),(2,c),(6,d),(7,e),(8,f),(9,g),(10,h),(11,i),(12,j),(13,k),(14,m),(15,n),(16,o),(17,p),(18,q),(20,z),(24,s),(27,t),(78,u),(85,v),(113,w),(120,x)] := by intros; rfl
 refine R_nil (tr ..) ?_; clear tr
 refine then_n ?_
 refine cdd (fun h1 => ?_) (fun h1 => ?_)
 ·
  try simp only [decide_eq_true_eq, decide_eq_false_iff_not, decide_eq_decide, Bool.not_eq_true', Bool.not_eq_false', beq_iff_eq, beq_eq_false_iff_ne, ne_eq, Bool.and_eq_true, Bool.and_eq_false_iff, decide_not] at h1
  refine rg rfl ?_
  exfalso; omega
 ·
  try simp only [decide_eq_true_eq, decide_eq_false_iff_not, decide_eq_decide, Bool.not_eq_true', Bool.not_eq_false', beq_iff_eq, beq_eq_false_iff_ne, ne_eq, Bool.and_eq_true, Bool.and_eq_false_iff, decide_not] at h1
  refine at_skip rfl ?_
  refine then_n ?_
  refine at_seq rfl ?_
  refine at_seq rfl ?_
  refine rg rfl ?_
  refine Rq ?_
  refine Rq ?_
  refine Rq ?_
  have tr : ∀ a b c d e f g h i j k m n o p q r s t u v w x y z A : AV, let l := lc_div64_ok a b c d e f g h i j k m n o p q r s t u v w x; trim ((24,A)::(23,z)::(22,y)::l) l = [(0,a),(1,b),(2,c),(6,d),(7,e),(8,f),(9,g),(10,h),(11,i),(12,j),(13,k),(14,m),(15,n),(16,o),(17,p),(18,q),(20,r),(24,A),(27,t),(78,u),(85,v),(113,w),(120,x)] := by intros; rfl
  refine R_nil (tr ..) ?_; clear tr
  refine then_n ?_
  refine cdd (fun h2 => ?_) (fun h2 => ?_)
  ·
   try simp only [decide_eq_true_eq, decide_eq_false_iff_not, decide_eq_decide, Bool.not_eq_true', Bool.not_eq_false', beq_iff_eq, beq_eq_false_iff_ne, ne_eq, Bool.and_eq_true, Bool.and_eq_false_iff, decide_not] at h2
   refine rg rfl ?_
   exfalso; omega
  ·
   try simp only [decide_eq_true_eq, decide_eq_false_iff_not, decide_eq_decide, Bool.not_eq_true', Bool.not_eq_false', beq_iff_eq, beq_eq_false_iff_ne, ne_eq, Bool.and_eq_true, Bool.and_eq_false_iff, decide_not] at h2
   refine at_skip rfl ?_
   refine then_n ?_
   refine at_seq rfl ?_
   refine at_seq rfl ?_
   refine rg rfl ?_
   refine Rq ?_
   refine Rq ?_
   have tr : ∀ a b c d e f g h i j k m n o p q r s t u v w x y z : AV, let l := lc_div64_ok a b c d e f g h i j k m n o p q r s t u v w x; trim ((27,z)::(26,y)::l) l = [(0,a),(1,b),(2,c),(6,d),(7,e),(8,f),(9,g),(10,h),(11,i),(12,j),(13,k),(14,m),(15,n),(16,o),(17,p),(18,q),(20,r),(24,s),(27,z),(78,u),(85,v),(113,w),(120,x)] := by intros; rfl
   refine R_nil (tr ..) ?_; clear tr
   refine then_n ?_
   refine cdd (fun h3 => ?_) (fun h3 => ?_)
   ·
    try simp only [decide_eq_true_eq, decide_eq_false_iff_not, decide_eq_decide, Bool.not_eq_true', Bool.not_eq_false', beq_iff_eq, beq_eq_false_iff_ne, ne_eq, Bool.and_eq_true, Bool.and_eq_false_iff, decide_not] at h3
    refine at_seq rfl ?_
    refine rd rfl rfl ?_
    have hq0 : 0 ≤ lo / y := Int.ediv_nonneg (by omega) (by omega)
    have hq1 : lo / y ≤ lo := Int.ediv_le_self _ hlo.1
    refine Qq ?_
    refine Qq ?_
    refine Qq ?_
    refine Qq ?_
    refine Qq ?_
    refine Qq ?_
    refine Qq ?_
    refine Qq ?_
    refine Q_nil ?_
    have tr : ∀ a b c d e f g h i j k m n o p q r s t u v w x y z A B C D E F : AV, let l := lc_div64_ok a b c d e f g h i j k m n o p q r s t u v w x; trim ((7,F)::(6,E)::(33,D)::(32,C)::(31,B)::(30,A)::(29,z)::(28,y)::l) l = [(0,a),(1,b),(2,c),(6,E),(7,F),(8,f),(9,g),(10,h),(11,i),(12,j),(13,k),(14,m),(15,n),(16,o),(17,p),(18,q),(20,r),(24,s),(27,t),(78,u),(85,v),(113,w),(120,x)] := by intros; rfl
    refine R_nil (tr ..) ?_; clear tr
    refine then_n ?_
    refine at_ret rfl ?_
    refine then_r ?_
    first | (refine fpure ?_; refine ⟨?_, rfl⟩; rw [hpost.1, hpost.2]; done) | (refine fpure ?_; refine ⟨?_, rfl⟩; have hz : hi = 0 := (by omega); rw [hz, Int.zero_mul, Int.zero_add] <;> rfl; done) | (refine fpure ?_; refine ⟨?_, rfl⟩; rw [hpost.1, hpost.2])
   ·
    try simp only [decide_eq_true_eq, decide_eq_false_iff_not, decide_eq_decide, Bool.not_eq_true', Bool.not_eq_false', beq_iff_eq, beq_eq_false_iff_ne, ne_eq, Bool.and_eq_true, Bool.and_eq_false_iff, decide_not] at h3
    refine at_skip rfl ?_
    refine then_n ?_
    refine at_seq rfl ?_
    refine rg rfl ?_
    refine Rq ?_
    refine Rcall ?_
    refine ACall_eq (lz_ok _ _ _ (by omega)) ?_
    refine R_q (r := u6 (s : Int)) rfl (by simp only [go_sem, ↓reduceIte, Nat.reduceEqDiff, hs, cv3_59]; exact congrArg (fun z => some (u6 z)) (by omega)) ?_
    refine Rq ?_
    have tr : ∀ a b c d e f g h i j k m n o p q r s t u v w x y z A B : AV, let l := lc_div64_ok a b c d e f g h i j k m n o p q r s t u v w x; trim ((8,B)::(36,A)::(35,z)::(34,y)::l) l = [(0,a),(1,b),(2,c),(6,d),(7,e),(8,B),(9,g),(10,h),(11,i),(12,j),(13,k),(14,m),(15,n),(16,o),(17,p),(18,q),(20,r),(24,s),(27,t),(78,u),(85,v),(113,w),(120,x)] := by intros; rfl
    refine R_nil (tr ..) ?_; clear tr
    refine then_n ?_
    refine at_seq rfl ?_
    refine rg rfl ?_
    refine Rq ?_
    refine Rq ?_
    refine R_q rfl (by simp (disch := first | omega | (simp only [List.length_map, List.length_append, List.length_set, List.length_cons, List.length_nil]; omega)) only [go_sem, ↓reduceIte, Nat.reduceEqDiff, reduceCtorEq, e1] <;> rfl) ?_
    refine Rq ?_
    have tr : ∀ a b c d e f g h i j k m n o p q r s t u v w x y z A B : AV, let l := lc_div64_ok a b c d e f g h i j k m n o p q r s t u v w x; trim ((2,B)::(39,A)::(38,z)::(37,y)::l) l = [(0,a),(1,b),(2,B),(6,d),(7,e),(8,f),(9,g),(10,h),(11,i),(12,j),(13,k),(14,m),(15,n),(16,o),(17,p),(18,q),(20,r),(24,s),(27,t),(78,u),(85,v),(113,w),(120,x)] := by intros; rfl
    refine R_nil (tr ..) ?_; clear tr
    refine then_n ?_
    refine at_seq rfl ?_
    refine rg rfl ?_
    obtain ⟨y1, f1⟩ : ∃ z, z = Y / 4294967296 := ⟨_, rfl⟩
    obtain ⟨y0, f2⟩ : ∃ z, z = Y % 4294967296 := ⟨_, rfl⟩
    have hYd : Y = y1 * 4294967296 + y0 := by omega
    have hy1 : 2147483648 ≤ y1 ∧ y1 < 4294967296 := by omega
    have hy0 : 0 ≤ y0 ∧ y0 < 4294967296 := by omega
    obtain ⟨v1, f3⟩ : ∃ z, z = v / 4294967296 := ⟨_, rfl⟩
    obtain ⟨v0, f4⟩ : ∃ z, z = v % 4294967296 := ⟨_, rfl⟩
    have hv1 : 0 ≤ v1 ∧ v1 < 4294967296 := by omega
    have hv0 : 0 ≤ v0 ∧ v0 < 4294967296 := by omega
    obtain ⟨i1, i2, i3, i4, i5, i6⟩ := dg_init (v := v1) hYd hy1 hy0 hv1 hu0 huY
    refine Rq ?_
    refine R_q (r := u6 y1) rfl (by simp only [go_sem, ↓reduceIte, Nat.reduceEqDiff, shr32, ← f1]) ?_
    refine Rq ?_
    have tr : ∀ a b c d e f g h i j k m n o p q r s t u v w x y z A : AV, let l := lc_div64_ok a b c d e f g h i j k m n o p q r s t u v w x; trim ((9,A)::(41,z)::(40,y)::l) l = [(0,a),(1,b),(2,c),(6,d),(7,e),(8,f),(9,A),(10,h),(11,i),(12,j),(13,k),(14,m),(15,n),(16,o),(17,p),(18,q),(20,r),(24,s),(27,t),(78,u),(85,v),(113,w),(120,x)] := by intros; rfl
    refine R_nil (tr ..) ?_; clear tr
    refine then_n ?_
    refine at_seq rfl ?_
    refine rg rfl ?_
    refine Rq ?_
    refine R_q (r := u6 y0) rfl (by simp only [go_sem, ↓reduceIte, Nat.reduceEqDiff, and32 Y (by omega) (by omega), ← f2]) ?_
    refine Rq ?_
    have tr : ∀ a b c d e f g h i j k m n o p q r s t u v w x y z A : AV, let l := lc_div64_ok a b c d e f g h i j k m n o p q r s t u v w x; trim ((10,A)::(43,z)::(42,y)::l) l = [(0,a),(1,b),(2,c),(6,d),(7,e),(8,f),(9,g),(10,A),(11,i),(12,j),(13,k),(14,m),(15,n),(16,o),(17,p),(18,q),(20,r),(24,s),(27,t),(78,u),(85,v),(113,w),(120,x)] := by intros; rfl
    refine R_nil (tr ..) ?_; clear tr
    refine then_n ?_
    refine at_seq rfl ?_
    refine rg rfl ?_
    refine Rq ?_
    refine Rq ?_
    refine R_q rfl (by simp (disch := first | omega | (simp only [List.length_map, List.length_append, List.length_set, List.length_cons, List.length_nil]; omega)) only [go_sem, ↓reduceIte, Nat.reduceEqDiff, reduceCtorEq, e2] <;> rfl) ?_
    refine Rq ?_
    refine Rq ?_
    refine R_q (r := u6 (64 - (s : Int))) rfl (by simp only [go_sem, ↓reduceIte, Nat.reduceEqDiff]; exact congrArg (fun z => some (u6 z)) (by first | rfl | omega | (rw [wrap_u]; omega))) ?_
    refine R_q rfl (by simp (disch := first | omega | (simp only [List.length_map, List.length_append, List.length_set, List.length_cons, List.length_nil]; omega)) only [go_sem, ↓reduceIte, Nat.reduceEqDiff, reduceCtorEq, e3] <;> rfl) ?_
    refine R_q rfl (by simp (disch := first | omega | (simp only [List.length_map, List.length_append, List.length_set, List.length_cons, List.length_nil]; omega)) only [go_sem, ↓reduceIte, Nat.reduceEqDiff, reduceCtorEq, e4] <;> rfl) ?_
    refine Rq ?_
    have tr : ∀ a b c d e f g h i j k m n o p q r s t u v w x y z A B C D E F G : AV, let l := lc_div64_ok a b c d e f g h i j k m n o p q r s t u v w x; trim ((11,G)::(51,F)::(50,E)::(49,D)::(48,C)::(47,B)::(46,A)::(45,z)::(44,y)::l) l = [(0,a),(1,b),(2,c),(6,d),(7,e),(8,f),(9,g),(10,h),(11,G),(12,j),(13,k),(14,m),(15,n),(16,o),(17,p),(18,q),(20,r),(24,s),(27,t),(78,u),(85,v),(113,w),(120,x)] := by intros; rfl
    refine R_nil (tr ..) ?_; clear tr
    refine then_n ?_
    refine at_seq rfl ?_
    refine rg rfl ?_
    refine Rq ?_
    refine Rq ?_
    refine R_q rfl (by simp (disch := first | omega | (simp only [List.length_map, List.length_append, List.length_set, List.length_cons, List.length_nil]; omega)) only [go_sem, ↓reduceIte, Nat.reduceEqDiff, reduceCtorEq, e5] <;> rfl) ?_
    refine Rq ?_
    have tr : ∀ a b c d e f g h i j k m n o p q r s t u v w x y z A B : AV, let l := lc_div64_ok a b c d e f g h i j k m n o p q r s t u v w x; trim ((12,B)::(54,A)::(53,z)::(52,y)::l) l = [(0,a),(1,b),(2,c),(6,d),(7,e),(8,f),(9,g),(10,h),(11,i),(12,B),(13,k),(14,m),(15,n),(16,o),(17,p),(18,q),(20,r),(24,s),(27,t),(78,u),(85,v),(113,w),(120,x)] := by intros; rfl
    refine R_nil (tr ..) ?_; clear tr
    refine then_n ?_
    refine at_seq rfl ?_
    refine rg rfl ?_
    refine Rq ?_
    refine R_q (r := u6 v1) rfl (by simp only [go_sem, ↓reduceIte, Nat.reduceEqDiff, shr32, ← f3]) ?_
    refine Rq ?_
    have tr : ∀ a b c d e f g h i j k m n o p q r s t u v w x y z A : AV, let l := lc_div64_ok a b c d e f g h i j k m n o p q r s t u v w x; trim ((13,A)::(56,z)::(55,y)::l) l = [(0,a),(1,b),(2,c),(6,d),(7,e),(8,f),(9,g),(10,h),(11,i),(12,j),(13,A),(14,m),(15,n),(16,o),(17,p),(18,q),(20,r),(24,s),(27,t),(78,u),(85,v),(113,w),(120,x)] := by intros; rfl
    refine R_nil (tr ..) ?_; clear tr
    refine then_n ?_
    refine at_seq rfl ?_
    refine rg rfl ?_
    refine Rq ?_
    refine R_q (r := u6 v0) rfl (by simp only [go_sem, ↓reduceIte, Nat.reduceEqDiff, and32 v (by omega) (by omega), ← f4]) ?_
    refine Rq ?_
    have tr : ∀ a b c d e f g h i j k m n o p q r s t u v w x y z A : AV, let l := lc_div64_ok a b c d e f g h i j k m n o p q r s t u v w x; trim ((14,A)::(58,z)::(57,y)::l) l = [(0,a),(1,b),(2,c),(6,d),(7,e),(8,f),(9,g),(10,h),(11,i),(12,j),(13,k),(14,A),(15,n),(16,o),(17,p),(18,q),(20,r),(24,s),(27,t),(78,u),(85,v),(113,w),(120,x)] := by intros; rfl
    refine R_nil (tr ..) ?_; clear tr
    refine then_n ?_
    refine at_seq rfl ?_
    refine rg rfl ?_
    refine Rq ?_
    refine Rq ?_
    refine Rq ?_
    refine Rq ?_
    have tr : ∀ a b c d e f g h i j k m n o p q r s t u v w x y z A B : AV, let l := lc_div64_ok a b c d e f g h i j k m n o p q r s t u v w x; trim ((15,B)::(61,A)::(60,z)::(59,y)::l) l = [(0,a),(1,b),(2,c),(6,d),(7,e),(8,f),(9,g),(10,h),(11,i),(12,j),(13,k),(14,m),(15,B),(16,o),(17,p),(18,q),(20,r),(24,s),(27,t),(78,u),(85,v),(113,w),(120,x)] := by intros; rfl
    refine R_nil (tr ..) ?_; clear tr
    refine then_n ?_
    refine at_seq rfl ?_
    refine rg rfl ?_
    refine Rq ?_
    refine Rq ?_
    refine Rq ?_
    refine Rq ?_
    refine Rq ?_
    refine Rq ?_
    have tr : ∀ a b c d e f g h i j k m n o p q r s t u v w x y z A B C D : AV, let l := lc_div64_ok a b c d e f g h i j k m n o p q r s t u v w x; trim ((16,D)::(66,C)::(65,B)::(64,A)::(63,z)::(62,y)::l) l = [(0,a),(1,b),(2,c),(6,d),(7,e),(8,f),(9,g),(10,h),(11,i),(12,j),(13,k),(14,m),(15,n),(16,D),(17,p),(18,q),(20,r),(24,s),(27,t),(78,u),(85,v),(113,w),(120,x)] := by intros; rfl
    refine R_nil (tr ..) ?_; clear tr
    refine then_n ?_
    refine at_seq rfl ?_
    refine at_block rfl ?_
    refine loop_n rfl (fun mm kv H' => ∃ q : Int, ∃ rh : Int, ∃ x78 x85 : AV, (kv = [(15, u6 q), (16, u6 rh), (78, x78), (85, x85)]) ∧ (mm = q.toNat) ∧ (H' = H) ∧ (q * y1 + rh = u) ∧ ((u * 4294967296 + v1) / Y ≤ q) ∧ (q ≤ 4294967297) ∧ (0 ≤ rh ∧ rh < 4294967296)) ⟨(u / y1), u - (u / y1) * y1, _, _, rfl, rfl, rfl, by omega, by omega, by omega, by omega⟩ (by rfl) ?_
    rintro mm kv H' ⟨q, rh, x78, x85, rfl, rfl, rfl, g1q, g2q, g3q, g4q⟩
    have tr : ∀ a b c d e f g h i j k m n o p q r s t u v w x y z A B : AV, upd [(0,a),(1,b),(2,c),(6,d),(7,e),(8,f),(9,g),(10,h),(11,i),(12,j),(13,k),(14,m),(15,n),(16,o),(17,p),(18,q),(20,r),(24,s),(27,t),(78,u),(85,v),(113,w),(120,x)] [(15,y),(16,z),(78,A),(85,B)] = [(0,a),(1,b),(2,c),(6,d),(7,e),(8,f),(9,g),(10,h),(11,i),(12,j),(13,k),(14,m),(15,y),(16,z),(17,p),(18,q),(20,r),(24,s),(27,t),(78,A),(85,B),(113,w),(120,x)] := by intros; rfl
    refine W_to (tr ..) ?_; clear tr
    obtain ⟨H, hHH⟩ : ∃ x, x = H' := ⟨_, rfl⟩
    subst hHH
    refine at_seq rfl ?_
    refine at_seq rfl ?_
    refine rg rfl ?_
    refine Rq ?_
    refine Rq ?_
    refine Rq ?_
    refine Rp_split (fun h4 => ?_) (fun h4 => ?_)
    ·
     try simp only [decide_eq_true_eq, decide_eq_false_iff_not, decide_eq_decide, Bool.not_eq_true', Bool.not_eq_false', beq_iff_eq, beq_eq_false_iff_ne, ne_eq, Bool.and_eq_true, Bool.and_eq_false_iff, decide_not] at h4
     refine Rn ?_
     refine Rn ?_
     refine Rn ?_
     refine Rn ?_
     refine Rn ?_
     refine Rn ?_
     refine Rn ?_
     refine Rn ?_
     refine Rq ?_
     have tr : ∀ a b c d e f g h i j k m n o p q r s t u v w x y z A B C D E F G H I J : AV, let l := lc_div64_ok a b c d e f g h i j k m n o p q r s t u v w x; trim ((78,J)::(77,I)::(76,H)::(75,G)::(74,F)::(73,E)::(72,D)::(71,C)::(70,B)::(69,A)::(68,z)::(67,y)::l) l = [(0,a),(1,b),(2,c),(6,d),(7,e),(8,f),(9,g),(10,h),(11,i),(12,j),(13,k),(14,m),(15,n),(16,o),(17,p),(18,q),(20,r),(24,s),(27,t),(78,J),(85,v),(113,w),(120,x)] := by intros; rfl
     refine R_nil (tr ..) ?_; clear tr
     refine then_n ?_
     refine cdt ?_
     refine at_skip rfl ?_
     refine then_n ?_
     refine at_block rfl ?_
     refine at_seq rfl ?_
     refine rg rfl ?_
     have hgt : (u * 4294967296 + v1) / Y < q := dg_hi hYd hYp hv1 g1q (by omega) (by omega)
     refine Rq ?_
     refine Rq ?_
     refine Rq ?_
     have tr : ∀ a b c d e f g h i j k m n o p q r s t u v w x y z A : AV, let l := lc_div64_ok a b c d e f g h i j k m n o p q r s t u v w x; trim ((15,A)::(80,z)::(79,y)::l) l = [(0,a),(1,b),(2,c),(6,d),(7,e),(8,f),(9,g),(10,h),(11,i),(12,j),(13,k),(14,m),(15,A),(16,o),(17,p),(18,q),(20,r),(24,s),(27,t),(78,u),(85,v),(113,w),(120,x)] := by intros; rfl
     refine R_nil (tr ..) ?_; clear tr
     refine then_n ?_
     refine at_seq rfl ?_
     refine rg rfl ?_
     refine Rq ?_
     refine Rq ?_
     refine Rq ?_
     refine Rq ?_
     have tr : ∀ a b c d e f g h i j k m n o p q r s t u v w x y z A B : AV, let l := lc_div64_ok a b c d e f g h i j k m n o p q r s t u v w x; trim ((16,B)::(83,A)::(82,z)::(81,y)::l) l = [(0,a),(1,b),(2,c),(6,d),(7,e),(8,f),(9,g),(10,h),(11,i),(12,j),(13,k),(14,m),(15,n),(16,B),(17,p),(18,q),(20,r),(24,s),(27,t),(78,u),(85,v),(113,w),(120,x)] := by intros; rfl
     refine R_nil (tr ..) ?_; clear tr
     refine then_n ?_
     refine at_seq rfl ?_
     refine rg rfl ?_
     refine Rq ?_
     refine Rq ?_
     have tr : ∀ a b c d e f g h i j k m n o p q r s t u v w x y z : AV, let l := lc_div64_ok a b c d e f g h i j k m n o p q r s t u v w x; trim ((85,z)::(84,y)::l) l = [(0,a),(1,b),(2,c),(6,d),(7,e),(8,f),(9,g),(10,h),(11,i),(12,j),(13,k),(14,m),(15,n),(16,o),(17,p),(18,q),(20,r),(24,s),(27,t),(78,u),(85,z),(113,w),(120,x)] := by intros; rfl
     refine R_nil (tr ..) ?_; clear tr
     refine then_n ?_
     refine cdd (fun h5 => ?_) (fun h5 => ?_)
     ·
      try simp only [decide_eq_true_eq, decide_eq_false_iff_not, decide_eq_decide, Bool.not_eq_true', Bool.not_eq_false', beq_iff_eq, beq_eq_false_iff_ne, ne_eq, Bool.and_eq_true, Bool.and_eq_false_iff, decide_not] at h5
      refine at_exit rfl ?_
      refine blk_p (by decide) ?_
      refine then_x ?_
      refine blk_x ?_
      refine then_n ?_
      refine at_seq rfl ?_
      refine rg rfl ?_
      obtain ⟨q1, hq1⟩ : ∃ z, z = q - 1 := ⟨_, rfl⟩
      have hqb := dg_big (y0 := y0) (q := q - 1) (rh := rh + y1) (v := v1) (by omega) (by omega) hy0 (by omega) hv1.1
      have hqq := dg_lo (u := u) (q := q - 1) (rh := rh + y1) (v := v1) hYd hYp (by rw [Int.sub_mul]; omega) hqb
      rw [← hq1]
      have hQ : q1 = (u * 4294967296 + v1) / Y := by rw [hq1]; omega
      obtain ⟨r1, r2⟩ := dg_rest hYp hQ
      obtain ⟨t1, t2⟩ := dg_lt hYp hv1 hu0 huY hQ
      obtain ⟨u2, hu2⟩ : ∃ z, z = u * 4294967296 + v1 - q1 * Y := ⟨_, rfl⟩
      rw [← hu2] at r1 r2
      obtain ⟨j1, j2, j3, j4, j5, j6⟩ := dg_init (v := v0) hYd hy1 hy0 hv0 r1 r2
      refine Rq ?_
      refine Rq ?_
      refine Rq ?_
      refine Rq ?_
      refine Rq ?_
      refine Rq ?_
      refine Rq ?_
      refine R_q (r := u6 u2) rfl (by simp (disch := first | omega | (simp only [List.length_map, List.length_append, List.length_set, List.length_cons, List.length_nil]; omega)) only [go_sem, ↓reduceIte, Nat.reduceEqDiff, reduceCtorEq] <;> exact congrArg (fun z => some (u6 z)) (by omega)) ?_
      refine Rq ?_
      have tr : ∀ a b c d e f g h i j k m n o p q r s t u v w x y z A B C D E F G : AV, let l := lc_div64_ok a b c d e f g h i j k m n o p q r s t u v w x; trim ((17,G)::(93,F)::(92,E)::(91,D)::(90,C)::(89,B)::(88,A)::(87,z)::(86,y)::l) l = [(0,a),(1,b),(2,c),(6,d),(7,e),(8,f),(9,g),(10,h),(11,i),(12,j),(13,k),(14,m),(15,n),(16,o),(17,G),(18,q),(20,r),(24,s),(27,t),(78,u),(85,v),(113,w),(120,x)] := by intros; rfl
      refine R_nil (tr ..) ?_; clear tr
      refine then_n ?_
      refine at_seq rfl ?_
      refine rg rfl ?_
      refine Rq ?_
      refine Rq ?_
      refine Rq ?_
      refine Rq ?_
      have tr : ∀ a b c d e f g h i j k m n o p q r s t u v w x y z A B : AV, let l := lc_div64_ok a b c d e f g h i j k m n o p q r s t u v w x; trim ((18,B)::(96,A)::(95,z)::(94,y)::l) l = [(0,a),(1,b),(2,c),(6,d),(7,e),(8,f),(9,g),(10,h),(11,i),(12,j),(13,k),(14,m),(15,n),(16,o),(17,p),(18,B),(20,r),(24,s),(27,t),(78,u),(85,v),(113,w),(120,x)] := by intros; rfl
      refine R_nil (tr ..) ?_; clear tr
      refine then_n ?_
      refine at_seq rfl ?_
      refine rg rfl ?_
      refine Rq ?_
      refine Rq ?_
      refine Rq ?_
      refine Rq ?_
      refine Rq ?_
      refine Rq ?_
      have tr : ∀ a b c d e f g h i j k m n o p q r s t u v w x y z A B C D : AV, let l := lc_div64_ok a b c d e f g h i j k m n o p q r s t u v w x; trim ((16,D)::(101,C)::(100,B)::(99,A)::(98,z)::(97,y)::l) l = [(0,a),(1,b),(2,c),(6,d),(7,e),(8,f),(9,g),(10,h),(11,i),(12,j),(13,k),(14,m),(15,n),(16,D),(17,p),(18,q),(20,r),(24,s),(27,t),(78,u),(85,v),(113,w),(120,x)] := by intros; rfl
      refine R_nil (tr ..) ?_; clear tr
      refine then_n ?_
      refine at_seq rfl ?_
      refine at_block rfl ?_
      refine loop_n rfl (fun mm kv H' => ∃ k : Int, ∃ rk : Int, ∃ x113 x120 : AV, (kv = [(16, u6 rk), (18, u6 k), (113, x113), (120, x120)]) ∧ (mm = k.toNat) ∧ (H' = H) ∧ (k * y1 + rk = u2) ∧ ((u2 * 4294967296 + v0) / Y ≤ k) ∧ (k ≤ 4294967297) ∧ (0 ≤ rk ∧ rk < 4294967296)) ⟨(u2 / y1), u2 - (u2 / y1) * y1, _, _, rfl, rfl, rfl, by omega, by omega, by omega, by omega⟩ (by rfl) ?_
      rintro mm kv H' ⟨k, rk, x113, x120, rfl, rfl, rfl, g1k, g2k, g3k, g4k⟩
      have tr : ∀ a b c d e f g h i j k m n o p q r s t u v w x y z A B : AV, upd [(0,a),(1,b),(2,c),(6,d),(7,e),(8,f),(9,g),(10,h),(11,i),(12,j),(13,k),(14,m),(15,n),(16,o),(17,p),(18,q),(20,r),(24,s),(27,t),(78,u),(85,v),(113,w),(120,x)] [(16,y),(18,z),(113,A),(120,B)] = [(0,a),(1,b),(2,c),(6,d),(7,e),(8,f),(9,g),(10,h),(11,i),(12,j),(13,k),(14,m),(15,n),(16,y),(17,p),(18,z),(20,r),(24,s),(27,t),(78,u),(85,v),(113,A),(120,B)] := by intros; rfl
      refine W_to (tr ..) ?_; clear tr
      obtain ⟨H, hHH⟩ : ∃ x, x = H' := ⟨_, rfl⟩
      subst hHH
      refine at_seq rfl ?_
      refine at_seq rfl ?_
      refine rg rfl ?_
      refine Rq ?_
      refine Rq ?_
      refine Rq ?_
      refine Rp_split (fun h6 => ?_) (fun h6 => ?_)
      ·
       try simp only [decide_eq_true_eq, decide_eq_false_iff_not, decide_eq_decide, Bool.not_eq_true', Bool.not_eq_false', beq_iff_eq, beq_eq_false_iff_ne, ne_eq, Bool.and_eq_true, Bool.and_eq_false_iff, decide_not] at h6
       refine Rn ?_
       refine Rn ?_
       refine Rn ?_
       refine Rn ?_
       refine Rn ?_
       refine Rn ?_
       refine Rn ?_
       refine Rn ?_
       refine Rq ?_
       have tr : ∀ a b c d e f g h i j k m n o p q r s t u v w x y z A B C D E F G H I J : AV, let l := lc_div64_ok a b c d e f g h i j k m n o p q r s t u v w x; trim ((113,J)::(112,I)::(111,H)::(110,G)::(109,F)::(108,E)::(107,D)::(106,C)::(105,B)::(104,A)::(103,z)::(102,y)::l) l = [(0,a),(1,b),(2,c),(6,d),(7,e),(8,f),(9,g),(10,h),(11,i),(12,j),(13,k),(14,m),(15,n),(16,o),(17,p),(18,q),(20,r),(24,s),(27,t),(78,u),(85,v),(113,J),(120,x)] := by intros; rfl
       refine R_nil (tr ..) ?_; clear tr
       refine then_n ?_
       refine cdt ?_
       refine at_skip rfl ?_
       refine then_n ?_
       refine at_block rfl ?_
       refine at_seq rfl ?_
       refine rg rfl ?_
       have hgt : (u2 * 4294967296 + v0) / Y < k := dg_hi hYd hYp hv0 g1k (by omega) (by omega)
       refine Rq ?_
       refine Rq ?_
       refine Rq ?_
       have tr : ∀ a b c d e f g h i j k m n o p q r s t u v w x y z A : AV, let l := lc_div64_ok a b c d e f g h i j k m n o p q r s t u v w x; trim ((18,A)::(115,z)::(114,y)::l) l = [(0,a),(1,b),(2,c),(6,d),(7,e),(8,f),(9,g),(10,h),(11,i),(12,j),(13,k),(14,m),(15,n),(16,o),(17,p),(18,A),(20,r),(24,s),(27,t),(78,u),(85,v),(113,w),(120,x)] := by intros; rfl
       refine R_nil (tr ..) ?_; clear tr
       refine then_n ?_
       refine at_seq rfl ?_
       refine rg rfl ?_
       refine Rq ?_
       refine Rq ?_
       refine Rq ?_
       refine Rq ?_
       have tr : ∀ a b c d e f g h i j k m n o p q r s t u v w x y z A B : AV, let l := lc_div64_ok a b c d e f g h i j k m n o p q r s t u v w x; trim ((16,B)::(118,A)::(117,z)::(116,y)::l) l = [(0,a),(1,b),(2,c),(6,d),(7,e),(8,f),(9,g),(10,h),(11,i),(12,j),(13,k),(14,m),(15,n),(16,B),(17,p),(18,q),(20,r),(24,s),(27,t),(78,u),(85,v),(113,w),(120,x)] := by intros; rfl
       refine R_nil (tr ..) ?_; clear tr
       refine then_n ?_
       refine at_seq rfl ?_
       refine rg rfl ?_
       refine Rq ?_
       refine Rq ?_
       have tr : ∀ a b c d e f g h i j k m n o p q r s t u v w x y z : AV, let l := lc_div64_ok a b c d e f g h i j k m n o p q r s t u v w x; trim ((120,z)::(119,y)::l) l = [(0,a),(1,b),(2,c),(6,d),(7,e),(8,f),(9,g),(10,h),(11,i),(12,j),(13,k),(14,m),(15,n),(16,o),(17,p),(18,q),(20,r),(24,s),(27,t),(78,u),(85,v),(113,w),(120,z)] := by intros; rfl
       refine R_nil (tr ..) ?_; clear tr
       refine then_n ?_
       refine cdd (fun h7 => ?_) (fun h7 => ?_)
       ·
        try simp only [decide_eq_true_eq, decide_eq_false_iff_not, decide_eq_decide, Bool.not_eq_true', Bool.not_eq_false', beq_iff_eq, beq_eq_false_iff_ne, ne_eq, Bool.and_eq_true, Bool.and_eq_false_iff, decide_not] at h7
        refine at_exit rfl ?_
        refine blk_p (by decide) ?_
        refine then_x ?_
        refine blk_x ?_
        refine then_n ?_
        refine at_seq rfl ?_
        refine rg rfl ?_
        obtain ⟨k1, hk1⟩ : ∃ z, z = k - 1 := ⟨_, rfl⟩
        have hqb := dg_big (y0 := y0) (q := k - 1) (rh := rk + y1) (v := v0) (by omega) (by omega) hy0 (by omega) hv0.1
        have hqq := dg_lo (u := u2) (q := k - 1) (rh := rk + y1) (v := v0) hYd hYp (by rw [Int.sub_mul]; omega) hqb
        rw [← hk1]
        have hK : k1 = (u2 * 4294967296 + v0) / Y := by rw [hk1]; omega
        obtain ⟨w1, w2⟩ := dg_rest hYp hK
        obtain ⟨t3, t4⟩ := dg_lt hYp hv0 r1 r2 hK
        have hpost := d64_post (q0 := k1) (u2 := u2) (q1 := q1) (by omega) hp hY hN hv (by rw [← f3]; exact hu2) (by rw [← f4]; exact hK)
        rw [← f4] at hpost
        refine Rq ?_
        refine Rq ?_
        refine Rq ?_
        refine R_q (r := u6 (q1 * 4294967296 + k1)) rfl (by simp (disch := first | omega | (simp only [List.length_map, List.length_append, List.length_set, List.length_cons, List.length_nil]; omega)) only [go_sem, ↓reduceIte, Nat.reduceEqDiff, reduceCtorEq] <;> exact congrArg (fun z => some (u6 z)) (by omega)) ?_
        refine Rq ?_
        refine Rq ?_
        refine Rq ?_
        refine Rq ?_
        refine Rq ?_
        refine Rq ?_
        refine Rq ?_
        refine R_q (r := u6 (u2 * 4294967296 + v0 - k1 * Y)) rfl (by simp (disch := first | omega | (simp only [List.length_map, List.length_append, List.length_set, List.length_cons, List.length_nil]; omega)) only [go_sem, ↓reduceIte, Nat.reduceEqDiff, reduceCtorEq] <;> exact congrArg (fun z => some (u6 z)) (by omega)) ?_
        refine Rq ?_
        refine R_q rfl (by simp (disch := first | omega | (simp only [List.length_map, List.length_append, List.length_set, List.length_cons, List.length_nil]; omega)) only [go_sem, ↓reduceIte, Nat.reduceEqDiff, reduceCtorEq, e6] <;> rfl) ?_
        refine Rq ?_
        refine Rq ?_
        have tr : ∀ a b c d e f g h i j k m n o p q r s t u v w x y z A B C D E F G H I J K L M N : AV, let l := lc_div64_ok a b c d e f g h i j k m n o p q r s t u v w x; trim ((7,N)::(6,M)::(134,L)::(133,K)::(132,J)::(131,I)::(130,H)::(129,G)::(128,F)::(127,E)::(126,D)::(125,C)::(124,B)::(123,A)::(122,z)::(121,y)::l) l = [(0,a),(1,b),(2,c),(6,M),(7,N),(8,f),(9,g),(10,h),(11,i),(12,j),(13,k),(14,m),(15,n),(16,o),(17,p),(18,q),(20,r),(24,s),(27,t),(78,u),(85,v),(113,w),(120,x)] := by intros; rfl
        refine R_nil (tr ..) ?_; clear tr
        refine then_n ?_
        refine at_ret rfl ?_
        first | (refine fpure ?_; refine ⟨?_, rfl⟩; rw [hpost.1, hpost.2]; done) | (refine fpure ?_; refine ⟨?_, rfl⟩; have hz : hi = 0 := (by omega); rw [hz, Int.zero_mul, Int.zero_add] <;> rfl; done) | (refine fpure ?_; refine ⟨?_, rfl⟩; rw [hpost.1, hpost.2])
       ·
        try simp only [decide_eq_true_eq, decide_eq_false_iff_not, decide_eq_decide, Bool.not_eq_true', Bool.not_eq_false', beq_iff_eq, beq_eq_false_iff_ne, ne_eq, Bool.and_eq_true, Bool.and_eq_false_iff, decide_not] at h7
        refine at_skip rfl ?_
        refine blk_n ?_
        refine then_n ?_
        exact ⟨_, _, ⟨k - 1, rk + y1, _, _, rfl, rfl, rfl, by (rw [Int.sub_mul]; omega), by omega, by omega, by omega⟩, by rfl, by omega⟩
      ·
       try simp only [decide_eq_true_eq, decide_eq_false_iff_not, decide_eq_decide, Bool.not_eq_true', Bool.not_eq_false', beq_iff_eq, beq_eq_false_iff_ne, ne_eq, Bool.and_eq_true, Bool.and_eq_false_iff, decide_not] at h6
       have hqy0 := mul_pos' (a := k) (b := y0) (by omega) hy0.1
       have hqy1 := mul_le' (a := k) (b := y0) (c := 4294967295) (d := 4294967295) (by omega) (by omega) hy0.1 (by omega)
       refine Ry ?_
       refine Rq ?_
       refine Ry ?_
       refine Rq ?_
       refine Ry ?_
       refine Rq ?_
       refine Ry ?_
       refine Rq ?_
       refine Ry ?_
       refine Rq ?_
       refine Ry ?_
       refine Rq ?_
       refine Ry ?_
       refine Rq ?_
       refine Ry ?_
       refine Rq ?_
       refine Rq ?_
       have tr : ∀ a b c d e f g h i j k m n o p q r s t u v w x y z A B C D E F G H I J : AV, let l := lc_div64_ok a b c d e f g h i j k m n o p q r s t u v w x; trim ((113,J)::(112,I)::(111,H)::(110,G)::(109,F)::(108,E)::(107,D)::(106,C)::(105,B)::(104,A)::(103,z)::(102,y)::l) l = [(0,a),(1,b),(2,c),(6,d),(7,e),(8,f),(9,g),(10,h),(11,i),(12,j),(13,k),(14,m),(15,n),(16,o),(17,p),(18,q),(20,r),(24,s),(27,t),(78,u),(85,v),(113,J),(120,x)] := by intros; rfl
       refine R_nil (tr ..) ?_; clear tr
       refine then_n ?_
       refine cdd (fun h8 => ?_) (fun h8 => ?_)
       ·
        try simp only [decide_eq_true_eq, decide_eq_false_iff_not, decide_eq_decide, Bool.not_eq_true', Bool.not_eq_false', beq_iff_eq, beq_eq_false_iff_ne, ne_eq, Bool.and_eq_true, Bool.and_eq_false_iff, decide_not] at h8
        refine at_skip rfl ?_
        refine then_n ?_
        refine at_block rfl ?_
        refine at_seq rfl ?_
        refine rg rfl ?_
        have hgt : (u2 * 4294967296 + v0) / Y < k := dg_hi hYd hYp hv0 g1k (by omega) (by omega)
        refine Rq ?_
        refine Rq ?_
        refine Rq ?_
        have tr : ∀ a b c d e f g h i j k m n o p q r s t u v w x y z A : AV, let l := lc_div64_ok a b c d e f g h i j k m n o p q r s t u v w x; trim ((18,A)::(115,z)::(114,y)::l) l = [(0,a),(1,b),(2,c),(6,d),(7,e),(8,f),(9,g),(10,h),(11,i),(12,j),(13,k),(14,m),(15,n),(16,o),(17,p),(18,A),(20,r),(24,s),(27,t),(78,u),(85,v),(113,w),(120,x)] := by intros; rfl
        refine R_nil (tr ..) ?_; clear tr
        refine then_n ?_
        refine at_seq rfl ?_
        refine rg rfl ?_
        refine Rq ?_
        refine Rq ?_
        refine Rq ?_
        refine Rq ?_
        have tr : ∀ a b c d e f g h i j k m n o p q r s t u v w x y z A B : AV, let l := lc_div64_ok a b c d e f g h i j k m n o p q r s t u v w x; trim ((16,B)::(118,A)::(117,z)::(116,y)::l) l = [(0,a),(1,b),(2,c),(6,d),(7,e),(8,f),(9,g),(10,h),(11,i),(12,j),(13,k),(14,m),(15,n),(16,B),(17,p),(18,q),(20,r),(24,s),(27,t),(78,u),(85,v),(113,w),(120,x)] := by intros; rfl
        refine R_nil (tr ..) ?_; clear tr
        refine then_n ?_
        refine at_seq rfl ?_
        refine rg rfl ?_
        refine Rq ?_
        refine Rq ?_
        have tr : ∀ a b c d e f g h i j k m n o p q r s t u v w x y z : AV, let l := lc_div64_ok a b c d e f g h i j k m n o p q r s t u v w x; trim ((120,z)::(119,y)::l) l = [(0,a),(1,b),(2,c),(6,d),(7,e),(8,f),(9,g),(10,h),(11,i),(12,j),(13,k),(14,m),(15,n),(16,o),(17,p),(18,q),(20,r),(24,s),(27,t),(78,u),(85,v),(113,w),(120,z)] := by intros; rfl
        refine R_nil (tr ..) ?_; clear tr
        refine then_n ?_
        refine cdd (fun h9 => ?_) (fun h9 => ?_)
        ·
         try simp only [decide_eq_true_eq, decide_eq_false_iff_not, decide_eq_decide, Bool.not_eq_true', Bool.not_eq_false', beq_iff_eq, beq_eq_false_iff_ne, ne_eq, Bool.and_eq_true, Bool.and_eq_false_iff, decide_not] at h9
         refine at_exit rfl ?_
         refine blk_p (by decide) ?_
         refine then_x ?_
         refine blk_x ?_
         refine then_n ?_
         refine at_seq rfl ?_
         refine rg rfl ?_
         obtain ⟨k1, hk1⟩ : ∃ z, z = k - 1 := ⟨_, rfl⟩
         have hqb := dg_big (y0 := y0) (q := k - 1) (rh := rk + y1) (v := v0) (by omega) (by omega) hy0 (by omega) hv0.1
         have hqq := dg_lo (u := u2) (q := k - 1) (rh := rk + y1) (v := v0) hYd hYp (by rw [Int.sub_mul]; omega) hqb
         rw [← hk1]
         have hK : k1 = (u2 * 4294967296 + v0) / Y := by rw [hk1]; omega
         obtain ⟨w1, w2⟩ := dg_rest hYp hK
         obtain ⟨t3, t4⟩ := dg_lt hYp hv0 r1 r2 hK
         have hpost := d64_post (q0 := k1) (u2 := u2) (q1 := q1) (by omega) hp hY hN hv (by rw [← f3]; exact hu2) (by rw [← f4]; exact hK)
         rw [← f4] at hpost
         refine Rq ?_
         refine Rq ?_
         refine Rq ?_
         refine R_q (r := u6 (q1 * 4294967296 + k1)) rfl (by simp (disch := first | omega | (simp only [List.length_map, List.length_append, List.length_set, List.length_cons, List.length_nil]; omega)) only [go_sem, ↓reduceIte, Nat.reduceEqDiff, reduceCtorEq] <;> exact congrArg (fun z => some (u6 z)) (by omega)) ?_
         refine Rq ?_
         refine Rq ?_
         refine Rq ?_
         refine Rq ?_
         refine Rq ?_
         refine Rq ?_
         refine Rq ?_
         refine R_q (r := u6 (u2 * 4294967296 + v0 - k1 * Y)) rfl (by simp (disch := first | omega | (simp only [List.length_map, List.length_append, List.length_set, List.length_cons, List.length_nil]; omega)) only [go_sem, ↓reduceIte, Nat.reduceEqDiff, reduceCtorEq] <;> exact congrArg (fun z => some (u6 z)) (by omega)) ?_
         refine Rq ?_
         refine R_q rfl (by simp (disch := first | omega | (simp only [List.length_map, List.length_append, List.length_set, List.length_cons, List.length_nil]; omega)) only [go_sem, ↓reduceIte, Nat.reduceEqDiff, reduceCtorEq, e6] <;> rfl) ?_
         refine Rq ?_
         refine Rq ?_
         have tr : ∀ a b c d e f g h i j k m n o p q r s t u v w x y z A B C D E F G H I J K L M N : AV, let l := lc_div64_ok a b c d e f g h i j k m n o p q r s t u v w x; trim ((7,N)::(6,M)::(134,L)::(133,K)::(132,J)::(131,I)::(130,H)::(129,G)::(128,F)::(127,E)::(126,D)::(125,C)::(124,B)::(123,A)::(122,z)::(121,y)::l) l = [(0,a),(1,b),(2,c),(6,M),(7,N),(8,f),(9,g),(10,h),(11,i),(12,j),(13,k),(14,m),(15,n),(16,o),(17,p),(18,q),(20,r),(24,s),(27,t),(78,u),(85,v),(113,w),(120,x)] := by intros; rfl
         refine R_nil (tr ..) ?_; clear tr
         refine then_n ?_
         refine at_ret rfl ?_
         first | (refine fpure ?_; refine ⟨?_, rfl⟩; rw [hpost.1, hpost.2]; done) | (refine fpure ?_; refine ⟨?_, rfl⟩; have hz : hi = 0 := (by omega); rw [hz, Int.zero_mul, Int.zero_add] <;> rfl; done) | (refine fpure ?_; refine ⟨?_, rfl⟩; rw [hpost.1, hpost.2])
        ·
         try simp only [decide_eq_true_eq, decide_eq_false_iff_not, decide_eq_decide, Bool.not_eq_true', Bool.not_eq_false', beq_iff_eq, beq_eq_false_iff_ne, ne_eq, Bool.and_eq_true, Bool.and_eq_false_iff, decide_not] at h9
         refine at_skip rfl ?_
         refine blk_n ?_
         refine then_n ?_
         exact ⟨_, _, ⟨k - 1, rk + y1, _, _, rfl, rfl, rfl, by (rw [Int.sub_mul]; omega), by omega, by omega, by omega⟩, by rfl, by omega⟩
       ·
        try simp only [decide_eq_true_eq, decide_eq_false_iff_not, decide_eq_decide, Bool.not_eq_true', Bool.not_eq_false', beq_iff_eq, beq_eq_false_iff_ne, ne_eq, Bool.and_eq_true, Bool.and_eq_false_iff, decide_not] at h8
        refine at_exit rfl ?_
        refine then_x ?_
        refine then_x ?_
        refine blk_x ?_
        refine then_n ?_
        refine at_seq rfl ?_
        refine rg rfl ?_
        obtain ⟨k1, hk1⟩ : ∃ z, z = k := ⟨_, rfl⟩
        have hqq := dg_lo (v := v0) hYd hYp g1k (by omega)
        rw [← hk1]
        have hK : k1 = (u2 * 4294967296 + v0) / Y := by rw [hk1]; omega
        obtain ⟨w1, w2⟩ := dg_rest hYp hK
        obtain ⟨t3, t4⟩ := dg_lt hYp hv0 r1 r2 hK
        have hpost := d64_post (q0 := k1) (u2 := u2) (q1 := q1) (by omega) hp hY hN hv (by rw [← f3]; exact hu2) (by rw [← f4]; exact hK)
        rw [← f4] at hpost
        refine Rq ?_
        refine Rq ?_
        refine Rq ?_
        refine R_q (r := u6 (q1 * 4294967296 + k1)) rfl (by simp (disch := first | omega | (simp only [List.length_map, List.length_append, List.length_set, List.length_cons, List.length_nil]; omega)) only [go_sem, ↓reduceIte, Nat.reduceEqDiff, reduceCtorEq] <;> exact congrArg (fun z => some (u6 z)) (by omega)) ?_
        refine Rq ?_
        refine Rq ?_
        refine Rq ?_
        refine Rq ?_
        refine Rq ?_
        refine Rq ?_
        refine Rq ?_
        refine R_q (r := u6 (u2 * 4294967296 + v0 - k1 * Y)) rfl (by simp (disch := first | omega | (simp only [List.length_map, List.length_append, List.length_set, List.length_cons, List.length_nil]; omega)) only [go_sem, ↓reduceIte, Nat.reduceEqDiff, reduceCtorEq] <;> exact congrArg (fun z => some (u6 z)) (by omega)) ?_
        refine Rq ?_
        refine R_q rfl (by simp (disch := first | omega | (simp only [List.length_map, List.length_append, List.length_set, List.length_cons, List.length_nil]; omega)) only [go_sem, ↓reduceIte, Nat.reduceEqDiff, reduceCtorEq, e6] <;> rfl) ?_
        refine Rq ?_
        refine Rq ?_
        have tr : ∀ a b c d e f g h i j k m n o p q r s t u v w x y z A B C D E F G H I J K L M N : AV, let l := lc_div64_ok a b c d e f g h i j k m n o p q r s t u v w x; trim ((7,N)::(6,M)::(134,L)::(133,K)::(132,J)::(131,I)::(130,H)::(129,G)::(128,F)::(127,E)::(126,D)::(125,C)::(124,B)::(123,A)::(122,z)::(121,y)::l) l = [(0,a),(1,b),(2,c),(6,M),(7,N),(8,f),(9,g),(10,h),(11,i),(12,j),(13,k),(14,m),(15,n),(16,o),(17,p),(18,q),(20,r),(24,s),(27,t),(78,u),(85,v),(113,w),(120,x)] := by intros; rfl
        refine R_nil (tr ..) ?_; clear tr
        refine then_n ?_
        refine at_ret rfl ?_
        first | (refine fpure ?_; refine ⟨?_, rfl⟩; rw [hpost.1, hpost.2]; done) | (refine fpure ?_; refine ⟨?_, rfl⟩; have hz : hi = 0 := (by omega); rw [hz, Int.zero_mul, Int.zero_add] <;> rfl; done) | (refine fpure ?_; refine ⟨?_, rfl⟩; rw [hpost.1, hpost.2])
     ·
      try simp only [decide_eq_true_eq, decide_eq_false_iff_not, decide_eq_decide, Bool.not_eq_true', Bool.not_eq_false', beq_iff_eq, beq_eq_false_iff_ne, ne_eq, Bool.and_eq_true, Bool.and_eq_false_iff, decide_not] at h5
      refine at_skip rfl ?_
      refine blk_n ?_
      refine then_n ?_
      exact ⟨_, _, ⟨q - 1, rh + y1, _, _, rfl, rfl, rfl, by (rw [Int.sub_mul]; omega), by omega, by omega, by omega⟩, by rfl, by omega⟩
    ·
     try simp only [decide_eq_true_eq, decide_eq_false_iff_not, decide_eq_decide, Bool.not_eq_true', Bool.not_eq_false', beq_iff_eq, beq_eq_false_iff_ne, ne_eq, Bool.and_eq_true, Bool.and_eq_false_iff, decide_not] at h4
     have hqy0 := mul_pos' (a := q) (b := y0) (by omega) hy0.1
     have hqy1 := mul_le' (a := q) (b := y0) (c := 4294967295) (d := 4294967295) (by omega) (by omega) hy0.1 (by omega)
     refine Ry ?_
     refine Rq ?_
     refine Ry ?_
     refine Rq ?_
     refine Ry ?_
     refine Rq ?_
     refine Ry ?_
     refine Rq ?_
     refine Ry ?_
     refine Rq ?_
     refine Ry ?_
     refine Rq ?_
     refine Ry ?_
     refine Rq ?_
     refine Ry ?_
     refine Rq ?_
     refine Rq ?_
     have tr : ∀ a b c d e f g h i j k m n o p q r s t u v w x y z A B C D E F G H I J : AV, let l := lc_div64_ok a b c d e f g h i j k m n o p q r s t u v w x; trim ((78,J)::(77,I)::(76,H)::(75,G)::(74,F)::(73,E)::(72,D)::(71,C)::(70,B)::(69,A)::(68,z)::(67,y)::l) l = [(0,a),(1,b),(2,c),(6,d),(7,e),(8,f),(9,g),(10,h),(11,i),(12,j),(13,k),(14,m),(15,n),(16,o),(17,p),(18,q),(20,r),(24,s),(27,t),(78,J),(85,v),(113,w),(120,x)] := by intros; rfl
     refine R_nil (tr ..) ?_; clear tr
     refine then_n ?_
     refine cdd (fun h10 => ?_) (fun h10 => ?_)
     ·
      try simp only [decide_eq_true_eq, decide_eq_false_iff_not, decide_eq_decide, Bool.not_eq_true', Bool.not_eq_false', beq_iff_eq, beq_eq_false_iff_ne, ne_eq, Bool.and_eq_true, Bool.and_eq_false_iff, decide_not] at h10
      refine at_skip rfl ?_
      refine then_n ?_
      refine at_block rfl ?_
      refine at_seq rfl ?_
      refine rg rfl ?_
      have hgt : (u * 4294967296 + v1) / Y < q := dg_hi hYd hYp hv1 g1q (by omega) (by omega)
      refine Rq ?_
      refine Rq ?_
      refine Rq ?_
      have tr : ∀ a b c d e f g h i j k m n o p q r s t u v w x y z A : AV, let l := lc_div64_ok a b c d e f g h i j k m n o p q r s t u v w x; trim ((15,A)::(80,z)::(79,y)::l) l = [(0,a),(1,b),(2,c),(6,d),(7,e),(8,f),(9,g),(10,h),(11,i),(12,j),(13,k),(14,m),(15,A),(16,o),(17,p),(18,q),(20,r),(24,s),(27,t),(78,u),(85,v),(113,w),(120,x)] := by intros; rfl
      refine R_nil (tr ..) ?_; clear tr
      refine then_n ?_
      refine at_seq rfl ?_
      refine rg rfl ?_
      refine Rq ?_
      refine Rq ?_
      refine Rq ?_
      refine Rq ?_
      have tr : ∀ a b c d e f g h i j k m n o p q r s t u v w x y z A B : AV, let l := lc_div64_ok a b c d e f g h i j k m n o p q r s t u v w x; trim ((16,B)::(83,A)::(82,z)::(81,y)::l) l = [(0,a),(1,b),(2,c),(6,d),(7,e),(8,f),(9,g),(10,h),(11,i),(12,j),(13,k),(14,m),(15,n),(16,B),(17,p),(18,q),(20,r),(24,s),(27,t),(78,u),(85,v),(113,w),(120,x)] := by intros; rfl
      refine R_nil (tr ..) ?_; clear tr
      refine then_n ?_
      refine at_seq rfl ?_
      refine rg rfl ?_
      refine Rq ?_
      refine Rq ?_
      have tr : ∀ a b c d e f g h i j k m n o p q r s t u v w x y z : AV, let l := lc_div64_ok a b c d e f g h i j k m n o p q r s t u v w x; trim ((85,z)::(84,y)::l) l = [(0,a),(1,b),(2,c),(6,d),(7,e),(8,f),(9,g),(10,h),(11,i),(12,j),(13,k),(14,m),(15,n),(16,o),(17,p),(18,q),(20,r),(24,s),(27,t),(78,u),(85,z),(113,w),(120,x)] := by intros; rfl
      refine R_nil (tr ..) ?_; clear tr
      refine then_n ?_
      refine cdd (fun h11 => ?_) (fun h11 => ?_)
      ·
       try simp only [decide_eq_true_eq, decide_eq_false_iff_not, decide_eq_decide, Bool.not_eq_true', Bool.not_eq_false', beq_iff_eq, beq_eq_false_iff_ne, ne_eq, Bool.and_eq_true, Bool.and_eq_false_iff, decide_not] at h11
       refine at_exit rfl ?_
       refine blk_p (by decide) ?_
       refine then_x ?_
       refine blk_x ?_
       refine then_n ?_
       refine at_seq rfl ?_
       refine rg rfl ?_
       obtain ⟨q1, hq1⟩ : ∃ z, z = q - 1 := ⟨_, rfl⟩
       have hqb := dg_big (y0 := y0) (q := q - 1) (rh := rh + y1) (v := v1) (by omega) (by omega) hy0 (by omega) hv1.1
       have hqq := dg_lo (u := u) (q := q - 1) (rh := rh + y1) (v := v1) hYd hYp (by rw [Int.sub_mul]; omega) hqb
       rw [← hq1]
       have hQ : q1 = (u * 4294967296 + v1) / Y := by rw [hq1]; omega
       obtain ⟨r1, r2⟩ := dg_rest hYp hQ
       obtain ⟨t1, t2⟩ := dg_lt hYp hv1 hu0 huY hQ
       obtain ⟨u2, hu2⟩ : ∃ z, z = u * 4294967296 + v1 - q1 * Y := ⟨_, rfl⟩
       rw [← hu2] at r1 r2
       obtain ⟨j1, j2, j3, j4, j5, j6⟩ := dg_init (v := v0) hYd hy1 hy0 hv0 r1 r2
       refine Rq ?_
       refine Rq ?_
       refine Rq ?_
       refine Rq ?_
       refine Rq ?_
       refine Rq ?_
       refine Rq ?_
       refine R_q (r := u6 u2) rfl (by simp (disch := first | omega | (simp only [List.length_map, List.length_append, List.length_set, List.length_cons, List.length_nil]; omega)) only [go_sem, ↓reduceIte, Nat.reduceEqDiff, reduceCtorEq] <;> exact congrArg (fun z => some (u6 z)) (by omega)) ?_
       refine Rq ?_
       have tr : ∀ a b c d e f g h i j k m n o p q r s t u v w x y z A B C D E F G : AV, let l := lc_div64_ok a b c d e f g h i j k m n o p q r s t u v w x; trim ((17,G)::(93,F)::(92,E)::(91,D)::(90,C)::(89,B)::(88,A)::(87,z)::(86,y)::l) l = [(0,a),(1,b),(2,c),(6,d),(7,e),(8,f),(9,g),(10,h),(11,i),(12,j),(13,k),(14,m),(15,n),(16,o),(17,G),(18,q),(20,r),(24,s),(27,t),(78,u),(85,v),(113,w),(120,x)] := by intros; rfl
       refine R_nil (tr ..) ?_; clear tr
       refine then_n ?_
       refine at_seq rfl ?_
       refine rg rfl ?_
       refine Rq ?_
       refine Rq ?_
       refine Rq ?_
       refine Rq ?_
       have tr : ∀ a b c d e f g h i j k m n o p q r s t u v w x y z A B : AV, let l := lc_div64_ok a b c d e f g h i j k m n o p q r s t u v w x; trim ((18,B)::(96,A)::(95,z)::(94,y)::l) l = [(0,a),(1,b),(2,c),(6,d),(7,e),(8,f),(9,g),(10,h),(11,i),(12,j),(13,k),(14,m),(15,n),(16,o),(17,p),(18,B),(20,r),(24,s),(27,t),(78,u),(85,v),(113,w),(120,x)] := by intros; rfl
       refine R_nil (tr ..) ?_; clear tr
       refine then_n ?_
       refine at_seq rfl ?_
       refine rg rfl ?_
       refine Rq ?_
       refine Rq ?_
       refine Rq ?_
       refine Rq ?_
       refine Rq ?_
       refine Rq ?_
       have tr : ∀ a b c d e f g h i j k m n o p q r s t u v w x y z A B C D : AV, let l := lc_div64_ok a b c d e f g h i j k m n o p q r s t u v w x; trim ((16,D)::(101,C)::(100,B)::(99,A)::(98,z)::(97,y)::l) l = [(0,a),(1,b),(2,c),(6,d),(7,e),(8,f),(9,g),(10,h),(11,i),(12,j),(13,k),(14,m),(15,n),(16,D),(17,p),(18,q),(20,r),(24,s),(27,t),(78,u),(85,v),(113,w),(120,x)] := by intros; rfl
       refine R_nil (tr ..) ?_; clear tr
       refine then_n ?_
       refine at_seq rfl ?_
       refine at_block rfl ?_
       refine loop_n rfl (fun mm kv H' => ∃ k : Int, ∃ rk : Int, ∃ x113 x120 : AV, (kv = [(16, u6 rk), (18, u6 k), (113, x113), (120, x120)]) ∧ (mm = k.toNat) ∧ (H' = H) ∧ (k * y1 + rk = u2) ∧ ((u2 * 4294967296 + v0) / Y ≤ k) ∧ (k ≤ 4294967297) ∧ (0 ≤ rk ∧ rk < 4294967296)) ⟨(u2 / y1), u2 - (u2 / y1) * y1, _, _, rfl, rfl, rfl, by omega, by omega, by omega, by omega⟩ (by rfl) ?_
       rintro mm kv H' ⟨k, rk, x113, x120, rfl, rfl, rfl, g1k, g2k, g3k, g4k⟩
       have tr : ∀ a b c d e f g h i j k m n o p q r s t u v w x y z A B : AV, upd [(0,a),(1,b),(2,c),(6,d),(7,e),(8,f),(9,g),(10,h),(11,i),(12,j),(13,k),(14,m),(15,n),(16,o),(17,p),(18,q),(20,r),(24,s),(27,t),(78,u),(85,v),(113,w),(120,x)] [(16,y),(18,z),(113,A),(120,B)] = [(0,a),(1,b),(2,c),(6,d),(7,e),(8,f),(9,g),(10,h),(11,i),(12,j),(13,k),(14,m),(15,n),(16,y),(17,p),(18,z),(20,r),(24,s),(27,t),(78,u),(85,v),(113,A),(120,B)] := by intros; rfl
       refine W_to (tr ..) ?_; clear tr
       obtain ⟨H, hHH⟩ : ∃ x, x = H' := ⟨_, rfl⟩
       subst hHH
       refine at_seq rfl ?_
       refine at_seq rfl ?_
       refine rg rfl ?_
       refine Rq ?_
       refine Rq ?_
       refine Rq ?_
       refine Rp_split (fun h12 => ?_) (fun h12 => ?_)
       ·
        try simp only [decide_eq_true_eq, decide_eq_false_iff_not, decide_eq_decide, Bool.not_eq_true', Bool.not_eq_false', beq_iff_eq, beq_eq_false_iff_ne, ne_eq, Bool.and_eq_true, Bool.and_eq_false_iff, decide_not] at h12
        refine Rn ?_
        refine Rn ?_
        refine Rn ?_
        refine Rn ?_
        refine Rn ?_
        refine Rn ?_
        refine Rn ?_
        refine Rn ?_
        refine Rq ?_
        have tr : ∀ a b c d e f g h i j k m n o p q r s t u v w x y z A B C D E F G H I J : AV, let l := lc_div64_ok a b c d e f g h i j k m n o p q r s t u v w x; trim ((113,J)::(112,I)::(111,H)::(110,G)::(109,F)::(108,E)::(107,D)::(106,C)::(105,B)::(104,A)::(103,z)::(102,y)::l) l = [(0,a),(1,b),(2,c),(6,d),(7,e),(8,f),(9,g),(10,h),(11,i),(12,j),(13,k),(14,m),(15,n),(16,o),(17,p),(18,q),(20,r),(24,s),(27,t),(78,u),(85,v),(113,J),(120,x)] := by intros; rfl
        refine R_nil (tr ..) ?_; clear tr
        refine then_n ?_
        refine cdt ?_
        refine at_skip rfl ?_
        refine then_n ?_
        refine at_block rfl ?_
        refine at_seq rfl ?_
        refine rg rfl ?_
        have hgt : (u2 * 4294967296 + v0) / Y < k := dg_hi hYd hYp hv0 g1k (by omega) (by omega)
        refine Rq ?_
        refine Rq ?_
        refine Rq ?_
        have tr : ∀ a b c d e f g h i j k m n o p q r s t u v w x y z A : AV, let l := lc_div64_ok a b c d e f g h i j k m n o p q r s t u v w x; trim ((18,A)::(115,z)::(114,y)::l) l = [(0,a),(1,b),(2,c),(6,d),(7,e),(8,f),(9,g),(10,h),(11,i),(12,j),(13,k),(14,m),(15,n),(16,o),(17,p),(18,A),(20,r),(24,s),(27,t),(78,u),(85,v),(113,w),(120,x)] := by intros; rfl
        refine R_nil (tr ..) ?_; clear tr
        refine then_n ?_
        refine at_seq rfl ?_
        refine rg rfl ?_
        refine Rq ?_
        refine Rq ?_
        refine Rq ?_
        refine Rq ?_
        have tr : ∀ a b c d e f g h i j k m n o p q r s t u v w x y z A B : AV, let l := lc_div64_ok a b c d e f g h i j k m n o p q r s t u v w x; trim ((16,B)::(118,A)::(117,z)::(116,y)::l) l = [(0,a),(1,b),(2,c),(6,d),(7,e),(8,f),(9,g),(10,h),(11,i),(12,j),(13,k),(14,m),(15,n),(16,B),(17,p),(18,q),(20,r),(24,s),(27,t),(78,u),(85,v),(113,w),(120,x)] := by intros; rfl
        refine R_nil (tr ..) ?_; clear tr
        refine then_n ?_
        refine at_seq rfl ?_
        refine rg rfl ?_
        refine Rq ?_
        refine Rq ?_
        have tr : ∀ a b c d e f g h i j k m n o p q r s t u v w x y z : AV, let l := lc_div64_ok a b c d e f g h i j k m n o p q r s t u v w x; trim ((120,z)::(119,y)::l) l = [(0,a),(1,b),(2,c),(6,d),(7,e),(8,f),(9,g),(10,h),(11,i),(12,j),(13,k),(14,m),(15,n),(16,o),(17,p),(18,q),(20,r),(24,s),(27,t),(78,u),(85,v),(113,w),(120,z)] := by intros; rfl
        refine R_nil (tr ..) ?_; clear tr
        refine then_n ?_
        refine cdd (fun h13 => ?_) (fun h13 => ?_)
        ·
         try simp only [decide_eq_true_eq, decide_eq_false_iff_not, decide_eq_decide, Bool.not_eq_true', Bool.not_eq_false', beq_iff_eq, beq_eq_false_iff_ne, ne_eq, Bool.and_eq_true, Bool.and_eq_false_iff, decide_not] at h13
         refine at_exit rfl ?_
         refine blk_p (by decide) ?_
         refine then_x ?_
         refine blk_x ?_
         refine then_n ?_
         refine at_seq rfl ?_
         refine rg rfl ?_
         obtain ⟨k1, hk1⟩ : ∃ z, z = k - 1 := ⟨_, rfl⟩
         have hqb := dg_big (y0 := y0) (q := k - 1) (rh := rk + y1) (v := v0) (by omega) (by omega) hy0 (by omega) hv0.1
         have hqq := dg_lo (u := u2) (q := k - 1) (rh := rk + y1) (v := v0) hYd hYp (by rw [Int.sub_mul]; omega) hqb
         rw [← hk1]
         have hK : k1 = (u2 * 4294967296 + v0) / Y := by rw [hk1]; omega
         obtain ⟨w1, w2⟩ := dg_rest hYp hK
         obtain ⟨t3, t4⟩ := dg_lt hYp hv0 r1 r2 hK
         have hpost := d64_post (q0 := k1) (u2 := u2) (q1 := q1) (by omega) hp hY hN hv (by rw [← f3]; exact hu2) (by rw [← f4]; exact hK)
         rw [← f4] at hpost
         refine Rq ?_
         refine Rq ?_
         refine Rq ?_
         refine R_q (r := u6 (q1 * 4294967296 + k1)) rfl (by simp (disch := first | omega | (simp only [List.length_map, List.length_append, List.length_set, List.length_cons, List.length_nil]; omega)) only [go_sem, ↓reduceIte, Nat.reduceEqDiff, reduceCtorEq] <;> exact congrArg (fun z => some (u6 z)) (by omega)) ?_
         refine Rq ?_
         refine Rq ?_
         refine Rq ?_
         refine Rq ?_
         refine Rq ?_
         refine Rq ?_
         refine Rq ?_
         refine R_q (r := u6 (u2 * 4294967296 + v0 - k1 * Y)) rfl (by simp (disch := first | omega | (simp only [List.length_map, List.length_append, List.length_set, List.length_cons, List.length_nil]; omega)) only [go_sem, ↓reduceIte, Nat.reduceEqDiff, reduceCtorEq] <;> exact congrArg (fun z => some (u6 z)) (by omega)) ?_
         refine Rq ?_
         refine R_q rfl (by simp (disch := first | omega | (simp only [List.length_map, List.length_append, List.length_set, List.length_cons, List.length_nil]; omega)) only [go_sem, ↓reduceIte, Nat.reduceEqDiff, reduceCtorEq, e6] <;> rfl) ?_
         refine Rq ?_
         refine Rq ?_
         have tr : ∀ a b c d e f g h i j k m n o p q r s t u v w x y z A B C D E F G H I J K L M N : AV, let l := lc_div64_ok a b c d e f g h i j k m n o p q r s t u v w x; trim ((7,N)::(6,M)::(134,L)::(133,K)::(132,J)::(131,I)::(130,H)::(129,G)::(128,F)::(127,E)::(126,D)::(125,C)::(124,B)::(123,A)::(122,z)::(121,y)::l) l = [(0,a),(1,b),(2,c),(6,M),(7,N),(8,f),(9,g),(10,h),(11,i),(12,j),(13,k),(14,m),(15,n),(16,o),(17,p),(18,q),(20,r),(24,s),(27,t),(78,u),(85,v),(113,w),(120,x)] := by intros; rfl
         refine R_nil (tr ..) ?_; clear tr
         refine then_n ?_
         refine at_ret rfl ?_
         first | (refine fpure ?_; refine ⟨?_, rfl⟩; rw [hpost.1, hpost.2]; done) | (refine fpure ?_; refine ⟨?_, rfl⟩; have hz : hi = 0 := (by omega); rw [hz, Int.zero_mul, Int.zero_add] <;> rfl; done) | (refine fpure ?_; refine ⟨?_, rfl⟩; rw [hpost.1, hpost.2])
        ·
         try simp only [decide_eq_true_eq, decide_eq_false_iff_not, decide_eq_decide, Bool.not_eq_true', Bool.not_eq_false', beq_iff_eq, beq_eq_false_iff_ne, ne_eq, Bool.and_eq_true, Bool.and_eq_false_iff, decide_not] at h13
         refine at_skip rfl ?_
         refine blk_n ?_
         refine then_n ?_
         exact ⟨_, _, ⟨k - 1, rk + y1, _, _, rfl, rfl, rfl, by (rw [Int.sub_mul]; omega), by omega, by omega, by omega⟩, by rfl, by omega⟩
       ·
        try simp only [decide_eq_true_eq, decide_eq_false_iff_not, decide_eq_decide, Bool.not_eq_true', Bool.not_eq_false', beq_iff_eq, beq_eq_false_iff_ne, ne_eq, Bool.and_eq_true, Bool.and_eq_false_iff, decide_not] at h12
        have hqy0 := mul_pos' (a := k) (b := y0) (by omega) hy0.1
        have hqy1 := mul_le' (a := k) (b := y0) (c := 4294967295) (d := 4294967295) (by omega) (by omega) hy0.1 (by omega)
        refine Ry ?_
        refine Rq ?_
        refine Ry ?_
        refine Rq ?_
        refine Ry ?_
        refine Rq ?_
        refine Ry ?_
        refine Rq ?_
        refine Ry ?_
        refine Rq ?_
        refine Ry ?_
        refine Rq ?_
        refine Ry ?_
        refine Rq ?_
        refine Ry ?_
        refine Rq ?_
        refine Rq ?_
        have tr : ∀ a b c d e f g h i j k m n o p q r s t u v w x y z A B C D E F G H I J : AV, let l := lc_div64_ok a b c d e f g h i j k m n o p q r s t u v w x; trim ((113,J)::(112,I)::(111,H)::(110,G)::(109,F)::(108,E)::(107,D)::(106,C)::(105,B)::(104,A)::(103,z)::(102,y)::l) l = [(0,a),(1,b),(2,c),(6,d),(7,e),(8,f),(9,g),(10,h),(11,i),(12,j),(13,k),(14,m),(15,n),(16,o),(17,p),(18,q),(20,r),(24,s),(27,t),(78,u),(85,v),(113,J),(120,x)] := by intros; rfl
        refine R_nil (tr ..) ?_; clear tr
        refine then_n ?_
        refine cdd (fun h14 => ?_) (fun h14 => ?_)
        ·
         try simp only [decide_eq_true_eq, decide_eq_false_iff_not, decide_eq_decide, Bool.not_eq_true', Bool.not_eq_false', beq_iff_eq, beq_eq_false_iff_ne, ne_eq, Bool.and_eq_true, Bool.and_eq_false_iff, decide_not] at h14
         refine at_skip rfl ?_
         refine then_n ?_
         refine at_block rfl ?_
         refine at_seq rfl ?_
         refine rg rfl ?_
         have hgt : (u2 * 4294967296 + v0) / Y < k := dg_hi hYd hYp hv0 g1k (by omega) (by omega)
         refine Rq ?_
         refine Rq ?_
         refine Rq ?_
         have tr : ∀ a b c d e f g h i j k m n o p q r s t u v w x y z A : AV, let l := lc_div64_ok a b c d e f g h i j k m n o p q r s t u v w x; trim ((18,A)::(115,z)::(114,y)::l) l = [(0,a),(1,b),(2,c),(6,d),(7,e),(8,f),(9,g),(10,h),(11,i),(12,j),(13,k),(14,m),(15,n),(16,o),(17,p),(18,A),(20,r),(24,s),(27,t),(78,u),(85,v),(113,w),(120,x)] := by intros; rfl
         refine R_nil (tr ..) ?_; clear tr
         refine then_n ?_
         refine at_seq rfl ?_
         refine rg rfl ?_
         refine Rq ?_
         refine Rq ?_
         refine Rq ?_
         refine Rq ?_
         have tr : ∀ a b c d e f g h i j k m n o p q r s t u v w x y z A B : AV, let l := lc_div64_ok a b c d e f g h i j k m n o p q r s t u v w x; trim ((16,B)::(118,A)::(117,z)::(116,y)::l) l = [(0,a),(1,b),(2,c),(6,d),(7,e),(8,f),(9,g),(10,h),(11,i),(12,j),(13,k),(14,m),(15,n),(16,B),(17,p),(18,q),(20,r),(24,s),(27,t),(78,u),(85,v),(113,w),(120,x)] := by intros; rfl
         refine R_nil (tr ..) ?_; clear tr
         refine then_n ?_
         refine at_seq rfl ?_
         refine rg rfl ?_
         refine Rq ?_
         refine Rq ?_
         have tr : ∀ a b c d e f g h i j k m n o p q r s t u v w x y z : AV, let l := lc_div64_ok a b c d e f g h i j k m n o p q r s t u v w x; trim ((120,z)::(119,y)::l) l = [(0,a),(1,b),(2,c),(6,d),(7,e),(8,f),(9,g),(10,h),(11,i),(12,j),(13,k),(14,m),(15,n),(16,o),(17,p),(18,q),(20,r),(24,s),(27,t),(78,u),(85,v),(113,w),(120,z)] := by intros; rfl
         refine R_nil (tr ..) ?_; clear tr
         refine then_n ?_
         refine cdd (fun h15 => ?_) (fun h15 => ?_)
         ·
          try simp only [decide_eq_true_eq, decide_eq_false_iff_not, decide_eq_decide, Bool.not_eq_true', Bool.not_eq_false', beq_iff_eq, beq_eq_false_iff_ne, ne_eq, Bool.and_eq_true, Bool.and_eq_false_iff, decide_not] at h15
          refine at_exit rfl ?_
          refine blk_p (by decide) ?_
          refine then_x ?_
          refine blk_x ?_
          refine then_n ?_
          refine at_seq rfl ?_
          refine rg rfl ?_
          obtain ⟨k1, hk1⟩ : ∃ z, z = k - 1 := ⟨_, rfl⟩
          have hqb := dg_big (y0 := y0) (q := k - 1) (rh := rk + y1) (v := v0) (by omega) (by omega) hy0 (by omega) hv0.1
          have hqq := dg_lo (u := u2) (q := k - 1) (rh := rk + y1) (v := v0) hYd hYp (by rw [Int.sub_mul]; omega) hqb
          rw [← hk1]
          have hK : k1 = (u2 * 4294967296 + v0) / Y := by rw [hk1]; omega
          obtain ⟨w1, w2⟩ := dg_rest hYp hK
          obtain ⟨t3, t4⟩ := dg_lt hYp hv0 r1 r2 hK
          have hpost := d64_post (q0 := k1) (u2 := u2) (q1 := q1) (by omega) hp hY hN hv (by rw [← f3]; exact hu2) (by rw [← f4]; exact hK)
          rw [← f4] at hpost
          refine Rq ?_
          refine Rq ?_
          refine Rq ?_
          refine R_q (r := u6 (q1 * 4294967296 + k1)) rfl (by simp (disch := first | omega | (simp only [List.length_map, List.length_append, List.length_set, List.length_cons, List.length_nil]; omega)) only [go_sem, ↓reduceIte, Nat.reduceEqDiff, reduceCtorEq] <;> exact congrArg (fun z => some (u6 z)) (by omega)) ?_
          refine Rq ?_
          refine Rq ?_
          refine Rq ?_
          refine Rq ?_
          refine Rq ?_
          refine Rq ?_
          refine Rq ?_
          refine R_q (r := u6 (u2 * 4294967296 + v0 - k1 * Y)) rfl (by simp (disch := first | omega | (simp only [List.length_map, List.length_append, List.length_set, List.length_cons, List.length_nil]; omega)) only [go_sem, ↓reduceIte, Nat.reduceEqDiff, reduceCtorEq] <;> exact congrArg (fun z => some (u6 z)) (by omega)) ?_
          refine Rq ?_
          refine R_q rfl (by simp (disch := first | omega | (simp only [List.length_map, List.length_append, List.length_set, List.length_cons, List.length_nil]; omega)) only [go_sem, ↓reduceIte, Nat.reduceEqDiff, reduceCtorEq, e6] <;> rfl) ?_
          refine Rq ?_
          refine Rq ?_
          have tr : ∀ a b c d e f g h i j k m n o p q r s t u v w x y z A B C D E F G H I J K L M N : AV, let l := lc_div64_ok a b c d e f g h i j k m n o p q r s t u v w x; trim ((7,N)::(6,M)::(134,L)::(133,K)::(132,J)::(131,I)::(130,H)::(129,G)::(128,F)::(127,E)::(126,D)::(125,C)::(124,B)::(123,A)::(122,z)::(121,y)::l) l = [(0,a),(1,b),(2,c),(6,M),(7,N),(8,f),(9,g),(10,h),(11,i),(12,j),(13,k),(14,m),(15,n),(16,o),(17,p),(18,q),(20,r),(24,s),(27,t),(78,u),(85,v),(113,w),(120,x)] := by intros; rfl
          refine R_nil (tr ..) ?_; clear tr
          refine then_n ?_
          refine at_ret rfl ?_
          first | (refine fpure ?_; refine ⟨?_, rfl⟩; rw [hpost.1, hpost.2]; done) | (refine fpure ?_; refine ⟨?_, rfl⟩; have hz : hi = 0 := (by omega); rw [hz, Int.zero_mul, Int.zero_add] <;> rfl; done) | (refine fpure ?_; refine ⟨?_, rfl⟩; rw [hpost.1, hpost.2])
         ·
          try simp only [decide_eq_true_eq, decide_eq_false_iff_not, decide_eq_decide, Bool.not_eq_true', Bool.not_eq_false', beq_iff_eq, beq_eq_false_iff_ne, ne_eq, Bool.and_eq_true, Bool.and_eq_false_iff, decide_not] at h15
          refine at_skip rfl ?_
          refine blk_n ?_
          refine then_n ?_
          exact ⟨_, _, ⟨k - 1, rk + y1, _, _, rfl, rfl, rfl, by (rw [Int.sub_mul]; omega), by omega, by omega, by omega⟩, by rfl, by omega⟩
        ·
         try simp only [decide_eq_true_eq, decide_eq_false_iff_not, decide_eq_decide, Bool.not_eq_true', Bool.not_eq_false', beq_iff_eq, beq_eq_false_iff_ne, ne_eq, Bool.and_eq_true, Bool.and_eq_false_iff, decide_not] at h14
         refine at_exit rfl ?_
         refine then_x ?_
         refine then_x ?_
         refine blk_x ?_
         refine then_n ?_
         refine at_seq rfl ?_
         refine rg rfl ?_
         obtain ⟨k1, hk1⟩ : ∃ z, z = k := ⟨_, rfl⟩
         have hqq := dg_lo (v := v0) hYd hYp g1k (by omega)
         rw [← hk1]
         have hK : k1 = (u2 * 4294967296 + v0) / Y := by rw [hk1]; omega
         obtain ⟨w1, w2⟩ := dg_rest hYp hK
         obtain ⟨t3, t4⟩ := dg_lt hYp hv0 r1 r2 hK
         have hpost := d64_post (q0 := k1) (u2 := u2) (q1 := q1) (by omega) hp hY hN hv (by rw [← f3]; exact hu2) (by rw [← f4]; exact hK)
         rw [← f4] at hpost
         refine Rq ?_
         refine Rq ?_
         refine Rq ?_
         refine R_q (r := u6 (q1 * 4294967296 + k1)) rfl (by simp (disch := first | omega | (simp only [List.length_map, List.length_append, List.length_set, List.length_cons, List.length_nil]; omega)) only [go_sem, ↓reduceIte, Nat.reduceEqDiff, reduceCtorEq] <;> exact congrArg (fun z => some (u6 z)) (by omega)) ?_
         refine Rq ?_
         refine Rq ?_
         refine Rq ?_
         refine Rq ?_
         refine Rq ?_
         refine Rq ?_
         refine Rq ?_
         refine R_q (r := u6 (u2 * 4294967296 + v0 - k1 * Y)) rfl (by simp (disch := first | omega | (simp only [List.length_map, List.length_append, List.length_set, List.length_cons, List.length_nil]; omega)) only [go_sem, ↓reduceIte, Nat.reduceEqDiff, reduceCtorEq] <;> exact congrArg (fun z => some (u6 z)) (by omega)) ?_
         refine Rq ?_
         refine R_q rfl (by simp (disch := first | omega | (simp only [List.length_map, List.length_append, List.length_set, List.length_cons, List.length_nil]; omega)) only [go_sem, ↓reduceIte, Nat.reduceEqDiff, reduceCtorEq, e6] <;> rfl) ?_
         refine Rq ?_
         refine Rq ?_
         have tr : ∀ a b c d e f g h i j k m n o p q r s t u v w x y z A B C D E F G H I J K L M N : AV, let l := lc_div64_ok a b c d e f g h i j k m n o p q r s t u v w x; trim ((7,N)::(6,M)::(134,L)::(133,K)::(132,J)::(131,I)::(130,H)::(129,G)::(128,F)::(127,E)::(126,D)::(125,C)::(124,B)::(123,A)::(122,z)::(121,y)::l) l = [(0,a),(1,b),(2,c),(6,M),(7,N),(8,f),(9,g),(10,h),(11,i),(12,j),(13,k),(14,m),(15,n),(16,o),(17,p),(18,q),(20,r),(24,s),(27,t),(78,u),(85,v),(113,w),(120,x)] := by intros; rfl
         refine R_nil (tr ..) ?_; clear tr
         refine then_n ?_
         refine at_ret rfl ?_
         first | (refine fpure ?_; refine ⟨?_, rfl⟩; rw [hpost.1, hpost.2]; done) | (refine fpure ?_; refine ⟨?_, rfl⟩; have hz : hi = 0 := (by omega); rw [hz, Int.zero_mul, Int.zero_add] <;> rfl; done) | (refine fpure ?_; refine ⟨?_, rfl⟩; rw [hpost.1, hpost.2])
      ·
       try simp only [decide_eq_true_eq, decide_eq_false_iff_not, decide_eq_decide, Bool.not_eq_true', Bool.not_eq_false', beq_iff_eq, beq_eq_false_iff_ne, ne_eq, Bool.and_eq_true, Bool.and_eq_false_iff, decide_not] at h11
       refine at_skip rfl ?_
       refine blk_n ?_
       refine then_n ?_
       exact ⟨_, _, ⟨q - 1, rh + y1, _, _, rfl, rfl, rfl, by (rw [Int.sub_mul]; omega), by omega, by omega, by omega⟩, by rfl, by omega⟩
     ·
      try simp only [decide_eq_true_eq, decide_eq_false_iff_not, decide_eq_decide, Bool.not_eq_true', Bool.not_eq_false', beq_iff_eq, beq_eq_false_iff_ne, ne_eq, Bool.and_eq_true, Bool.and_eq_false_iff, decide_not] at h10
      refine at_exit rfl ?_
      refine then_x ?_
      refine then_x ?_
      refine blk_x ?_
      refine then_n ?_
      refine at_seq rfl ?_
      refine rg rfl ?_
      obtain ⟨q1, hq1⟩ : ∃ z, z = q := ⟨_, rfl⟩
      have hqq := dg_lo (v := v1) hYd hYp g1q (by omega)
      rw [← hq1]
      have hQ : q1 = (u * 4294967296 + v1) / Y := by rw [hq1]; omega
      obtain ⟨r1, r2⟩ := dg_rest hYp hQ
      obtain ⟨t1, t2⟩ := dg_lt hYp hv1 hu0 huY hQ
      obtain ⟨u2, hu2⟩ : ∃ z, z = u * 4294967296 + v1 - q1 * Y := ⟨_, rfl⟩
      rw [← hu2] at r1 r2
      obtain ⟨j1, j2, j3, j4, j5, j6⟩ := dg_init (v := v0) hYd hy1 hy0 hv0 r1 r2
      refine Rq ?_
      refine Rq ?_
      refine Rq ?_
      refine Rq ?_
      refine Rq ?_
      refine Rq ?_
      refine Rq ?_
      refine R_q (r := u6 u2) rfl (by simp (disch := first | omega | (simp only [List.length_map, List.length_append, List.length_set, List.length_cons, List.length_nil]; omega)) only [go_sem, ↓reduceIte, Nat.reduceEqDiff, reduceCtorEq] <;> exact congrArg (fun z => some (u6 z)) (by omega)) ?_
      refine Rq ?_
      have tr : ∀ a b c d e f g h i j k m n o p q r s t u v w x y z A B C D E F G : AV, let l := lc_div64_ok a b c d e f g h i j k m n o p q r s t u v w x; trim ((17,G)::(93,F)::(92,E)::(91,D)::(90,C)::(89,B)::(88,A)::(87,z)::(86,y)::l) l = [(0,a),(1,b),(2,c),(6,d),(7,e),(8,f),(9,g),(10,h),(11,i),(12,j),(13,k),(14,m),(15,n),(16,o),(17,G),(18,q),(20,r),(24,s),(27,t),(78,u),(85,v),(113,w),(120,x)] := by intros; rfl
      refine R_nil (tr ..) ?_; clear tr
      refine then_n ?_
      refine at_seq rfl ?_
      refine rg rfl ?_
      refine Rq ?_
      refine Rq ?_
      refine Rq ?_
      refine Rq ?_
      have tr : ∀ a b c d e f g h i j k m n o p q r s t u v w x y z A B : AV, let l := lc_div64_ok a b c d e f g h i j k m n o p q r s t u v w x; trim ((18,B)::(96,A)::(95,z)::(94,y)::l) l = [(0,a),(1,b),(2,c),(6,d),(7,e),(8,f),(9,g),(10,h),(11,i),(12,j),(13,k),(14,m),(15,n),(16,o),(17,p),(18,B),(20,r),(24,s),(27,t),(78,u),(85,v),(113,w),(120,x)] := by intros; rfl
      refine R_nil (tr ..) ?_; clear tr
      refine then_n ?_
      refine at_seq rfl ?_
      refine rg rfl ?_
      refine Rq ?_
      refine Rq ?_
      refine Rq ?_
      refine Rq ?_
      refine Rq ?_
      refine Rq ?_
      have tr : ∀ a b c d e f g h i j k m n o p q r s t u v w x y z A B C D : AV, let l := lc_div64_ok a b c d e f g h i j k m n o p q r s t u v w x; trim ((16,D)::(101,C)::(100,B)::(99,A)::(98,z)::(97,y)::l) l = [(0,a),(1,b),(2,c),(6,d),(7,e),(8,f),(9,g),(10,h),(11,i),(12,j),(13,k),(14,m),(15,n),(16,D),(17,p),(18,q),(20,r),(24,s),(27,t),(78,u),(85,v),(113,w),(120,x)] := by intros; rfl
      refine R_nil (tr ..) ?_; clear tr
      refine then_n ?_
      refine at_seq rfl ?_
      refine at_block rfl ?_
      refine loop_n rfl (fun mm kv H' => ∃ k : Int, ∃ rk : Int, ∃ x113 x120 : AV, (kv = [(16, u6 rk), (18, u6 k), (113, x113), (120, x120)]) ∧ (mm = k.toNat) ∧ (H' = H) ∧ (k * y1 + rk = u2) ∧ ((u2 * 4294967296 + v0) / Y ≤ k) ∧ (k ≤ 4294967297) ∧ (0 ≤ rk ∧ rk < 4294967296)) ⟨(u2 / y1), u2 - (u2 / y1) * y1, _, _, rfl, rfl, rfl, by omega, by omega, by omega, by omega⟩ (by rfl) ?_
      rintro mm kv H' ⟨k, rk, x113, x120, rfl, rfl, rfl, g1k, g2k, g3k, g4k⟩
      have tr : ∀ a b c d e f g h i j k m n o p q r s t u v w x y z A B : AV, upd [(0,a),(1,b),(2,c),(6,d),(7,e),(8,f),(9,g),(10,h),(11,i),(12,j),(13,k),(14,m),(15,n),(16,o),(17,p),(18,q),(20,r),(24,s),(27,t),(78,u),(85,v),(113,w),(120,x)] [(16,y),(18,z),(113,A),(120,B)] = [(0,a),(1,b),(2,c),(6,d),(7,e),(8,f),(9,g),(10,h),(11,i),(12,j),(13,k),(14,m),(15,n),(16,y),(17,p),(18,z),(20,r),(24,s),(27,t),(78,u),(85,v),(113,A),(120,B)] := by intros; rfl
      refine W_to (tr ..) ?_; clear tr
      obtain ⟨H, hHH⟩ : ∃ x, x = H' := ⟨_, rfl⟩
      subst hHH
      refine at_seq rfl ?_
      refine at_seq rfl ?_
      refine rg rfl ?_
      refine Rq ?_
      refine Rq ?_
      refine Rq ?_
      refine Rp_split (fun h16 => ?_) (fun h16 => ?_)
      ·
       try simp only [decide_eq_true_eq, decide_eq_false_iff_not, decide_eq_decide, Bool.not_eq_true', Bool.not_eq_false', beq_iff_eq, beq_eq_false_iff_ne, ne_eq, Bool.and_eq_true, Bool.and_eq_false_iff, decide_not] at h16
       refine Rn ?_
       refine Rn ?_
       refine Rn ?_
       refine Rn ?_
       refine Rn ?_
       refine Rn ?_
       refine Rn ?_
       refine Rn ?_
       refine Rq ?_
       have tr : ∀ a b c d e f g h i j k m n o p q r s t u v w x y z A B C D E F G H I J : AV, let l := lc_div64_ok a b c d e f g h i j k m n o p q r s t u v w x; trim ((113,J)::(112,I)::(111,H)::(110,G)::(109,F)::(108,E)::(107,D)::(106,C)::(105,B)::(104,A)::(103,z)::(102,y)::l) l = [(0,a),(1,b),(2,c),(6,d),(7,e),(8,f),(9,g),(10,h),(11,i),(12,j),(13,k),(14,m),(15,n),(16,o),(17,p),(18,q),(20,r),(24,s),(27,t),(78,u),(85,v),(113,J),(120,x)] := by intros; rfl
       refine R_nil (tr ..) ?_; clear tr
       refine then_n ?_
       refine cdt ?_
       refine at_skip rfl ?_
       refine then_n ?_
       refine at_block rfl ?_
       refine at_seq rfl ?_
       refine rg rfl ?_
       have hgt : (u2 * 4294967296 + v0) / Y < k := dg_hi hYd hYp hv0 g1k (by omega) (by omega)
       refine Rq ?_
       refine Rq ?_
       refine Rq ?_
       have tr : ∀ a b c d e f g h i j k m n o p q r s t u v w x y z A : AV, let l := lc_div64_ok a b c d e f g h i j k m n o p q r s t u v w x; trim ((18,A)::(115,z)::(114,y)::l) l = [(0,a),(1,b),(2,c),(6,d),(7,e),(8,f),(9,g),(10,h),(11,i),(12,j),(13,k),(14,m),(15,n),(16,o),(17,p),(18,A),(20,r),(24,s),(27,t),(78,u),(85,v),(113,w),(120,x)] := by intros; rfl
       refine R_nil (tr ..) ?_; clear tr
       refine then_n ?_
       refine at_seq rfl ?_
       refine rg rfl ?_
       refine Rq ?_
       refine Rq ?_
       refine Rq ?_
       refine Rq ?_
       have tr : ∀ a b c d e f g h i j k m n o p q r s t u v w x y z A B : AV, let l := lc_div64_ok a b c d e f g h i j k m n o p q r s t u v w x; trim ((16,B)::(118,A)::(117,z)::(116,y)::l) l = [(0,a),(1,b),(2,c),(6,d),(7,e),(8,f),(9,g),(10,h),(11,i),(12,j),(13,k),(14,m),(15,n),(16,B),(17,p),(18,q),(20,r),(24,s),(27,t),(78,u),(85,v),(113,w),(120,x)] := by intros; rfl
       refine R_nil (tr ..) ?_; clear tr
       refine then_n ?_
       refine at_seq rfl ?_
       refine rg rfl ?_
       refine Rq ?_
       refine Rq ?_
       have tr : ∀ a b c d e f g h i j k m n o p q r s t u v w x y z : AV, let l := lc_div64_ok a b c d e f g h i j k m n o p q r s t u v w x; trim ((120,z)::(119,y)::l) l = [(0,a),(1,b),(2,c),(6,d),(7,e),(8,f),(9,g),(10,h),(11,i),(12,j),(13,k),(14,m),(15,n),(16,o),(17,p),(18,q),(20,r),(24,s),(27,t),(78,u),(85,v),(113,w),(120,z)] := by intros; rfl
       refine R_nil (tr ..) ?_; clear tr
       refine then_n ?_
       refine cdd (fun h17 => ?_) (fun h17 => ?_)
       ·
        try simp only [decide_eq_true_eq, decide_eq_false_iff_not, decide_eq_decide, Bool.not_eq_true', Bool.not_eq_false', beq_iff_eq, beq_eq_false_iff_ne, ne_eq, Bool.and_eq_true, Bool.and_eq_false_iff, decide_not] at h17
        refine at_exit rfl ?_
        refine blk_p (by decide) ?_
        refine then_x ?_
        refine blk_x ?_
        refine then_n ?_
        refine at_seq rfl ?_
        refine rg rfl ?_
        obtain ⟨k1, hk1⟩ : ∃ z, z = k - 1 := ⟨_, rfl⟩
        have hqb := dg_big (y0 := y0) (q := k - 1) (rh := rk + y1) (v := v0) (by omega) (by omega) hy0 (by omega) hv0.1
        have hqq := dg_lo (u := u2) (q := k - 1) (rh := rk + y1) (v := v0) hYd hYp (by rw [Int.sub_mul]; omega) hqb
        rw [← hk1]
        have hK : k1 = (u2 * 4294967296 + v0) / Y := by rw [hk1]; omega
        obtain ⟨w1, w2⟩ := dg_rest hYp hK
        obtain ⟨t3, t4⟩ := dg_lt hYp hv0 r1 r2 hK
        have hpost := d64_post (q0 := k1) (u2 := u2) (q1 := q1) (by omega) hp hY hN hv (by rw [← f3]; exact hu2) (by rw [← f4]; exact hK)
        rw [← f4] at hpost
        refine Rq ?_
        refine Rq ?_
        refine Rq ?_
        refine R_q (r := u6 (q1 * 4294967296 + k1)) rfl (by simp (disch := first | omega | (simp only [List.length_map, List.length_append, List.length_set, List.length_cons, List.length_nil]; omega)) only [go_sem, ↓reduceIte, Nat.reduceEqDiff, reduceCtorEq] <;> exact congrArg (fun z => some (u6 z)) (by omega)) ?_
        refine Rq ?_
        refine Rq ?_
        refine Rq ?_
        refine Rq ?_
        refine Rq ?_
        refine Rq ?_
        refine Rq ?_
        refine R_q (r := u6 (u2 * 4294967296 + v0 - k1 * Y)) rfl (by simp (disch := first | omega | (simp only [List.length_map, List.length_append, List.length_set, List.length_cons, List.length_nil]; omega)) only [go_sem, ↓reduceIte, Nat.reduceEqDiff, reduceCtorEq] <;> exact congrArg (fun z => some (u6 z)) (by omega)) ?_
        refine Rq ?_
        refine R_q rfl (by simp (disch := first | omega | (simp only [List.length_map, List.length_append, List.length_set, List.length_cons, List.length_nil]; omega)) only [go_sem, ↓reduceIte, Nat.reduceEqDiff, reduceCtorEq, e6] <;> rfl) ?_
        refine Rq ?_
        refine Rq ?_
        have tr : ∀ a b c d e f g h i j k m n o p q r s t u v w x y z A B C D E F G H I J K L M N : AV, let l := lc_div64_ok a b c d e f g h i j k m n o p q r s t u v w x; trim ((7,N)::(6,M)::(134,L)::(133,K)::(132,J)::(131,I)::(130,H)::(129,G)::(128,F)::(127,E)::(126,D)::(125,C)::(124,B)::(123,A)::(122,z)::(121,y)::l) l = [(0,a),(1,b),(2,c),(6,M),(7,N),(8,f),(9,g),(10,h),(11,i),(12,j),(13,k),(14,m),(15,n),(16,o),(17,p),(18,q),(20,r),(24,s),(27,t),(78,u),(85,v),(113,w),(120,x)] := by intros; rfl
        refine R_nil (tr ..) ?_; clear tr
        refine then_n ?_
        refine at_ret rfl ?_
        first | (refine fpure ?_; refine ⟨?_, rfl⟩; rw [hpost.1, hpost.2]; done) | (refine fpure ?_; refine ⟨?_, rfl⟩; have hz : hi = 0 := (by omega); rw [hz, Int.zero_mul, Int.zero_add] <;> rfl; done) | (refine fpure ?_; refine ⟨?_, rfl⟩; rw [hpost.1, hpost.2])
       ·
        try simp only [decide_eq_true_eq, decide_eq_false_iff_not, decide_eq_decide, Bool.not_eq_true', Bool.not_eq_false', beq_iff_eq, beq_eq_false_iff_ne, ne_eq, Bool.and_eq_true, Bool.and_eq_false_iff, decide_not] at h17
        refine at_skip rfl ?_
        refine blk_n ?_
        refine then_n ?_
        exact ⟨_, _, ⟨k - 1, rk + y1, _, _, rfl, rfl, rfl, by (rw [Int.sub_mul]; omega), by omega, by omega, by omega⟩, by rfl, by omega⟩
      ·
       try simp only [decide_eq_true_eq, decide_eq_false_iff_not, decide_eq_decide, Bool.not_eq_true', Bool.not_eq_false', beq_iff_eq, beq_eq_false_iff_ne, ne_eq, Bool.and_eq_true, Bool.and_eq_false_iff, decide_not] at h16
       have hqy0 := mul_pos' (a := k) (b := y0) (by omega) hy0.1
       have hqy1 := mul_le' (a := k) (b := y0) (c := 4294967295) (d := 4294967295) (by omega) (by omega) hy0.1 (by omega)
       refine Ry ?_
       refine Rq ?_
       refine Ry ?_
       refine Rq ?_
       refine Ry ?_
       refine Rq ?_
       refine Ry ?_
       refine Rq ?_
       refine Ry ?_
       refine Rq ?_
       refine Ry ?_
       refine Rq ?_
       refine Ry ?_
       refine Rq ?_
       refine Ry ?_
       refine Rq ?_
       refine Rq ?_
       have tr : ∀ a b c d e f g h i j k m n o p q r s t u v w x y z A B C D E F G H I J : AV, let l := lc_div64_ok a b c d e f g h i j k m n o p q r s t u v w x; trim ((113,J)::(112,I)::(111,H)::(110,G)::(109,F)::(108,E)::(107,D)::(106,C)::(105,B)::(104,A)::(103,z)::(102,y)::l) l = [(0,a),(1,b),(2,c),(6,d),(7,e),(8,f),(9,g),(10,h),(11,i),(12,j),(13,k),(14,m),(15,n),(16,o),(17,p),(18,q),(20,r),(24,s),(27,t),(78,u),(85,v),(113,J),(120,x)] := by intros; rfl
       refine R_nil (tr ..) ?_; clear tr
       refine then_n ?_
       refine cdd (fun h18 => ?_) (fun h18 => ?_)
       ·
        try simp only [decide_eq_true_eq, decide_eq_false_iff_not, decide_eq_decide, Bool.not_eq_true', Bool.not_eq_false', beq_iff_eq, beq_eq_false_iff_ne, ne_eq, Bool.and_eq_true, Bool.and_eq_false_iff, decide_not] at h18
        refine at_skip rfl ?_
        refine then_n ?_
        refine at_block rfl ?_
        refine at_seq rfl ?_
        refine rg rfl ?_
        have hgt : (u2 * 4294967296 + v0) / Y < k := dg_hi hYd hYp hv0 g1k (by omega) (by omega)
        refine Rq ?_
        refine Rq ?_
        refine Rq ?_
        have tr : ∀ a b c d e f g h i j k m n o p q r s t u v w x y z A : AV, let l := lc_div64_ok a b c d e f g h i j k m n o p q r s t u v w x; trim ((18,A)::(115,z)::(114,y)::l) l = [(0,a),(1,b),(2,c),(6,d),(7,e),(8,f),(9,g),(10,h),(11,i),(12,j),(13,k),(14,m),(15,n),(16,o),(17,p),(18,A),(20,r),(24,s),(27,t),(78,u),(85,v),(113,w),(120,x)] := by intros; rfl
        refine R_nil (tr ..) ?_; clear tr
        refine then_n ?_
        refine at_seq rfl ?_
        refine rg rfl ?_
        refine Rq ?_
        refine Rq ?_
        refine Rq ?_
        refine Rq ?_
        have tr : ∀ a b c d e f g h i j k m n o p q r s t u v w x y z A B : AV, let l := lc_div64_ok a b c d e f g h i j k m n o p q r s t u v w x; trim ((16,B)::(118,A)::(117,z)::(116,y)::l) l = [(0,a),(1,b),(2,c),(6,d),(7,e),(8,f),(9,g),(10,h),(11,i),(12,j),(13,k),(14,m),(15,n),(16,B),(17,p),(18,q),(20,r),(24,s),(27,t),(78,u),(85,v),(113,w),(120,x)] := by intros; rfl
        refine R_nil (tr ..) ?_; clear tr
        refine then_n ?_
        refine at_seq rfl ?_
        refine rg rfl ?_
        refine Rq ?_
        refine Rq ?_
        have tr : ∀ a b c d e f g h i j k m n o p q r s t u v w x y z : AV, let l := lc_div64_ok a b c d e f g h i j k m n o p q r s t u v w x; trim ((120,z)::(119,y)::l) l = [(0,a),(1,b),(2,c),(6,d),(7,e),(8,f),(9,g),(10,h),(11,i),(12,j),(13,k),(14,m),(15,n),(16,o),(17,p),(18,q),(20,r),(24,s),(27,t),(78,u),(85,v),(113,w),(120,z)] := by intros; rfl
        refine R_nil (tr ..) ?_; clear tr
        refine then_n ?_
        refine cdd (fun h19 => ?_) (fun h19 => ?_)
        ·
         try simp only [decide_eq_true_eq, decide_eq_false_iff_not, decide_eq_decide, Bool.not_eq_true', Bool.not_eq_false', beq_iff_eq, beq_eq_false_iff_ne, ne_eq, Bool.and_eq_true, Bool.and_eq_false_iff, decide_not] at h19
         refine at_exit rfl ?_
         refine blk_p (by decide) ?_
         refine then_x ?_
         refine blk_x ?_
         refine then_n ?_
         refine at_seq rfl ?_
         refine rg rfl ?_
         obtain ⟨k1, hk1⟩ : ∃ z, z = k - 1 := ⟨_, rfl⟩
         have hqb := dg_big (y0 := y0) (q := k - 1) (rh := rk + y1) (v := v0) (by omega) (by omega) hy0 (by omega) hv0.1
         have hqq := dg_lo (u := u2) (q := k - 1) (rh := rk + y1) (v := v0) hYd hYp (by rw [Int.sub_mul]; omega) hqb
         rw [← hk1]
         have hK : k1 = (u2 * 4294967296 + v0) / Y := by rw [hk1]; omega
         obtain ⟨w1, w2⟩ := dg_rest hYp hK
         obtain ⟨t3, t4⟩ := dg_lt hYp hv0 r1 r2 hK
         have hpost := d64_post (q0 := k1) (u2 := u2) (q1 := q1) (by omega) hp hY hN hv (by rw [← f3]; exact hu2) (by rw [← f4]; exact hK)
         rw [← f4] at hpost
         refine Rq ?_
         refine Rq ?_
         refine Rq ?_
         refine R_q (r := u6 (q1 * 4294967296 + k1)) rfl (by simp (disch := first | omega | (simp only [List.length_map, List.length_append, List.length_set, List.length_cons, List.length_nil]; omega)) only [go_sem, ↓reduceIte, Nat.reduceEqDiff, reduceCtorEq] <;> exact congrArg (fun z => some (u6 z)) (by omega)) ?_
         refine Rq ?_
         refine Rq ?_
         refine Rq ?_
         refine Rq ?_
         refine Rq ?_
         refine Rq ?_
         refine Rq ?_
         refine R_q (r := u6 (u2 * 4294967296 + v0 - k1 * Y)) rfl (by simp (disch := first | omega | (simp only [List.length_map, List.length_append, List.length_set, List.length_cons, List.length_nil]; omega)) only [go_sem, ↓reduceIte, Nat.reduceEqDiff, reduceCtorEq] <;> exact congrArg (fun z => some (u6 z)) (by omega)) ?_
         refine Rq ?_
         refine R_q rfl (by simp (disch := first | omega | (simp only [List.length_map, List.length_append, List.length_set, List.length_cons, List.length_nil]; omega)) only [go_sem, ↓reduceIte, Nat.reduceEqDiff, reduceCtorEq, e6] <;> rfl) ?_
         refine Rq ?_
         refine Rq ?_
         have tr : ∀ a b c d e f g h i j k m n o p q r s t u v w x y z A B C D E F G H I J K L M N : AV, let l := lc_div64_ok a b c d e f g h i j k m n o p q r s t u v w x; trim ((7,N)::(6,M)::(134,L)::(133,K)::(132,J)::(131,I)::(130,H)::(129,G)::(128,F)::(127,E)::(126,D)::(125,C)::(124,B)::(123,A)::(122,z)::(121,y)::l) l = [(0,a),(1,b),(2,c),(6,M),(7,N),(8,f),(9,g),(10,h),(11,i),(12,j),(13,k),(14,m),(15,n),(16,o),(17,p),(18,q),(20,r),(24,s),(27,t),(78,u),(85,v),(113,w),(120,x)] := by intros; rfl
         refine R_nil (tr ..) ?_; clear tr
         refine then_n ?_
         refine at_ret rfl ?_
         first | (refine fpure ?_; refine ⟨?_, rfl⟩; rw [hpost.1, hpost.2]; done) | (refine fpure ?_; refine ⟨?_, rfl⟩; have hz : hi = 0 := (by omega); rw [hz, Int.zero_mul, Int.zero_add] <;> rfl; done) | (refine fpure ?_; refine ⟨?_, rfl⟩; rw [hpost.1, hpost.2])
        ·
         try simp only [decide_eq_true_eq, decide_eq_false_iff_not, decide_eq_decide, Bool.not_eq_true', Bool.not_eq_false', beq_iff_eq, beq_eq_false_iff_ne, ne_eq, Bool.and_eq_true, Bool.and_eq_false_iff, decide_not] at h19
         refine at_skip rfl ?_
         refine blk_n ?_
         refine then_n ?_
         exact ⟨_, _, ⟨k - 1, rk + y1, _, _, rfl, rfl, rfl, by (rw [Int.sub_mul]; omega), by omega, by omega, by omega⟩, by rfl, by omega⟩
       ·
        try simp only [decide_eq_true_eq, decide_eq_false_iff_not, decide_eq_decide, Bool.not_eq_true', Bool.not_eq_false', beq_iff_eq, beq_eq_false_iff_ne, ne_eq, Bool.and_eq_true, Bool.and_eq_false_iff, decide_not] at h18
        refine at_exit rfl ?_
        refine then_x ?_
        refine then_x ?_
        refine blk_x ?_
        refine then_n ?_
        refine at_seq rfl ?_
        refine rg rfl ?_
        obtain ⟨k1, hk1⟩ : ∃ z, z = k := ⟨_, rfl⟩
        have hqq := dg_lo (v := v0) hYd hYp g1k (by omega)
        rw [← hk1]
        have hK : k1 = (u2 * 4294967296 + v0) / Y := by rw [hk1]; omega
        obtain ⟨w1, w2⟩ := dg_rest hYp hK
        obtain ⟨t3, t4⟩ := dg_lt hYp hv0 r1 r2 hK
        have hpost := d64_post (q0 := k1) (u2 := u2) (q1 := q1) (by omega) hp hY hN hv (by rw [← f3]; exact hu2) (by rw [← f4]; exact hK)
        rw [← f4] at hpost
        refine Rq ?_
        refine Rq ?_
        refine Rq ?_
        refine R_q (r := u6 (q1 * 4294967296 + k1)) rfl (by simp (disch := first | omega | (simp only [List.length_map, List.length_append, List.length_set, List.length_cons, List.length_nil]; omega)) only [go_sem, ↓reduceIte, Nat.reduceEqDiff, reduceCtorEq] <;> exact congrArg (fun z => some (u6 z)) (by omega)) ?_
        refine Rq ?_
        refine Rq ?_
        refine Rq ?_
        refine Rq ?_
        refine Rq ?_
        refine Rq ?_
        refine Rq ?_
        refine R_q (r := u6 (u2 * 4294967296 + v0 - k1 * Y)) rfl (by simp (disch := first | omega | (simp only [List.length_map, List.length_append, List.length_set, List.length_cons, List.length_nil]; omega)) only [go_sem, ↓reduceIte, Nat.reduceEqDiff, reduceCtorEq] <;> exact congrArg (fun z => some (u6 z)) (by omega)) ?_
        refine Rq ?_
        refine R_q rfl (by simp (disch := first | omega | (simp only [List.length_map, List.length_append, List.length_set, List.length_cons, List.length_nil]; omega)) only [go_sem, ↓reduceIte, Nat.reduceEqDiff, reduceCtorEq, e6] <;> rfl) ?_
        refine Rq ?_
        refine Rq ?_
        have tr : ∀ a b c d e f g h i j k m n o p q r s t u v w x y z A B C D E F G H I J K L M N : AV, let l := lc_div64_ok a b c d e f g h i j k m n o p q r s t u v w x; trim ((7,N)::(6,M)::(134,L)::(133,K)::(132,J)::(131,I)::(130,H)::(129,G)::(128,F)::(127,E)::(126,D)::(125,C)::(124,B)::(123,A)::(122,z)::(121,y)::l) l = [(0,a),(1,b),(2,c),(6,M),(7,N),(8,f),(9,g),(10,h),(11,i),(12,j),(13,k),(14,m),(15,n),(16,o),(17,p),(18,q),(20,r),(24,s),(27,t),(78,u),(85,v),(113,w),(120,x)] := by intros; rfl
        refine R_nil (tr ..) ?_; clear tr
        refine then_n ?_
        refine at_ret rfl ?_
        first | (refine fpure ?_; refine ⟨?_, rfl⟩; rw [hpost.1, hpost.2]; done) | (refine fpure ?_; refine ⟨?_, rfl⟩; have hz : hi = 0 := (by omega); rw [hz, Int.zero_mul, Int.zero_add] <;> rfl; done) | (refine fpure ?_; refine ⟨?_, rfl⟩; rw [hpost.1, hpost.2])

end Go.Proofs.YtokhmkkifmhfmaaDoor
