/-
  Texts of RaceVerdicts, part 14 of 17. Walks of chapters 52 and 53. The steps are written by program (walk.py).
-/
import Derived.Test.YtdicnojnkbmdlaaKRaceVerdicts6
import Derived.Test.YtdicnojnkbmdlaaKRaceVerdicts7
import Derived.Test.YtdicnojnkbmdlaaKRaceVerdicts12
section
set_option linter.unusedSimpArgs false
set_option linter.unusedVariables false
set_option maxHeartbeats 40000000
set_option maxRecDepth 4000
namespace Go.Proofs.Ytdicnojnkbmdlaa
open Go Go.Am

abbrev lc_rpairs2_ok (a b c d e f g h i j k m n o p q r s t u : AV) : Env := [(0,a),(1,b),(2,c),(4,d),(5,e),(6,f),(7,g),(9,h),(10,i),(11,j),(13,k),(14,m),(15,n),(16,o),(28,p),(30,q),(31,r),(32,s),(39,t),(48,u)]
theorem rpairs2_ok (lim : Nat) (H : Heap) (P : List Int) (L : List Pr) (t : Int) (hL : L.length ≤ 400) :
    ACall sig lim 65 [.agg (raceC P L), AV.i t] H fun r H' => (∃ N : List Int, r = .tup [refB L t, outA N] ∧ N.length = (refO L t L.length).length ∧ ∀ i, i < N.length → 2 * gt N i = cnlN L t (norm (gt (refO L t L.length) i)) L.length) ∧ H' = H := by
 have q0 : True := trivial
 have qx : True := trivial
 have q1 : True := trivial
 have q2 : True := trivial
 refine ACall_pure (fa := fa65) rfl rfl rfl rfl ?_
 have tr : ∀ a0 a1 : AV, env0 fa65.keep [a0, a1] = [(0,a0),(1,a1),(2,.any),(4,.any),(5,.any),(6,.any),(7,.any),(9,.any),(10,.any),(11,.any),(13,.any),(14,.any),(15,.any),(16,.any),(28,.any),(30,.any),(31,.any),(32,.any),(39,.any),(48,.any)] := fun a0 a1 => rfl
 refine W_to (tr _ _) ?_; clear tr
 refine at_seq rfl ?_
 refine rg rfl ?_
 refine A_box rfl (by simp (disch := first | omega | (simp only [List.length_map, List.length_append, List.length_set, List.length_cons, List.length_nil]; omega)) only [go_sem, ↓reduceIte, Nat.reduceEqDiff, reduceCtorEq] <;> rfl) ?_
 intro H1 n0
 have en0 := n0.len
 have q0 := n0.new
 refine Rq ?_
 refine Rq ?_
 have tr : ∀ a b c d e f g h i j k m n o p q r s t u v w x : AV, let l := lc_rpairs2_ok a b c d e f g h i j k m n o p q r s t u; trim ((5,x)::(4,w)::(2,v)::l) l = [(0,a),(1,b),(2,v),(4,w),(5,x),(6,f),(7,g),(9,h),(10,i),(11,j),(13,k),(14,m),(15,n),(16,o),(28,p),(30,q),(31,r),(32,s),(39,t),(48,u)] := by intros; rfl
 refine R_nil (tr ..) ?_; clear tr
 refine then_n ?_
 refine at_seq rfl ?_
 refine rg rfl ?_
 refine Rq ?_
 have tr : ∀ a b c d e f g h i j k m n o p q r s t u v : AV, let l := lc_rpairs2_ok a b c d e f g h i j k m n o p q r s t u; trim ((6,v)::l) l = [(0,a),(1,b),(2,c),(4,d),(5,e),(6,v),(7,g),(9,h),(10,i),(11,j),(13,k),(14,m),(15,n),(16,o),(28,p),(30,q),(31,r),(32,s),(39,t),(48,u)] := by intros; rfl
 refine R_nil (tr ..) ?_; clear tr
 refine then_n ?_
 refine at_seq rfl ?_
 refine rg rfl ?_
 refine Rq ?_
 have tr : ∀ a b c d e f g h i j k m n o p q r s t u v : AV, let l := lc_rpairs2_ok a b c d e f g h i j k m n o p q r s t u; trim ((7,v)::l) l = [(0,a),(1,b),(2,c),(4,d),(5,e),(6,f),(7,v),(9,h),(10,i),(11,j),(13,k),(14,m),(15,n),(16,o),(28,p),(30,q),(31,r),(32,s),(39,t),(48,u)] := by intros; rfl
 refine R_nil (tr ..) ?_; clear tr
 refine then_n ?_
 refine at_seq rfl ?_
 refine at_seq rfl ?_
 refine rg rfl ?_
 refine Rq ?_
 refine R_q rfl (by simp (disch := first | omega | (simp only [List.length_map, List.length_append, List.length_set, List.length_cons, List.length_nil]; omega)) only [go_sem, ↓reduceIte, Nat.reduceEqDiff, reduceCtorEq, q0, qx, q1, q2] <;> rfl) ?_
 refine Rq ?_
 refine Rq ?_
 have tr : ∀ a b c d e f g h i j k m n o p q r s t u v w x y : AV, let l := lc_rpairs2_ok a b c d e f g h i j k m n o p q r s t u; trim ((15,y)::(14,x)::(13,w)::(12,v)::l) l = [(0,a),(1,b),(2,c),(4,d),(5,e),(6,f),(7,g),(9,h),(10,i),(11,j),(13,w),(14,x),(15,y),(16,o),(28,p),(30,q),(31,r),(32,s),(39,t),(48,u)] := by intros; rfl
 refine R_nil (tr ..) ?_; clear tr
 refine then_n ?_
 refine at_block rfl ?_
 refine loop_n rfl (fun mm kv H' => ∃ u : Nat, ∃ o1 : AV, ∃ o2 : AV, ∃ N : List Int, ∃ x9 x10 x11 x16 x28 x30 x31 x32 x39 x48 : AV, (kv = [(6, o1), (7, o2), (9, x9), (10, x10), (11, x11), (15, AV.i u), (16, x16), (28, x28), (30, x30), (31, x31), (32, x32), (39, x39), (48, x48)]) ∧ (mm = L.length - u) ∧ (hget H' H.length = some (raceC P L)) ∧ (H1.length ≤ H'.length) ∧ (u ≤ L.length) ∧ (OutPN H1.length H' o1 o2 (refO L t u) N) ∧ (NumO L t u N)) ⟨0, _, _, [], _, _, _, _, _, _, _, _, _, _, rfl, rfl, by exact q0, by exact Nat.le_refl _, by omega, by exact .inl ⟨rfl, rfl, rfl, rfl⟩, by exact ⟨rfl, fun i hi => by simp [refO] at hi⟩⟩ (by rfl) ?_
 rintro mm kv HB ⟨u, o1, o2, N, x9, x10, x11, x16, x28, x30, x31, x32, x39, x48, rfl, rfl, q0, hHB, hu, hO, hN0⟩
 have tr : ∀ a b c d e f g h i j k m n o p q r s t u v w x y z A B C D E F G H : AV, upd [(0,a),(1,b),(2,c),(4,d),(5,e),(6,f),(7,g),(9,h),(10,i),(11,j),(13,k),(14,m),(15,n),(16,o),(28,p),(30,q),(31,r),(32,s),(39,t),(48,u)] [(6,v),(7,w),(9,x),(10,y),(11,z),(15,A),(16,B),(28,C),(30,D),(31,E),(32,F),(39,G),(48,H)] = [(0,a),(1,b),(2,c),(4,d),(5,e),(6,v),(7,w),(9,x),(10,y),(11,z),(13,k),(14,m),(15,A),(16,B),(28,C),(30,D),(31,E),(32,F),(39,G),(48,H)] := by intros; rfl
 refine W_to (tr ..) ?_; clear tr
 have hpl := refO_len L t u
 refine at_seq rfl ?_
 refine rg rfl ?_
 refine Rq ?_
 have tr : ∀ a b c d e f g h i j k m n o p q r s t u v : AV, let l := lc_rpairs2_ok a b c d e f g h i j k m n o p q r s t u; trim ((16,v)::l) l = [(0,a),(1,b),(2,c),(4,d),(5,e),(6,f),(7,g),(9,h),(10,i),(11,j),(13,k),(14,m),(15,n),(16,v),(28,p),(30,q),(31,r),(32,s),(39,t),(48,u)] := by intros; rfl
 refine R_nil (tr ..) ?_; clear tr
 refine then_n ?_
 refine at_seq rfl ?_
 refine cdd (fun h1 => ?_) (fun h1 => ?_)
 ·
  try simp only [decide_eq_true_eq, decide_eq_false_iff_not, Bool.not_eq_true', Bool.not_eq_false', beq_iff_eq, beq_eq_false_iff_ne, ne_eq] at h1
  refine at_skip rfl ?_
  refine then_n ?_
  refine at_seq rfl ?_
  refine at_block rfl ?_
  refine at_seq rfl ?_
  refine rg rfl ?_
  refine Rq ?_
  refine R_q rfl (by simp (disch := first | omega | (simp only [List.length_map, List.length_append, List.length_set, List.length_cons, List.length_nil]; omega)) only [go_sem, ↓reduceIte, Nat.reduceEqDiff, reduceCtorEq, q0, qx, q1, q2] <;> rfl) ?_
  have hO1 := hO
  have lq0 := hget_lt q0
  refine A_alloc rfl ?_
  intro HC n4
  have en4 := n4.len
  have q0 := (n4.old _ (hget_lt q0)).trans q0
  have qx := n4.new
  have lq0 := hget_lt q0
  have lqx := hget_lt qx
  refine A_store ty58 (by simp (disch := first | omega | (simp only [List.length_map, List.length_append, List.length_set, List.length_cons, List.length_nil]; omega)) only [go_sem, ↓reduceIte, Nat.reduceEqDiff, reduceCtorEq, q0, qx, q1, q2] <;> rfl) (by simp (disch := first | omega | (simp only [List.length_map, List.length_append, List.length_set, List.length_cons, List.length_nil]; omega)) only [go_sem, ↓reduceIte, Nat.reduceEqDiff, reduceCtorEq, q0, qx, q1, q2] <;> rfl) qx ⟨by omega, rfl, by first | exact Nat.le_refl _ | simp⟩ (show _ = prC (gt L u) from rfl) ?_
  intro HD w4
  have ew4 := w4.len
  have q0 := (w4.old _ (by omega)).trans q0
  have qx := w4.new
  have hO := hO1.mono fun b hb k hk => (w4.old _ (by have := hget_lt hk; omega)).trans ((n4.old _ (hget_lt hk)).trans hk)
  have tr : ∀ a b c d e f g h i j k m n o p q r s t u v w x : AV, let l := lc_rpairs2_ok a b c d e f g h i j k m n o p q r s t u; trim ((9,x)::(18,w)::(17,v)::l) l = [(0,a),(1,b),(2,c),(4,d),(5,e),(6,f),(7,g),(9,x),(10,i),(11,j),(13,k),(14,m),(15,n),(16,o),(28,p),(30,q),(31,r),(32,s),(39,t),(48,u)] := by intros; rfl
  refine R_nil (tr ..) ?_; clear tr
  refine then_n ?_
  refine at_seq rfl ?_
  refine at_seq rfl ?_
  refine rg rfl ?_
  refine Rq ?_
  refine R_q rfl (by simp (disch := first | omega | (simp only [List.length_map, List.length_append, List.length_set, List.length_cons, List.length_nil]; omega)) only [go_sem, ↓reduceIte, Nat.reduceEqDiff, reduceCtorEq, q0, qx, q1, q2] <;> rfl) ?_
  refine Rq ?_
  refine Rq ?_
  refine Rq ?_
  refine Rp_split (fun h2 => ?_) (fun h2 => ?_)
  ·
   try simp only [decide_eq_true_eq, decide_eq_false_iff_not, Bool.not_eq_true', Bool.not_eq_false', beq_iff_eq, beq_eq_false_iff_ne, ne_eq] at h2
   refine Rn ?_
   refine Rn ?_
   refine Rn ?_
   refine Rn ?_
   refine Rq ?_
   have tr : ∀ a b c d e f g h i j k m n o p q r s t u v w x y z A B C D E : AV, let l := lc_rpairs2_ok a b c d e f g h i j k m n o p q r s t u; trim ((28,E)::(27,D)::(26,C)::(25,B)::(24,A)::(23,z)::(22,y)::(21,x)::(20,w)::(19,v)::l) l = [(0,a),(1,b),(2,c),(4,d),(5,e),(6,f),(7,g),(9,h),(10,i),(11,j),(13,k),(14,m),(15,n),(16,o),(28,E),(30,q),(31,r),(32,s),(39,t),(48,u)] := by intros; rfl
   refine R_nil (tr ..) ?_; clear tr
   refine then_n ?_
   refine cdt ?_
   refine at_exit rfl ?_
   refine then_x ?_
   refine blk_x ?_
   refine then_n ?_
   refine rg rfl ?_
   refine Rq ?_
   refine Rq ?_
   have tr : ∀ a b c d e f g h i j k m n o p q r s t u v w : AV, let l := lc_rpairs2_ok a b c d e f g h i j k m n o p q r s t u; trim ((15,w)::(56,v)::l) l = [(0,a),(1,b),(2,c),(4,d),(5,e),(6,f),(7,g),(9,h),(10,i),(11,j),(13,k),(14,m),(15,w),(16,o),(28,p),(30,q),(31,r),(32,s),(39,t),(48,u)] := by intros; rfl
   refine R_nil (tr ..) ?_; clear tr
   refine then_n ?_
   exact ⟨_, _, ⟨u + 1, o1, o2, N, _, _, _, _, _, _, _, _, _, _, rfl, rfl, by exact q0, by first | (show H1.length ≤ HQ.length; omega) | (show H1.length ≤ HF.length; omega) | (show H1.length ≤ HD.length; omega), by omega, by first | exact pn_newO hoth hmn qq g9.new hN hp3 (by omega) (by omega) rfl rfl | exact pn_oldO hoth hO (mem_norm.2 (by obtain ⟨i, hi, he⟩ := hmet.1 (by simp_all); exact ⟨i, by omega, he⟩)) | exact pn_skipO (by omega) hO, by first | exact numO_new hoth hmn hNl2 (fun i hi => by have := hNb i hi; rwa [if_pos (by omega)] at this) | exact numO_old hoth hNl2 (fun i hi => by have := hNb i hi; rwa [if_pos (by omega)] at this) (mem_norm.2 (by obtain ⟨i, hi, he⟩ := hmet.1 (by simp_all); exact ⟨i, by omega, he⟩)) | exact numO_skip (by omega) hN0⟩, by rfl, by omega⟩
  ·
   try simp only [decide_eq_true_eq, decide_eq_false_iff_not, Bool.not_eq_true', Bool.not_eq_false', beq_iff_eq, beq_eq_false_iff_ne, ne_eq] at h2
   refine Ry ?_
   refine Rq ?_
   refine Ry ?_
   refine R_q rfl (by simp (disch := first | omega | (simp only [List.length_map, List.length_append, List.length_set, List.length_cons, List.length_nil]; omega)) only [go_sem, ↓reduceIte, Nat.reduceEqDiff, reduceCtorEq, q0, qx, q1, q2] <;> rfl) ?_
   refine Ry ?_
   refine Rq ?_
   refine Ry ?_
   refine Rq ?_
   refine Rq ?_
   have tr : ∀ a b c d e f g h i j k m n o p q r s t u v w x y z A B C D E : AV, let l := lc_rpairs2_ok a b c d e f g h i j k m n o p q r s t u; trim ((28,E)::(27,D)::(26,C)::(25,B)::(24,A)::(23,z)::(22,y)::(21,x)::(20,w)::(19,v)::l) l = [(0,a),(1,b),(2,c),(4,d),(5,e),(6,f),(7,g),(9,h),(10,i),(11,j),(13,k),(14,m),(15,n),(16,o),(28,E),(30,q),(31,r),(32,s),(39,t),(48,u)] := by intros; rfl
   refine R_nil (tr ..) ?_; clear tr
   refine then_n ?_
   refine cdd (fun h3 => ?_) (fun h3 => ?_)
   ·
    try simp only [decide_eq_true_eq, decide_eq_false_iff_not, Bool.not_eq_true', Bool.not_eq_false', beq_iff_eq, beq_eq_false_iff_ne, ne_eq] at h3
    refine at_exit rfl ?_
    refine then_x ?_
    refine blk_x ?_
    refine then_n ?_
    refine rg rfl ?_
    refine Rq ?_
    refine Rq ?_
    have tr : ∀ a b c d e f g h i j k m n o p q r s t u v w : AV, let l := lc_rpairs2_ok a b c d e f g h i j k m n o p q r s t u; trim ((15,w)::(56,v)::l) l = [(0,a),(1,b),(2,c),(4,d),(5,e),(6,f),(7,g),(9,h),(10,i),(11,j),(13,k),(14,m),(15,w),(16,o),(28,p),(30,q),(31,r),(32,s),(39,t),(48,u)] := by intros; rfl
    refine R_nil (tr ..) ?_; clear tr
    refine then_n ?_
    exact ⟨_, _, ⟨u + 1, o1, o2, N, _, _, _, _, _, _, _, _, _, _, rfl, rfl, by exact q0, by first | (show H1.length ≤ HQ.length; omega) | (show H1.length ≤ HF.length; omega) | (show H1.length ≤ HD.length; omega), by omega, by first | exact pn_newO hoth hmn qq g9.new hN hp3 (by omega) (by omega) rfl rfl | exact pn_oldO hoth hO (mem_norm.2 (by obtain ⟨i, hi, he⟩ := hmet.1 (by simp_all); exact ⟨i, by omega, he⟩)) | exact pn_skipO (by omega) hO, by first | exact numO_new hoth hmn hNl2 (fun i hi => by have := hNb i hi; rwa [if_pos (by omega)] at this) | exact numO_old hoth hNl2 (fun i hi => by have := hNb i hi; rwa [if_pos (by omega)] at this) (mem_norm.2 (by obtain ⟨i, hi, he⟩ := hmet.1 (by simp_all); exact ⟨i, by omega, he⟩)) | exact numO_skip (by omega) hN0⟩, by rfl, by omega⟩
   ·
    try simp only [decide_eq_true_eq, decide_eq_false_iff_not, Bool.not_eq_true', Bool.not_eq_false', beq_iff_eq, beq_eq_false_iff_ne, ne_eq] at h3
    refine at_skip rfl ?_
    refine then_n ?_
    refine at_seq rfl ?_
    refine rg rfl ?_
    have hoth : ¬ ((gt L u).a = t ∨ (gt L u).b = t) := by omega
    refine Rq ?_
    have tr : ∀ a b c d e f g h i j k m n o p q r s t u v : AV, let l := lc_rpairs2_ok a b c d e f g h i j k m n o p q r s t u; trim ((10,v)::l) l = [(0,a),(1,b),(2,c),(4,d),(5,e),(6,f),(7,g),(9,h),(10,v),(11,j),(13,k),(14,m),(15,n),(16,o),(28,p),(30,q),(31,r),(32,s),(39,t),(48,u)] := by intros; rfl
    refine R_nil (tr ..) ?_; clear tr
    refine then_n ?_
    refine at_seq rfl ?_
    refine at_seq rfl ?_
    refine rg rfl ?_
    refine Rq ?_
    refine R_q rfl (by simp (disch := first | omega | (simp only [List.length_map, List.length_append, List.length_set, List.length_cons, List.length_nil]; omega)) only [go_sem, ↓reduceIte, Nat.reduceEqDiff, reduceCtorEq]; exact hO.len) ?_
    refine Rq ?_
    have tr : ∀ a b c d e f g h i j k m n o p q r s t u v w x : AV, let l := lc_rpairs2_ok a b c d e f g h i j k m n o p q r s t u; trim ((31,x)::(30,w)::(29,v)::l) l = [(0,a),(1,b),(2,c),(4,d),(5,e),(6,f),(7,g),(9,h),(10,i),(11,j),(13,k),(14,m),(15,n),(16,o),(28,p),(30,w),(31,x),(32,s),(39,t),(48,u)] := by intros; rfl
    refine R_nil (tr ..) ?_; clear tr
    refine then_n ?_
    refine at_block rfl ?_
    refine loop_n rfl (fun mm kv H' => ∃ w : Nat, ∃ met : Bool, ∃ N2 : List Int, ∃ x11 x32 x39 : AV, (kv = [(10, AV.b met), (11, x11), (31, AV.i w), (32, x32), (39, x39)]) ∧ (mm = (refO L t u).length - w) ∧ (hget H' H.length = some (raceC P L)) ∧ (hget H' HB.length = some (prC (gt L u))) ∧ (HB.length < H'.length) ∧ (OutPN H1.length H' o1 o2 (refO L t u) N2) ∧ (w ≤ (refO L t u).length) ∧ ((met = true ↔ ∃ i, i < w ∧ norm (gt (refO L t u) i) = norm (gt L u))) ∧ (N2.length = (refO L t u).length) ∧ (∀ i, i < (refO L t u).length → 2 * gt N2 i = if i < w then cnlN L t (norm (gt (refO L t u) i)) (u + 1) else cnlN L t (norm (gt (refO L t u) i)) u)) ⟨0, false, N, _, _, _, rfl, rfl, by exact q0, by exact qx, by omega, by exact hO, by omega, by exact ⟨fun hh => (by cases hh), fun ⟨i, hi, _⟩ => (by omega)⟩, by exact hN0.1, by intro i hi; rw [if_neg (by omega)]; exact hN0.2 i hi⟩ (by rfl) ?_
    rintro mm kv HF ⟨w, met, N2, x11, x32, x39, rfl, rfl, q0, qx, hHF, hO, hw, hmet, hNl2, hNb⟩
    have tr : ∀ a b c d e f g h i j k m n o p q r s t u v w x y z : AV, upd [(0,a),(1,b),(2,c),(4,d),(5,e),(6,f),(7,g),(9,h),(10,i),(11,j),(13,k),(14,m),(15,n),(16,o),(28,p),(30,q),(31,r),(32,s),(39,t),(48,u)] [(10,v),(11,w),(31,x),(32,y),(39,z)] = [(0,a),(1,b),(2,c),(4,d),(5,e),(6,f),(7,g),(9,h),(10,v),(11,w),(13,k),(14,m),(15,n),(16,o),(28,p),(30,q),(31,x),(32,y),(39,z),(48,u)] := by intros; rfl
    refine W_to (tr ..) ?_; clear tr
    refine at_seq rfl ?_
    refine rg rfl ?_
    refine Rq ?_
    have tr : ∀ a b c d e f g h i j k m n o p q r s t u v : AV, let l := lc_rpairs2_ok a b c d e f g h i j k m n o p q r s t u; trim ((32,v)::l) l = [(0,a),(1,b),(2,c),(4,d),(5,e),(6,f),(7,g),(9,h),(10,i),(11,j),(13,k),(14,m),(15,n),(16,o),(28,p),(30,q),(31,r),(32,v),(39,t),(48,u)] := by intros; rfl
    refine R_nil (tr ..) ?_; clear tr
    refine then_n ?_
    refine at_seq rfl ?_
    refine cdd (fun h4 => ?_) (fun h4 => ?_)
    ·
     try simp only [decide_eq_true_eq, decide_eq_false_iff_not, Bool.not_eq_true', Bool.not_eq_false', beq_iff_eq, beq_eq_false_iff_ne, ne_eq] at h4
     refine at_skip rfl ?_
     refine then_n ?_
     refine at_seq rfl ?_
     refine at_block rfl ?_
     refine at_seq rfl ?_
     refine rg rfl ?_
     refine Rq ?_
     refine Rq ?_
     have tr : ∀ a b c d e f g h i j k m n o p q r s t u v w : AV, let l := lc_rpairs2_ok a b c d e f g h i j k m n o p q r s t u; trim ((11,w)::(33,v)::l) l = [(0,a),(1,b),(2,c),(4,d),(5,e),(6,f),(7,g),(9,h),(10,i),(11,w),(13,k),(14,m),(15,n),(16,o),(28,p),(30,q),(31,r),(32,s),(39,t),(48,u)] := by intros; rfl
     refine R_nil (tr ..) ?_; clear tr
     refine then_n ?_
     refine at_seq rfl ?_
     refine rd rfl rfl ?_
     obtain ⟨h0, hNl, b1, b2, e1, e2, hb1, hb2, hbb, q1, q2⟩ := hO.resolve_left (fun hh => by have h7 := congrArg List.length hh.1; simp only [List.length_nil] at h7; omega)
     subst e1 e2
     have hb12 : b1 < HB.length ∧ b2 < HB.length := by
       rcases hO1 with ⟨hh, _⟩ | ⟨_, _, c1, c2, h, h9, _, _, _, h7, h8⟩
       · exact absurd hh h0
       · cases h; cases h9; exact ⟨hget_lt h7, hget_lt h8⟩
     have hNr := hNb w (by omega)
     rw [if_neg (by omega)] at hNr
     have hcr := cnl_rng L t (norm (gt (refO L t u) w)) u
     refine Qq ?_
     refine Qq ?_
     refine Qq ?_
     refine Q_q rfl (by simp (disch := first | omega | (simp only [List.length_map, List.length_append, List.length_set, List.length_cons, List.length_nil]; omega)) only [go_sem, ↓reduceIte, Nat.reduceEqDiff, reduceCtorEq, q0, qx, q1, q2] <;> rfl) ?_
     refine Q_q rfl (by simp (disch := first | omega | (simp only [List.length_map, List.length_append, List.length_set, List.length_cons, List.length_nil]; omega)) only [go_sem, ↓reduceIte, Nat.reduceEqDiff, reduceCtorEq, q0, qx, q1, q2] <;> rfl) ?_
     refine Qcall ?_
     refine ACall_eq (same_ok _ _ _ _) ?_
     refine ⟨rfl, ?_⟩
     refine Q_nil ?_
     have tr : ∀ a b c d e f g h i j k m n o p q r s t u v w x y z A : AV, let l := lc_rpairs2_ok a b c d e f g h i j k m n o p q r s t u; trim ((39,A)::(38,z)::(37,y)::(36,x)::(35,w)::(34,v)::l) l = [(0,a),(1,b),(2,c),(4,d),(5,e),(6,f),(7,g),(9,h),(10,i),(11,j),(13,k),(14,m),(15,n),(16,o),(28,p),(30,q),(31,r),(32,s),(39,A),(48,u)] := by intros; rfl
     refine R_nil (tr ..) ?_; clear tr
     refine then_n ?_
     refine cdd (fun h5 => ?_) (fun h5 => ?_)
     ·
      try simp only [decide_eq_true_eq, decide_eq_false_iff_not, Bool.not_eq_true', Bool.not_eq_false', beq_iff_eq, beq_eq_false_iff_ne, ne_eq] at h5
      refine at_seq rfl ?_
      refine rg rfl ?_
      refine Rq ?_
      refine Rq ?_
      refine Rq ?_
      refine R_q rfl (by simp (disch := first | omega | (simp only [List.length_map, List.length_append, List.length_set, List.length_cons, List.length_nil]; omega)) only [go_sem, ↓reduceIte, Nat.reduceEqDiff, reduceCtorEq, q0, qx, q1, q2] <;> rfl) ?_
      refine Rq ?_
      refine Rq ?_
      have lq0 := hget_lt q0
      have lqx := hget_lt qx
      have lq1 := hget_lt q1
      have lq2 := hget_lt q2
      refine A_store ty3 (by simp (disch := first | omega | (simp only [List.length_map, List.length_append, List.length_set, List.length_cons, List.length_nil]; omega)) only [go_sem, ↓reduceIte, Nat.reduceEqDiff, reduceCtorEq, q0, qx, q1, q2] <;> rfl) (by simp (disch := first | omega | (simp only [List.length_map, List.length_append, List.length_set, List.length_cons, List.length_nil]; omega)) only [go_sem, ↓reduceIte, Nat.reduceEqDiff, reduceCtorEq, q0, qx, q1, q2] <;> rfl) q2 ⟨by omega, rfl, by simp only [List.length_map]; omega⟩ (setL_map _ _ _) ?_
      intro HE w5
      have ew5 := w5.len
      have q0 := (w5.old _ (by omega)).trans q0
      have qx := (w5.old _ (by omega)).trans qx
      have q1 := (w5.old _ (by omega)).trans q1
      have q2 := w5.new
      have tr : ∀ a b c d e f g h i j k m n o p q r s t u v w x y z A : AV, let l := lc_rpairs2_ok a b c d e f g h i j k m n o p q r s t u; trim ((45,A)::(44,z)::(43,y)::(42,x)::(41,w)::(40,v)::l) l = [(0,a),(1,b),(2,c),(4,d),(5,e),(6,f),(7,g),(9,h),(10,i),(11,j),(13,k),(14,m),(15,n),(16,o),(28,p),(30,q),(31,r),(32,s),(39,t),(48,u)] := by intros; rfl
      refine R_nil (tr ..) ?_; clear tr
      refine then_n ?_
      refine rg rfl ?_
      refine Rq ?_
      have tr : ∀ a b c d e f g h i j k m n o p q r s t u v : AV, let l := lc_rpairs2_ok a b c d e f g h i j k m n o p q r s t u; trim ((10,v)::l) l = [(0,a),(1,b),(2,c),(4,d),(5,e),(6,f),(7,g),(9,h),(10,v),(11,j),(13,k),(14,m),(15,n),(16,o),(28,p),(30,q),(31,r),(32,s),(39,t),(48,u)] := by intros; rfl
      refine R_nil (tr ..) ?_; clear tr
      refine blk_n ?_
      refine then_n ?_
      refine rg rfl ?_
      refine Rq ?_
      refine Rq ?_
      have tr : ∀ a b c d e f g h i j k m n o p q r s t u v w : AV, let l := lc_rpairs2_ok a b c d e f g h i j k m n o p q r s t u; trim ((31,w)::(46,v)::l) l = [(0,a),(1,b),(2,c),(4,d),(5,e),(6,f),(7,g),(9,h),(10,i),(11,j),(13,k),(14,m),(15,n),(16,o),(28,p),(30,q),(31,w),(32,s),(39,t),(48,u)] := by intros; rfl
      refine R_nil (tr ..) ?_; clear tr
      refine then_n ?_
      exact ⟨_, _, ⟨w + 1, true, (N2.set w (gt N2 w + 1)), _, _, _, rfl, rfl, by exact q0, by exact qx, by first | (show HB.length < HE.length; omega) | omega, by first | exact .inr ⟨h0, by rw [List.length_set]; exact hNl, b1, b2, rfl, rfl, hb1, hb2, hbb, q1, q2⟩ | exact .inr ⟨h0, hNl, b1, b2, rfl, rfl, hb1, hb2, hbb, q1, q2⟩, by omega, by first | exact ⟨fun _ => ⟨w, by omega, by assumption⟩, fun _ => rfl⟩ | exact ⟨fun hh => by obtain ⟨i, hi, he⟩ := hmet.1 hh; exact ⟨i, by omega, he⟩, fun ⟨i, hi, he⟩ => hmet.2 ⟨i, (by by_cases hiw : i = w; (subst hiw; exact absurd he (by assumption)); (omega)), he⟩⟩, by first | exact hNl2 | (rw [List.length_set]; exact hNl2), by first | exact num_hit hoth (by assumption) hNl2 (by omega) hNb | exact num_miss (by assumption) hNb⟩, by rfl, by omega⟩
     ·
      try simp only [decide_eq_true_eq, decide_eq_false_iff_not, Bool.not_eq_true', Bool.not_eq_false', beq_iff_eq, beq_eq_false_iff_ne, ne_eq] at h5
      refine at_skip rfl ?_
      refine blk_n ?_
      refine then_n ?_
      refine rg rfl ?_
      refine Rq ?_
      refine Rq ?_
      have tr : ∀ a b c d e f g h i j k m n o p q r s t u v w : AV, let l := lc_rpairs2_ok a b c d e f g h i j k m n o p q r s t u; trim ((31,w)::(46,v)::l) l = [(0,a),(1,b),(2,c),(4,d),(5,e),(6,f),(7,g),(9,h),(10,i),(11,j),(13,k),(14,m),(15,n),(16,o),(28,p),(30,q),(31,w),(32,s),(39,t),(48,u)] := by intros; rfl
      refine R_nil (tr ..) ?_; clear tr
      refine then_n ?_
      exact ⟨_, _, ⟨w + 1, met, N2, _, _, _, rfl, rfl, by exact q0, by exact qx, by first | (show HB.length < HE.length; omega) | omega, by first | exact .inr ⟨h0, by rw [List.length_set]; exact hNl, b1, b2, rfl, rfl, hb1, hb2, hbb, q1, q2⟩ | exact .inr ⟨h0, hNl, b1, b2, rfl, rfl, hb1, hb2, hbb, q1, q2⟩, by omega, by first | exact ⟨fun _ => ⟨w, by omega, by assumption⟩, fun _ => rfl⟩ | exact ⟨fun hh => by obtain ⟨i, hi, he⟩ := hmet.1 hh; exact ⟨i, by omega, he⟩, fun ⟨i, hi, he⟩ => hmet.2 ⟨i, (by by_cases hiw : i = w; (subst hiw; exact absurd he (by assumption)); (omega)), he⟩⟩, by first | exact hNl2 | (rw [List.length_set]; exact hNl2), by first | exact num_hit hoth (by assumption) hNl2 (by omega) hNb | exact num_miss (by assumption) hNb⟩, by rfl, by omega⟩
    ·
     try simp only [decide_eq_true_eq, decide_eq_false_iff_not, Bool.not_eq_true', Bool.not_eq_false', beq_iff_eq, beq_eq_false_iff_ne, ne_eq] at h4
     refine at_exit rfl ?_
     refine then_x ?_
     refine then_x ?_
     refine blk_x ?_
     refine then_n ?_
     refine at_seq rfl ?_
     refine rg rfl ?_
     refine Rq ?_
     refine Rq ?_
     have tr : ∀ a b c d e f g h i j k m n o p q r s t u v w : AV, let l := lc_rpairs2_ok a b c d e f g h i j k m n o p q r s t u; trim ((48,w)::(47,v)::l) l = [(0,a),(1,b),(2,c),(4,d),(5,e),(6,f),(7,g),(9,h),(10,i),(11,j),(13,k),(14,m),(15,n),(16,o),(28,p),(30,q),(31,r),(32,s),(39,t),(48,w)] := by intros; rfl
     refine R_nil (tr ..) ?_; clear tr
     refine then_n ?_
     refine cdd (fun h6 => ?_) (fun h6 => ?_)
     ·
      try simp only [decide_eq_true_eq, decide_eq_false_iff_not, Bool.not_eq_true', Bool.not_eq_false', beq_iff_eq, beq_eq_false_iff_ne, ne_eq] at h6
      refine at_seq rfl ?_
      refine rg rfl ?_
      have hbnd : ∀ c2, o2 = .own 1 c2 0 (refO L t u).length → c2 < HF.length := fun c2 e => by
        rcases hO with ⟨_, _, _, h⟩ | ⟨_, _, c1, c3, _, h, _, _, _, _, h8⟩
        · rw [h] at e; cases e
        · rw [h] at e; cases e; exact hget_lt h8
      have hmn : ¬ norm (gt L u) ∈ (refO L t u).map norm := fun hh => by have := hmet.2 (by obtain ⟨i, hi, he⟩ := mem_norm.1 hh; exact ⟨i, by omega, he⟩); simp_all
      refine Rq ?_
      refine R_q rfl (by simp (disch := first | omega | (simp only [List.length_map, List.length_append, List.length_set, List.length_cons, List.length_nil]; omega)) only [go_sem, ↓reduceIte, Nat.reduceEqDiff, reduceCtorEq, q0, qx, q1, q2] <;> rfl) ?_
      refine A_buildSlice (bs41 _ _ _ _ (gt L u) (by simp (disch := first | omega | (simp only [List.length_map, List.length_append, List.length_set, List.length_cons, List.length_nil]; omega)) only [go_sem, ↓reduceIte, Nat.reduceEqDiff, reduceCtorEq, q0, qx, q1, q2])) ?_
      intro HG n7
      have en7 := n7.len
      have q0 := (n7.old _ (hget_lt q0)).trans q0
      have qx := (n7.old _ (hget_lt qx)).trans qx
      have qn := n7.new
      have hO := hO.mono fun b hb k hk => (n7.old _ (hget_lt hk)).trans hk
      have lq0 := hget_lt q0
      have lqx := hget_lt qx
      have lqn := hget_lt qn
      obtain ⟨b, hbl, hbn, hap⟩ := pn_append1 (lim := H.length) hO qn (by omega) (by omega) (by omega)
      have hN := hO.num
      refine A_append (by simp (disch := first | omega | (simp only [List.length_map, List.length_append, List.length_set, List.length_cons, List.length_nil]; omega)) only [go_sem, ↓reduceIte, Nat.reduceEqDiff, reduceCtorEq, q0, qx, q1, q2]; exact hap) ?_
      intro HK g7
      have eg7 := g7.len
      have q0 := (g7.old _ (by omega) lq0).trans q0
      have qq := g7.new
      have hN := hN.keep fun b2 k e hk => (g7.old _ (fun hh => hbn b2 e hh.symm) (hget_lt hk)).trans hk
      refine Rq ?_
      have tr : ∀ a b c d e f g h i j k m n o p q r s t u v w x y z : AV, let l := lc_rpairs2_ok a b c d e f g h i j k m n o p q r s t u; trim ((6,z)::(52,y)::(51,x)::(50,w)::(49,v)::l) l = [(0,a),(1,b),(2,c),(4,d),(5,e),(6,z),(7,g),(9,h),(10,i),(11,j),(13,k),(14,m),(15,n),(16,o),(28,p),(30,q),(31,r),(32,s),(39,t),(48,u)] := by intros; rfl
      refine R_nil (tr ..) ?_; clear tr
      refine then_n ?_
      refine rg rfl ?_
      refine Rq ?_
      have hNd : ∀ b2, o2 = .own 1 b2 0 (refO L t u).length → HG.length ≠ b2 := fun b2 e hh => by have := hbnd b2 e; omega
      refine A_buildSlice (bs40' _ _ _ _ 1 (by simp (disch := first | omega | (simp only [List.length_map, List.length_append, List.length_set, List.length_cons, List.length_nil]; omega)) only [go_sem, ↓reduceIte, Nat.reduceEqDiff, reduceCtorEq, q0, qx, q1, q2])) ?_
      intro HM n9
      have en9 := n9.len
      have q0 := (n9.old _ (hget_lt q0)).trans q0
      have qq := (n9.old _ (hget_lt qq)).trans qq
      have qn := n9.new
      have hN := hN.keep fun b2 k e hk => (n9.old _ (hget_lt hk)).trans hk
      have lq0 := hget_lt q0
      have lqq := hget_lt qq
      have lqn := hget_lt qn
      obtain ⟨b3, hb3, hp3, hap2⟩ := pn_append2 (lim := H.length) (p := HG.length) hN hNd (by omega) qn (by omega) (by omega) (by omega)
      refine A_append (by simp (disch := first | omega | (simp only [List.length_map, List.length_append, List.length_set, List.length_cons, List.length_nil]; omega)) only [go_sem, ↓reduceIte, Nat.reduceEqDiff, reduceCtorEq, q0, qx, q1, q2]; exact hap2) ?_
      intro HQ g9
      have eg9 := g9.len
      have q0 := (g9.old _ (by omega) lq0).trans q0
      have qq := (g9.old _ (by omega) lqq).trans qq
      have qz := g9.new
      refine Rq ?_
      have tr : ∀ a b c d e f g h i j k m n o p q r s t u v w x y : AV, let l := lc_rpairs2_ok a b c d e f g h i j k m n o p q r s t u; trim ((7,y)::(55,x)::(54,w)::(53,v)::l) l = [(0,a),(1,b),(2,c),(4,d),(5,e),(6,f),(7,y),(9,h),(10,i),(11,j),(13,k),(14,m),(15,n),(16,o),(28,p),(30,q),(31,r),(32,s),(39,t),(48,u)] := by intros; rfl
      refine R_nil (tr ..) ?_; clear tr
      refine blk_n ?_
      refine then_n ?_
      refine rg rfl ?_
      refine Rq ?_
      refine Rq ?_
      have tr : ∀ a b c d e f g h i j k m n o p q r s t u v w : AV, let l := lc_rpairs2_ok a b c d e f g h i j k m n o p q r s t u; trim ((15,w)::(56,v)::l) l = [(0,a),(1,b),(2,c),(4,d),(5,e),(6,f),(7,g),(9,h),(10,i),(11,j),(13,k),(14,m),(15,w),(16,o),(28,p),(30,q),(31,r),(32,s),(39,t),(48,u)] := by intros; rfl
      refine R_nil (tr ..) ?_; clear tr
      refine then_n ?_
      exact ⟨_, _, ⟨u + 1, (.own 2 HG.length 0 ((refO L t u).length + 1)), (.own 1 HM.length 0 ((refO L t u).length + 1)), N2 ++ [1], _, _, _, _, _, _, _, _, _, _, rfl, rfl, by exact q0, by first | (show H1.length ≤ HQ.length; omega) | (show H1.length ≤ HF.length; omega) | (show H1.length ≤ HD.length; omega), by omega, by first | exact pn_newO hoth hmn qq g9.new hN hp3 (by omega) (by omega) rfl rfl | exact pn_oldO hoth hO (mem_norm.2 (by obtain ⟨i, hi, he⟩ := hmet.1 (by simp_all); exact ⟨i, by omega, he⟩)) | exact pn_skipO (by omega) hO, by first | exact numO_new hoth hmn hNl2 (fun i hi => by have := hNb i hi; rwa [if_pos (by omega)] at this) | exact numO_old hoth hNl2 (fun i hi => by have := hNb i hi; rwa [if_pos (by omega)] at this) (mem_norm.2 (by obtain ⟨i, hi, he⟩ := hmet.1 (by simp_all); exact ⟨i, by omega, he⟩)) | exact numO_skip (by omega) hN0⟩, by rfl, by omega⟩
     ·
      try simp only [decide_eq_true_eq, decide_eq_false_iff_not, Bool.not_eq_true', Bool.not_eq_false', beq_iff_eq, beq_eq_false_iff_ne, ne_eq] at h6
      refine at_skip rfl ?_
      refine blk_n ?_
      refine then_n ?_
      refine rg rfl ?_
      refine Rq ?_
      refine Rq ?_
      have tr : ∀ a b c d e f g h i j k m n o p q r s t u v w : AV, let l := lc_rpairs2_ok a b c d e f g h i j k m n o p q r s t u; trim ((15,w)::(56,v)::l) l = [(0,a),(1,b),(2,c),(4,d),(5,e),(6,f),(7,g),(9,h),(10,i),(11,j),(13,k),(14,m),(15,w),(16,o),(28,p),(30,q),(31,r),(32,s),(39,t),(48,u)] := by intros; rfl
      refine R_nil (tr ..) ?_; clear tr
      refine then_n ?_
      exact ⟨_, _, ⟨u + 1, o1, o2, N2, _, _, _, _, _, _, _, _, _, _, rfl, rfl, by exact q0, by first | (show H1.length ≤ HQ.length; omega) | (show H1.length ≤ HF.length; omega) | (show H1.length ≤ HD.length; omega), by omega, by first | exact pn_newO hoth hmn qq g9.new hN hp3 (by omega) (by omega) rfl rfl | exact pn_oldO hoth hO (mem_norm.2 (by obtain ⟨i, hi, he⟩ := hmet.1 (by simp_all); exact ⟨i, by omega, he⟩)) | exact pn_skipO (by omega) hO, by first | exact numO_new hoth hmn hNl2 (fun i hi => by have := hNb i hi; rwa [if_pos (by omega)] at this) | exact numO_old hoth hNl2 (fun i hi => by have := hNb i hi; rwa [if_pos (by omega)] at this) (mem_norm.2 (by obtain ⟨i, hi, he⟩ := hmet.1 (by simp_all); exact ⟨i, by omega, he⟩)) | exact numO_skip (by omega) hN0⟩, by rfl, by omega⟩
 ·
  try simp only [decide_eq_true_eq, decide_eq_false_iff_not, Bool.not_eq_true', Bool.not_eq_false', beq_iff_eq, beq_eq_false_iff_ne, ne_eq] at h1
  refine at_exit rfl ?_
  refine then_x ?_
  refine then_x ?_
  refine blk_x ?_
  refine then_n ?_
  refine at_seq rfl ?_
  refine rg rfl ?_
  refine Rq ?_
  refine Rq ?_
  refine Rq ?_
  refine Rq ?_
  have tr : ∀ a b c d e f g h i j k m n o p q r s t u v w x y : AV, let l := lc_rpairs2_ok a b c d e f g h i j k m n o p q r s t u; trim ((5,y)::(4,x)::(58,w)::(57,v)::l) l = [(0,a),(1,b),(2,c),(4,x),(5,y),(6,f),(7,g),(9,h),(10,i),(11,j),(13,k),(14,m),(15,n),(16,o),(28,p),(30,q),(31,r),(32,s),(39,t),(48,u)] := by intros; rfl
  refine R_nil (tr ..) ?_; clear tr
  refine then_n ?_
  refine at_ret rfl ?_
  obtain rfl : u = L.length := by omega
  have hfz := (hO.lo (by omega : H.length ≤ H1.length)).frz (base := H.length) (d := 5)
  refine fpure ?_
  exact ⟨⟨N, congrArg AV.tup (by rw [hfz.1, hfz.2]; rfl), hN0.1, fun i hi => hN0.2 i (by have := hN0.1; omega)⟩, rfl⟩

end Go.Proofs.Ytdicnojnkbmdlaa
end
section
set_option linter.unusedSimpArgs false
set_option linter.unusedVariables false
set_option maxHeartbeats 40000000
set_option maxRecDepth 4000
namespace Go.Proofs.Ytdicnojnkbmdlaa
open Go Go.Am

abbrev lc_rgraph_ok (a b c d e f g h i j k m n o p q r s t u v w x y z : AV) : Env := [(0,a),(1,b),(2,c),(3,d),(6,e),(7,f),(8,g),(9,h),(10,i),(11,j),(12,k),(13,m),(14,n),(15,o),(16,p),(17,q),(33,r),(34,s),(35,t),(36,u),(71,v),(72,w),(73,x),(74,y),(80,z)]
theorem rgraph_ok (lim : Nat) (H : Heap) (P : List Int) (L : List Pr) (t goal : Int) (g : ROK P L) (t0 : 0 ≤ t) (t1 : t < P.length) (hg0 : ∀ k, k < P.length → 0 ≤ goal - gt P k) (hg1 : goal ≤ 2000) :
    ACall sig lim 59 [.agg (raceC P L), AV.i t, AV.i goal] H fun r H' => r = .tup [.agg (graphC (2 + (P.length : Int) + ((refO L t L.length).length : Int)) 0 1 (gE (2 + (P.length : Int)) 2 (cQ L t (refO L t L.length)) (refO L t L.length) P t goal)), refB L t] ∧ H' = H := by
 have q0 : True := trivial
 have q6 : True := trivial
 have qx : True := trivial
 have qg : True := trivial
 have qp : True := trivial
 have hpa : True := trivial
 have g20 := g.n20
 have g2 := g.n2
 have gel := g.el
 have gpr := g.pr
 have WQ : PQ L t (refO L t L.length) := (pq_ref L t L.length).to
 have hql := pq_len WQ
 have hqr := pq_rng g WQ
 refine ACall_pure (fa := fa59) rfl rfl rfl rfl ?_
 have tr : ∀ a0 a1 a2 : AV, env0 fa59.keep [a0, a1, a2] = [(0,a0),(1,a1),(2,a2),(3,.any),(6,.any),(7,.any),(8,.any),(9,.any),(10,.any),(11,.any),(12,.any),(13,.any),(14,.any),(15,.any),(16,.any),(17,.any),(33,.any),(34,.any),(35,.any),(36,.any),(71,.any),(72,.any),(73,.any),(74,.any),(80,.any)] := fun a0 a1 a2 => rfl
 refine W_to (tr _ _ _) ?_; clear tr
 refine at_seq rfl ?_
 refine rg rfl ?_
 refine A_box rfl (by simp (disch := first | omega | (simp only [List.length_map, List.length_append, List.length_set, List.length_cons, List.length_nil]; omega)) only [go_sem, ↓reduceIte, Nat.reduceEqDiff, reduceCtorEq] <;> rfl) ?_
 intro H1 n0
 have en0 := n0.len
 have q0 := n0.new
 refine A_alloc rfl ?_
 intro H2 n1
 have en1 := n1.len
 have q0 := (n1.old _ (hget_lt q0)).trans q0
 have q6 := n1.new
 refine Rq ?_
 have tr : ∀ a b c d e f g h i j k m n o p q r s t u v w x y z A B C : AV, let l := lc_rgraph_ok a b c d e f g h i j k m n o p q r s t u v w x y z; trim ((7,C)::(6,B)::(3,A)::l) l = [(0,a),(1,b),(2,c),(3,A),(6,B),(7,C),(8,g),(9,h),(10,i),(11,j),(12,k),(13,m),(14,n),(15,o),(16,p),(17,q),(33,r),(34,s),(35,t),(36,u),(71,v),(72,w),(73,x),(74,y),(80,z)] := by intros; rfl
 refine R_nil (tr ..) ?_; clear tr
 refine then_n ?_
 refine at_seq rfl ?_
 refine rg rfl ?_
 refine R_q rfl (by simp (disch := first | omega | (simp only [List.length_map, List.length_append, List.length_set, List.length_cons, List.length_nil]; omega)) only [go_sem, ↓reduceIte, Nat.reduceEqDiff, reduceCtorEq, q0, q6, qx, qg, qp, hpa] <;> rfl) ?_
 refine Rq ?_
 refine Rcall ?_
 refine ACall_mono (rpairs2_ok _ _ P L t (by omega)) ?_
 rintro r H3 ⟨⟨N, rfl, hNl, hNv⟩, rfl⟩
 refine Rq ?_
 refine Rq ?_
 refine Rq ?_
 refine Rq ?_
 refine Rq ?_
 have tr : ∀ a b c d e f g h i j k m n o p q r s t u v w x y z A B C D E F G H : AV, let l := lc_rgraph_ok a b c d e f g h i j k m n o p q r s t u v w x y z; trim ((9,H)::(8,G)::(23,F)::(22,E)::(18,D)::(21,C)::(20,B)::(19,A)::l) l = [(0,a),(1,b),(2,c),(3,d),(6,e),(7,f),(8,G),(9,H),(10,i),(11,j),(12,k),(13,m),(14,n),(15,o),(16,p),(17,q),(33,r),(34,s),(35,t),(36,u),(71,v),(72,w),(73,x),(74,y),(80,z)] := by intros; rfl
 refine R_nil (tr ..) ?_; clear tr
 refine then_n ?_
 refine at_seq rfl ?_
 refine rg rfl ?_
 refine Rq ?_
 refine R_q rfl (by simp (disch := first | omega | (simp only [List.length_map, List.length_append, List.length_set, List.length_cons, List.length_nil]; omega)) only [go_sem, ↓reduceIte, Nat.reduceEqDiff, reduceCtorEq, q0, q6, qx, qg, qp, hpa] <;> rfl) ?_
 refine Rq ?_
 refine Rq ?_
 have tr : ∀ a b c d e f g h i j k m n o p q r s t u v w x y z A B C D : AV, let l := lc_rgraph_ok a b c d e f g h i j k m n o p q r s t u v w x y z; trim ((10,D)::(26,C)::(25,B)::(24,A)::l) l = [(0,a),(1,b),(2,c),(3,d),(6,e),(7,f),(8,g),(9,h),(10,D),(11,j),(12,k),(13,m),(14,n),(15,o),(16,p),(17,q),(33,r),(34,s),(35,t),(36,u),(71,v),(72,w),(73,x),(74,y),(80,z)] := by intros; rfl
 refine R_nil (tr ..) ?_; clear tr
 refine then_n ?_
 refine at_seq rfl ?_
 refine rg rfl ?_
 refine Rq ?_
 refine Rq ?_
 refine Rq ?_
 refine R_q rfl (by simp (disch := first | omega | (simp only [List.length_map, List.length_append, List.length_set, List.length_cons, List.length_nil]; omega)) only [go_sem, ↓reduceIte, Nat.reduceEqDiff, reduceCtorEq, q0, q6, qx, qg, qp, hpa]; exact refB_len L t) ?_
 refine Rq ?_
 refine Rq ?_
 refine A_alloc rfl ?_
 intro HG n6
 have en6 := n6.len
 have q0 := (n6.old _ (hget_lt q0)).trans q0
 have q6 := (n6.old _ (hget_lt q6)).trans q6
 have qg := n6.new
 have lq0 := hget_lt q0
 have lq6 := hget_lt q6
 have lqg := hget_lt qg
 refine A_store ty24 (by simp (disch := first | omega | (simp only [List.length_map, List.length_append, List.length_set, List.length_cons, List.length_nil]; omega)) only [go_sem, ↓reduceIte, Nat.reduceEqDiff, reduceCtorEq, q0, q6, qx, qg, qp, hpa] <;> rfl) (by simp (disch := first | omega | (simp only [List.length_map, List.length_append, List.length_set, List.length_cons, List.length_nil]; omega)) only [go_sem, ↓reduceIte, Nat.reduceEqDiff, reduceCtorEq, q0, q6, qx, qg, qp, hpa] <;> rfl) qg ⟨by omega, rfl, by first | exact Nat.le_refl _ | simp⟩ (show _ = [AV.i (2 + (P.length : Int) + ((refO L t L.length).length : Int)), AV.i 0, AV.i 1, nilP] from rfl) ?_
 intro HI w6
 have ew6 := w6.len
 have q0 := (w6.old _ (by omega)).trans q0
 have q6 := (w6.old _ (by omega)).trans q6
 have qg := w6.new
 have tr : ∀ a b c d e f g h i j k m n o p q r s t u v w x y z A B C D E F G : AV, let l := lc_rgraph_ok a b c d e f g h i j k m n o p q r s t u v w x y z; trim ((11,G)::(32,F)::(31,E)::(30,D)::(29,C)::(28,B)::(27,A)::l) l = [(0,a),(1,b),(2,c),(3,d),(6,e),(7,f),(8,g),(9,h),(10,i),(11,G),(12,k),(13,m),(14,n),(15,o),(16,p),(17,q),(33,r),(34,s),(35,t),(36,u),(71,v),(72,w),(73,x),(74,y),(80,z)] := by intros; rfl
 refine R_nil (tr ..) ?_; clear tr
 refine then_n ?_
 refine at_seq rfl ?_
 refine at_seq rfl ?_
 refine rg rfl ?_
 refine Rq ?_
 refine R_q rfl (by simp (disch := first | omega | (simp only [List.length_map, List.length_append, List.length_set, List.length_cons, List.length_nil]; omega)) only [go_sem, ↓reduceIte, Nat.reduceEqDiff, reduceCtorEq, q0, q6, qx, qg, qp, hpa]; exact refB_len L t) ?_
 refine Rq ?_
 have tr : ∀ a b c d e f g h i j k m n o p q r s t u v w x y z A B C : AV, let l := lc_rgraph_ok a b c d e f g h i j k m n o p q r s t u v w x y z; trim ((35,C)::(34,B)::(33,A)::l) l = [(0,a),(1,b),(2,c),(3,d),(6,e),(7,f),(8,g),(9,h),(10,i),(11,j),(12,k),(13,m),(14,n),(15,o),(16,p),(17,q),(33,A),(34,B),(35,C),(36,u),(71,v),(72,w),(73,x),(74,y),(80,z)] := by intros; rfl
 refine R_nil (tr ..) ?_; clear tr
 refine then_n ?_
 refine at_block rfl ?_
 refine loop_n rfl (fun mm kv H' => ∃ i : Nat, ∃ oE : AV, ∃ x12 x13 x14 x15 x36 : AV, (kv = [(12, x12), (13, x13), (14, x14), (15, x15), (35, AV.i i), (36, x36)]) ∧ (mm = (refO L t L.length).length - i) ∧ (hget H' H.length = some (raceC P L)) ∧ (hget H' H1.length = some [AV.i 0, AV.i 0, AV.i 0, nilP]) ∧ (hget H' H3.length = some [AV.i (2 + (P.length : Int) + ((refO L t L.length).length : Int)), AV.i 0, AV.i 1, oE]) ∧ (HI.length ≤ H'.length) ∧ (i ≤ (refO L t L.length).length) ∧ (OutE HI.length H' oE (gEa (2 + (P.length : Int)) 2 (cQ L t (refO L t L.length)) (refO L t L.length) i))) ⟨0, nilP, _, _, _, _, _, rfl, rfl, by exact q0, by exact q6, by exact qg, by exact Nat.le_refl _, by omega, by exact .inl ⟨rfl, rfl⟩⟩ (by rfl) ?_
 rintro mm kv HN ⟨i, oE, x12, x13, x14, x15, x36, rfl, rfl, q0, q6, qg, hHI, hi, hE⟩
 have tr : ∀ a b c d e f g h i j k m n o p q r s t u v w x y z A B C D E F : AV, upd [(0,a),(1,b),(2,c),(3,d),(6,e),(7,f),(8,g),(9,h),(10,i),(11,j),(12,k),(13,m),(14,n),(15,o),(16,p),(17,q),(33,r),(34,s),(35,t),(36,u),(71,v),(72,w),(73,x),(74,y),(80,z)] [(12,A),(13,B),(14,C),(15,D),(35,E),(36,F)] = [(0,a),(1,b),(2,c),(3,d),(6,e),(7,f),(8,g),(9,h),(10,i),(11,j),(12,A),(13,B),(14,C),(15,D),(16,p),(17,q),(33,r),(34,s),(35,E),(36,F),(71,v),(72,w),(73,x),(74,y),(80,z)] := by intros; rfl
 refine W_to (tr ..) ?_; clear tr
 refine at_seq rfl ?_
 refine rg rfl ?_
 refine Rq ?_
 have tr : ∀ a b c d e f g h i j k m n o p q r s t u v w x y z A : AV, let l := lc_rgraph_ok a b c d e f g h i j k m n o p q r s t u v w x y z; trim ((36,A)::l) l = [(0,a),(1,b),(2,c),(3,d),(6,e),(7,f),(8,g),(9,h),(10,i),(11,j),(12,k),(13,m),(14,n),(15,o),(16,p),(17,q),(33,r),(34,s),(35,t),(36,A),(71,v),(72,w),(73,x),(74,y),(80,z)] := by intros; rfl
 refine R_nil (tr ..) ?_; clear tr
 refine then_n ?_
 refine at_seq rfl ?_
 refine cdd (fun h1 => ?_) (fun h1 => ?_)
 ·
  try simp only [decide_eq_true_eq, decide_eq_false_iff_not, Bool.not_eq_true', Bool.not_eq_false', beq_iff_eq, beq_eq_false_iff_ne, ne_eq] at h1
  refine at_skip rfl ?_
  refine then_n ?_
  refine at_seq rfl ?_
  refine at_block rfl ?_
  refine at_seq rfl ?_
  refine rg rfl ?_
  have hpa : refB L t = prsAV (refO L t L.length) := refB_at (by omega)
  have hqi := hqr i (by omega)
  have hA1 := trivial
  have hE1 := hE
  refine Rq ?_
  refine R_q rfl (by simp (disch := first | omega | (simp only [List.length_map, List.length_append, List.length_set, List.length_cons, List.length_nil]; omega)) only [go_sem, ↓reduceIte, Nat.reduceEqDiff, reduceCtorEq, hpa] <;> rfl) ?_
  refine R_q rfl (by simp (disch := first | omega | (simp only [List.length_map, List.length_append, List.length_set, List.length_cons, List.length_nil]; omega)) only [go_sem, ↓reduceIte, Nat.reduceEqDiff, reduceCtorEq, q0, q6, qx, qg, qp, hpa] <;> rfl) ?_
  refine A_alloc rfl ?_
  intro HJ n7
  have en7 := n7.len
  have q0 := (n7.old _ (hget_lt q0)).trans q0
  have q6 := (n7.old _ (hget_lt q6)).trans q6
  have qg := (n7.old _ (hget_lt qg)).trans qg
  have qp := n7.new
  have hE := hE.mono fun b hb k hk => (n7.old _ (hget_lt hk)).trans hk
  refine Rq ?_
  have hE2 := hE1.mono fun b hb k hk => (n7.old _ (hget_lt hk)).trans hk
  have lq0 := hget_lt q0
  have lq6 := hget_lt q6
  have lqg := hget_lt qg
  have lqp := hget_lt qp
  refine A_store ty58 (by simp (disch := first | omega | (simp only [List.length_map, List.length_append, List.length_set, List.length_cons, List.length_nil]; omega)) only [go_sem, ↓reduceIte, Nat.reduceEqDiff, reduceCtorEq, q0, q6, qx, qg, qp, hpa] <;> rfl) (by simp (disch := first | omega | (simp only [List.length_map, List.length_append, List.length_set, List.length_cons, List.length_nil]; omega)) only [go_sem, ↓reduceIte, Nat.reduceEqDiff, reduceCtorEq, q0, q6, qx, qg, qp, hpa] <;> rfl) qp ⟨by omega, rfl, by first | exact Nat.le_refl _ | simp⟩ (show _ = prC (gt (refO L t L.length) i) from rfl) ?_
  intro HK w7
  have ew7 := w7.len
  have q0 := (w7.old _ (by omega)).trans q0
  have q6 := (w7.old _ (by omega)).trans q6
  have qg := (w7.old _ (by omega)).trans qg
  have qp := w7.new
  have hE := hE1.mono fun b hb k hk => (w7.old _ (by have := hget_lt hk; omega)).trans ((n7.old _ (hget_lt hk)).trans hk)
  have tr : ∀ a b c d e f g h i j k m n o p q r s t u v w x y z A B C D E : AV, let l := lc_rgraph_ok a b c d e f g h i j k m n o p q r s t u v w x y z; trim ((12,E)::(13,D)::(39,C)::(38,B)::(37,A)::l) l = [(0,a),(1,b),(2,c),(3,d),(6,e),(7,f),(8,g),(9,h),(10,i),(11,j),(12,E),(13,D),(14,n),(15,o),(16,p),(17,q),(33,r),(34,s),(35,t),(36,u),(71,v),(72,w),(73,x),(74,y),(80,z)] := by intros; rfl
  refine R_nil (tr ..) ?_; clear tr
  refine then_n ?_
  refine at_seq rfl ?_
  refine rg rfl ?_
  have hcn := hNv i (by omega)
  have hcr := cnl_rng L t (norm (gt (refO L t L.length) i)) L.length
  have hpn : outA N = intsAV N := outA_at (by omega)
  have hc2 : 2 * gt N i = cQ L t (refO L t L.length) i := hcn
  refine Rq ?_
  refine Rq ?_
  refine R_q rfl (by simp (disch := first | omega | (simp only [List.length_map, List.length_append, List.length_set, List.length_cons, List.length_nil]; omega)) only [go_sem, ↓reduceIte, Nat.reduceEqDiff, reduceCtorEq, hpn] <;> rfl) ?_
  refine R_q rfl (by simp (disch := first | omega | (simp only [List.length_map, List.length_append, List.length_set, List.length_cons, List.length_nil]; omega)) only [go_sem, ↓reduceIte, Nat.reduceEqDiff, reduceCtorEq, hpn] <;> rfl) ?_
  refine Rq ?_
  rewrite [hc2]
  refine Rq ?_
  have tr : ∀ a b c d e f g h i j k m n o p q r s t u v w x y z A B C D E F : AV, let l := lc_rgraph_ok a b c d e f g h i j k m n o p q r s t u v w x y z; trim ((14,F)::(44,E)::(43,D)::(42,C)::(41,B)::(40,A)::l) l = [(0,a),(1,b),(2,c),(3,d),(6,e),(7,f),(8,g),(9,h),(10,i),(11,j),(12,k),(13,m),(14,F),(15,o),(16,p),(17,q),(33,r),(34,s),(35,t),(36,u),(71,v),(72,w),(73,x),(74,y),(80,z)] := by intros; rfl
  refine R_nil (tr ..) ?_; clear tr
  refine then_n ?_
  refine at_seq rfl ?_
  refine rg rfl ?_
  refine Rq ?_
  refine Rq ?_
  refine Rq ?_
  refine Rq ?_
  refine Rq ?_
  have tr : ∀ a b c d e f g h i j k m n o p q r s t u v w x y z A B C D E : AV, let l := lc_rgraph_ok a b c d e f g h i j k m n o p q r s t u v w x y z; trim ((15,E)::(48,D)::(47,C)::(46,B)::(45,A)::l) l = [(0,a),(1,b),(2,c),(3,d),(6,e),(7,f),(8,g),(9,h),(10,i),(11,j),(12,k),(13,m),(14,n),(15,E),(16,p),(17,q),(33,r),(34,s),(35,t),(36,u),(71,v),(72,w),(73,x),(74,y),(80,z)] := by intros; rfl
  refine R_nil (tr ..) ?_; clear tr
  refine then_n ?_
  refine rg rfl ?_
  refine Rq ?_
  refine R_q rfl (by simp (disch := first | omega | (simp only [List.length_map, List.length_append, List.length_set, List.length_cons, List.length_nil]; omega)) only [go_sem, ↓reduceIte, Nat.reduceEqDiff, reduceCtorEq, q0, q6, qx, qg, qp, hpa] <;> rfl) ?_
  refine Rq ?_
  refine Rq ?_
  refine Rq ?_
  refine Rq ?_
  refine Rq ?_
  refine R_q rfl (by simp (disch := first | omega | (simp only [List.length_map, List.length_append, List.length_set, List.length_cons, List.length_nil]; omega)) only [go_sem, ↓reduceIte, Nat.reduceEqDiff, reduceCtorEq, q0, q6, qx, qg, qp, hpa] <;> rfl) ?_
  refine Rq ?_
  refine Rq ?_
  refine Rq ?_
  refine Rq ?_
  refine Rq ?_
  refine R_q rfl (by simp (disch := first | omega | (simp only [List.length_map, List.length_append, List.length_set, List.length_cons, List.length_nil]; omega)) only [go_sem, ↓reduceIte, Nat.reduceEqDiff, reduceCtorEq, q0, q6, qx, qg, qp, hpa] <;> rfl) ?_
  refine Rq ?_
  refine Rq ?_
  refine Rq ?_
  have hob := fun b hb => hE.lt (b := b) hb
  have hgl := gEa_len (2 + (P.length : Int)) 2 (cQ L t (refO L t L.length)) (refO L t L.length) i
  refine A_buildSlice (bs22_3 _ _ _ _ _ _ ⟨0, (2 + (P.length : Int)) + i, cQ L t (refO L t L.length) i⟩ ⟨(2 + (P.length : Int)) + i, 2 + (gt (refO L t L.length) i).a, cQ L t (refO L t L.length) i⟩ ⟨(2 + (P.length : Int)) + i, 2 + (gt (refO L t L.length) i).b, cQ L t (refO L t L.length) i⟩ (by simp (disch := first | omega | (simp only [List.length_map, List.length_append, List.length_set, List.length_cons, List.length_nil]; omega)) only [go_sem, ↓reduceIte, Nat.reduceEqDiff, reduceCtorEq, q0, q6, qx, qg, qp, hpa]) (by simp (disch := first | omega | (simp only [List.length_map, List.length_append, List.length_set, List.length_cons, List.length_nil]; omega)) only [go_sem, ↓reduceIte, Nat.reduceEqDiff, reduceCtorEq, q0, q6, qx, qg, qp, hpa]) (by simp (disch := first | omega | (simp only [List.length_map, List.length_append, List.length_set, List.length_cons, List.length_nil]; omega)) only [go_sem, ↓reduceIte, Nat.reduceEqDiff, reduceCtorEq, q0, q6, qx, qg, qp, hpa])) ?_
  intro HP n9
  have en9 := n9.len
  have q0 := (n9.old _ (hget_lt q0)).trans q0
  have q6 := (n9.old _ (hget_lt q6)).trans q6
  have qg := (n9.old _ (hget_lt qg)).trans qg
  have qn := n9.new
  have hE := hE.mono fun b hb k hk => (n9.old _ (hget_lt hk)).trans hk
  have lq0 := hget_lt q0
  have lq6 := hget_lt q6
  have lqg := hget_lt qg
  obtain ⟨b, hbl, hbl2, hap⟩ := outE_append (lim := H.length) (X := gE1 (2 + (P.length : Int)) 2 (cQ L t (refO L t L.length)) (refO L t L.length) i) (m := 3) hE hob qn rfl (by simp [gE1]) (by omega) (by omega) (by omega)
  refine A_append (by simp (disch := first | omega | (simp only [List.length_map, List.length_append, List.length_set, List.length_cons, List.length_nil]; omega)) only [go_sem, ↓reduceIte, Nat.reduceEqDiff, reduceCtorEq, q0, q6, qx, qg, qp, hpa]; exact hap) ?_
  intro HQ g9
  have eg9 := g9.len
  have q0 := (g9.old _ (by omega) lq0).trans q0
  have q6 := (g9.old _ (by omega) lq6).trans q6
  have qg := (g9.old _ (by omega) lqg).trans qg
  have qq := g9.new
  have hE := outE_a (lo := HI.length) g9 (by omega) rfl
  refine Rq ?_
  have lq0 := hget_lt q0
  have lq6 := hget_lt q6
  have lqg := hget_lt qg
  refine A_store ty22 (by simp (disch := first | omega | (simp only [List.length_map, List.length_append, List.length_set, List.length_cons, List.length_nil]; omega)) only [go_sem, ↓reduceIte, Nat.reduceEqDiff, reduceCtorEq, q0, q6, qx, qg, qp, hpa] <;> rfl) (by simp (disch := first | omega | (simp only [List.length_map, List.length_append, List.length_set, List.length_cons, List.length_nil]; omega)) only [go_sem, ↓reduceIte, Nat.reduceEqDiff, reduceCtorEq, q0, q6, qx, qg, qp, hpa] <;> rfl) qg ⟨by omega, rfl, by first | exact Nat.le_refl _ | simp⟩ (show _ = [AV.i (2 + (P.length : Int) + ((refO L t L.length).length : Int)), AV.i 0, AV.i 1, (.own 3 HP.length 0 ((gEa (2 + (P.length : Int)) 2 (cQ L t (refO L t L.length)) (refO L t L.length) i).length + 3))] from rfl) ?_
  intro HR w9
  have ew9 := w9.len
  have q0 := (w9.old _ (by omega)).trans q0
  have q6 := (w9.old _ (by omega)).trans q6
  have qg := w9.new
  have hE := hE.mono fun b hb k hk => (w9.old _ (by omega)).trans hk
  have tr : ∀ a b c d e f g h i j k m n o p q r s t u v w x y z A B C D E F G H I J K L M N O P Q R S T : AV, let l := lc_rgraph_ok a b c d e f g h i j k m n o p q r s t u v w x y z; trim ((68,T)::(67,S)::(66,R)::(65,Q)::(64,P)::(63,O)::(62,N)::(61,M)::(60,L)::(59,K)::(58,J)::(57,I)::(56,H)::(55,G)::(54,F)::(53,E)::(52,D)::(51,C)::(50,B)::(49,A)::l) l = [(0,a),(1,b),(2,c),(3,d),(6,e),(7,f),(8,g),(9,h),(10,i),(11,j),(12,k),(13,m),(14,n),(15,o),(16,p),(17,q),(33,r),(34,s),(35,t),(36,u),(71,v),(72,w),(73,x),(74,y),(80,z)] := by intros; rfl
  refine R_nil (tr ..) ?_; clear tr
  refine blk_n ?_
  refine then_n ?_
  refine rg rfl ?_
  refine Rq ?_
  refine Rq ?_
  have tr : ∀ a b c d e f g h i j k m n o p q r s t u v w x y z A B : AV, let l := lc_rgraph_ok a b c d e f g h i j k m n o p q r s t u v w x y z; trim ((35,B)::(69,A)::l) l = [(0,a),(1,b),(2,c),(3,d),(6,e),(7,f),(8,g),(9,h),(10,i),(11,j),(12,k),(13,m),(14,n),(15,o),(16,p),(17,q),(33,r),(34,s),(35,B),(36,u),(71,v),(72,w),(73,x),(74,y),(80,z)] := by intros; rfl
  refine R_nil (tr ..) ?_; clear tr
  refine then_n ?_
  exact ⟨_, _, ⟨i + 1, (.own 3 HP.length 0 ((gEa (2 + (P.length : Int)) 2 (cQ L t (refO L t L.length)) (refO L t L.length) i).length + 3)), _, _, _, _, _, rfl, rfl, by exact q0, by exact q6, by exact qg, by first | (show HI.length ≤ HR.length; omega) | omega, by omega, by exact hE⟩, by rfl, by omega⟩
 ·
  try simp only [decide_eq_true_eq, decide_eq_false_iff_not, Bool.not_eq_true', Bool.not_eq_false', beq_iff_eq, beq_eq_false_iff_ne, ne_eq] at h1
  refine at_exit rfl ?_
  refine then_x ?_
  refine then_x ?_
  refine blk_x ?_
  refine then_n ?_
  refine at_seq rfl ?_
  refine at_seq rfl ?_
  refine rg rfl ?_
  obtain rfl : i = (refO L t L.length).length := by omega
  refine Rq ?_
  refine R_q rfl (by simp (disch := first | omega | (simp only [List.length_map, List.length_append, List.length_set, List.length_cons, List.length_nil]; omega)) only [go_sem, ↓reduceIte, Nat.reduceEqDiff, reduceCtorEq, q0, q6, qx, qg, qp, hpa] <;> rfl) ?_
  refine Rq ?_
  refine Rq ?_
  have tr : ∀ a b c d e f g h i j k m n o p q r s t u v w x y z A B C D : AV, let l := lc_rgraph_ok a b c d e f g h i j k m n o p q r s t u v w x y z; trim ((73,D)::(72,C)::(71,B)::(70,A)::l) l = [(0,a),(1,b),(2,c),(3,d),(6,e),(7,f),(8,g),(9,h),(10,i),(11,j),(12,k),(13,m),(14,n),(15,o),(16,p),(17,q),(33,r),(34,s),(35,t),(36,u),(71,B),(72,C),(73,D),(74,y),(80,z)] := by intros; rfl
  refine R_nil (tr ..) ?_; clear tr
  refine then_n ?_
  refine at_block rfl ?_
  refine loop_n rfl (fun mm kv H' => ∃ j : Nat, ∃ oF : AV, ∃ x16 x17 x74 x80 : AV, (kv = [(16, x16), (17, x17), (73, AV.i j), (74, x74), (80, x80)]) ∧ (mm = P.length - j) ∧ (hget H' H.length = some (raceC P L)) ∧ (hget H' H1.length = some [AV.i 0, AV.i 0, AV.i 0, nilP]) ∧ (hget H' H3.length = some [AV.i (2 + (P.length : Int) + ((refO L t L.length).length : Int)), AV.i 0, AV.i 1, oF]) ∧ (HI.length ≤ H'.length) ∧ (j ≤ P.length) ∧ (OutE HI.length H' oF (gEb 2 P t goal (gEa (2 + (P.length : Int)) 2 (cQ L t (refO L t L.length)) (refO L t L.length) (refO L t L.length).length) j))) ⟨0, oE, _, _, _, _, rfl, rfl, by exact q0, by exact q6, by exact qg, by exact hHI, by omega, by exact hE⟩ (by rfl) ?_
  rintro mm kv HS ⟨j, oF, x16, x17, x74, x80, rfl, rfl, q0, q6, qg, hHI2, hj, hE⟩
  have tr : ∀ a b c d e f g h i j k m n o p q r s t u v w x y z A B C D E : AV, upd [(0,a),(1,b),(2,c),(3,d),(6,e),(7,f),(8,g),(9,h),(10,i),(11,j),(12,k),(13,m),(14,n),(15,o),(16,p),(17,q),(33,r),(34,s),(35,t),(36,u),(71,v),(72,w),(73,x),(74,y),(80,z)] [(16,A),(17,B),(73,C),(74,D),(80,E)] = [(0,a),(1,b),(2,c),(3,d),(6,e),(7,f),(8,g),(9,h),(10,i),(11,j),(12,k),(13,m),(14,n),(15,o),(16,A),(17,B),(33,r),(34,s),(35,t),(36,u),(71,v),(72,w),(73,C),(74,D),(80,E)] := by intros; rfl
  refine W_to (tr ..) ?_; clear tr
  refine at_seq rfl ?_
  refine rg rfl ?_
  refine Rq ?_
  have tr : ∀ a b c d e f g h i j k m n o p q r s t u v w x y z A : AV, let l := lc_rgraph_ok a b c d e f g h i j k m n o p q r s t u v w x y z; trim ((74,A)::l) l = [(0,a),(1,b),(2,c),(3,d),(6,e),(7,f),(8,g),(9,h),(10,i),(11,j),(12,k),(13,m),(14,n),(15,o),(16,p),(17,q),(33,r),(34,s),(35,t),(36,u),(71,v),(72,w),(73,x),(74,A),(80,z)] := by intros; rfl
  refine R_nil (tr ..) ?_; clear tr
  refine then_n ?_
  refine at_seq rfl ?_
  refine cdd (fun h2 => ?_) (fun h2 => ?_)
  ·
   try simp only [decide_eq_true_eq, decide_eq_false_iff_not, Bool.not_eq_true', Bool.not_eq_false', beq_iff_eq, beq_eq_false_iff_ne, ne_eq] at h2
   refine at_skip rfl ?_
   refine then_n ?_
   refine at_seq rfl ?_
   refine at_block rfl ?_
   refine at_seq rfl ?_
   refine rg rfl ?_
   have hgk := hg0 j (by omega)
   have hpk := g.pt j (by omega)
   have hgbl := gEb_len 2 P t goal (gEa (2 + (P.length : Int)) 2 (cQ L t (refO L t L.length)) (refO L t L.length) (refO L t L.length).length) j
   have hgal := gEa_len (2 + (P.length : Int)) 2 (cQ L t (refO L t L.length)) (refO L t L.length) (refO L t L.length).length
   refine Rq ?_
   refine Rq ?_
   refine R_q rfl (by simp (disch := first | omega | (simp only [List.length_map, List.length_append, List.length_set, List.length_cons, List.length_nil]; omega)) only [go_sem, ↓reduceIte, Nat.reduceEqDiff, reduceCtorEq, q0, q6, qx, qg, qp, hpa] <;> rfl) ?_
   refine Rq ?_
   refine Rq ?_
   have tr : ∀ a b c d e f g h i j k m n o p q r s t u v w x y z A B C D E : AV, let l := lc_rgraph_ok a b c d e f g h i j k m n o p q r s t u v w x y z; trim ((17,E)::(16,D)::(77,C)::(76,B)::(75,A)::l) l = [(0,a),(1,b),(2,c),(3,d),(6,e),(7,f),(8,g),(9,h),(10,i),(11,j),(12,k),(13,m),(14,n),(15,o),(16,D),(17,E),(33,r),(34,s),(35,t),(36,u),(71,v),(72,w),(73,x),(74,y),(80,z)] := by intros; rfl
   refine R_nil (tr ..) ?_; clear tr
   refine then_n ?_
   refine at_seq rfl ?_
   refine rg rfl ?_
   refine Rq ?_
   refine Rq ?_
   refine Rq ?_
   have tr : ∀ a b c d e f g h i j k m n o p q r s t u v w x y z A B C : AV, let l := lc_rgraph_ok a b c d e f g h i j k m n o p q r s t u v w x y z; trim ((80,C)::(79,B)::(78,A)::l) l = [(0,a),(1,b),(2,c),(3,d),(6,e),(7,f),(8,g),(9,h),(10,i),(11,j),(12,k),(13,m),(14,n),(15,o),(16,p),(17,q),(33,r),(34,s),(35,t),(36,u),(71,v),(72,w),(73,x),(74,y),(80,C)] := by intros; rfl
   refine R_nil (tr ..) ?_; clear tr
   refine then_n ?_
   refine cdd (fun h3 => ?_) (fun h3 => ?_)
   ·
    try simp only [decide_eq_true_eq, decide_eq_false_iff_not, Bool.not_eq_true', Bool.not_eq_false', beq_iff_eq, beq_eq_false_iff_ne, ne_eq] at h3
    refine rg rfl ?_
    refine Rq ?_
    refine R_q rfl (by simp (disch := first | omega | (simp only [List.length_map, List.length_append, List.length_set, List.length_cons, List.length_nil]; omega)) only [go_sem, ↓reduceIte, Nat.reduceEqDiff, reduceCtorEq, q0, q6, qx, qg, qp, hpa] <;> rfl) ?_
    refine Rq ?_
    refine Rq ?_
    refine Rq ?_
    refine Rq ?_
    refine Rq ?_
    refine Rq ?_
    have hob := fun b hb => hE.lt (b := b) hb
    refine A_buildSlice (bs22_1 _ _ _ _ ⟨2 + j, 1, goal - gt P j⟩ (by simp (disch := first | omega | (simp only [List.length_map, List.length_append, List.length_set, List.length_cons, List.length_nil]; omega)) only [go_sem, ↓reduceIte, Nat.reduceEqDiff, reduceCtorEq, q0, q6, qx, qg, qp, hpa])) ?_
    intro HT n2
    have en2 := n2.len
    have q0 := (n2.old _ (hget_lt q0)).trans q0
    have q6 := (n2.old _ (hget_lt q6)).trans q6
    have qg := (n2.old _ (hget_lt qg)).trans qg
    have qn := n2.new
    have hE := hE.mono fun b hb k hk => (n2.old _ (hget_lt hk)).trans hk
    have lq0 := hget_lt q0
    have lq6 := hget_lt q6
    have lqg := hget_lt qg
    obtain ⟨b, hbl, hbl2, hap⟩ := outE_append (lim := H.length) (X := [⟨2 + j, 1, goal - gt P j⟩]) (m := 1) hE hob qn rfl (by simp) (by omega) (by omega) (by omega)
    refine A_append (by simp (disch := first | omega | (simp only [List.length_map, List.length_append, List.length_set, List.length_cons, List.length_nil]; omega)) only [go_sem, ↓reduceIte, Nat.reduceEqDiff, reduceCtorEq, q0, q6, qx, qg, qp, hpa]; exact hap) ?_
    intro HU g2_
    have eg2_ := g2_.len
    have q0 := (g2_.old _ (by omega) lq0).trans q0
    have q6 := (g2_.old _ (by omega) lq6).trans q6
    have qg := (g2_.old _ (by omega) lqg).trans qg
    have qq := g2_.new
    have hE := outE_b (lo := HI.length) g2_ (by omega) (by omega) rfl
    refine Rq ?_
    have lq0 := hget_lt q0
    have lq6 := hget_lt q6
    have lqg := hget_lt qg
    refine A_store ty22 (by simp (disch := first | omega | (simp only [List.length_map, List.length_append, List.length_set, List.length_cons, List.length_nil]; omega)) only [go_sem, ↓reduceIte, Nat.reduceEqDiff, reduceCtorEq, q0, q6, qx, qg, qp, hpa] <;> rfl) (by simp (disch := first | omega | (simp only [List.length_map, List.length_append, List.length_set, List.length_cons, List.length_nil]; omega)) only [go_sem, ↓reduceIte, Nat.reduceEqDiff, reduceCtorEq, q0, q6, qx, qg, qp, hpa] <;> rfl) qg ⟨by omega, rfl, by first | exact Nat.le_refl _ | simp⟩ (show _ = [AV.i (2 + (P.length : Int) + ((refO L t L.length).length : Int)), AV.i 0, AV.i 1, (.own 3 HT.length 0 ((gEb 2 P t goal (gEa (2 + (P.length : Int)) 2 (cQ L t (refO L t L.length)) (refO L t L.length) (refO L t L.length).length) j).length + 1))] from rfl) ?_
    intro HV w2
    have ew2 := w2.len
    have q0 := (w2.old _ (by omega)).trans q0
    have q6 := (w2.old _ (by omega)).trans q6
    have qg := w2.new
    have hE := hE.mono fun b hb k hk => (w2.old _ (by omega)).trans hk
    have tr : ∀ a b c d e f g h i j k m n o p q r s t u v w x y z A B C D E F G H I J K : AV, let l := lc_rgraph_ok a b c d e f g h i j k m n o p q r s t u v w x y z; trim ((91,K)::(90,J)::(89,I)::(88,H)::(87,G)::(86,F)::(85,E)::(84,D)::(83,C)::(82,B)::(81,A)::l) l = [(0,a),(1,b),(2,c),(3,d),(6,e),(7,f),(8,g),(9,h),(10,i),(11,j),(12,k),(13,m),(14,n),(15,o),(16,p),(17,q),(33,r),(34,s),(35,t),(36,u),(71,v),(72,w),(73,x),(74,y),(80,z)] := by intros; rfl
    refine R_nil (tr ..) ?_; clear tr
    refine blk_n ?_
    refine then_n ?_
    refine rg rfl ?_
    refine Rq ?_
    refine Rq ?_
    have tr : ∀ a b c d e f g h i j k m n o p q r s t u v w x y z A B : AV, let l := lc_rgraph_ok a b c d e f g h i j k m n o p q r s t u v w x y z; trim ((73,B)::(92,A)::l) l = [(0,a),(1,b),(2,c),(3,d),(6,e),(7,f),(8,g),(9,h),(10,i),(11,j),(12,k),(13,m),(14,n),(15,o),(16,p),(17,q),(33,r),(34,s),(35,t),(36,u),(71,v),(72,w),(73,B),(74,y),(80,z)] := by intros; rfl
    refine R_nil (tr ..) ?_; clear tr
    refine then_n ?_
    exact ⟨_, _, ⟨j + 1, (.own 3 HT.length 0 ((gEb 2 P t goal (gEa (2 + (P.length : Int)) 2 (cQ L t (refO L t L.length)) (refO L t L.length) (refO L t L.length).length) j).length + 1)), _, _, _, _, rfl, rfl, by exact q0, by exact q6, by exact qg, by first | (show HI.length ≤ HV.length; omega) | omega, by omega, by first | exact hE | exact outE_k hE (by omega)⟩, by rfl, by omega⟩
   ·
    try simp only [decide_eq_true_eq, decide_eq_false_iff_not, Bool.not_eq_true', Bool.not_eq_false', beq_iff_eq, beq_eq_false_iff_ne, ne_eq] at h3
    refine at_skip rfl ?_
    refine blk_n ?_
    refine then_n ?_
    refine rg rfl ?_
    refine Rq ?_
    refine Rq ?_
    have tr : ∀ a b c d e f g h i j k m n o p q r s t u v w x y z A B : AV, let l := lc_rgraph_ok a b c d e f g h i j k m n o p q r s t u v w x y z; trim ((73,B)::(92,A)::l) l = [(0,a),(1,b),(2,c),(3,d),(6,e),(7,f),(8,g),(9,h),(10,i),(11,j),(12,k),(13,m),(14,n),(15,o),(16,p),(17,q),(33,r),(34,s),(35,t),(36,u),(71,v),(72,w),(73,B),(74,y),(80,z)] := by intros; rfl
    refine R_nil (tr ..) ?_; clear tr
    refine then_n ?_
    exact ⟨_, _, ⟨j + 1, oF, _, _, _, _, rfl, rfl, by exact q0, by exact q6, by exact qg, by first | (show HI.length ≤ HV.length; omega) | omega, by omega, by first | exact hE | exact outE_k hE (by omega)⟩, by rfl, by omega⟩
  ·
   try simp only [decide_eq_true_eq, decide_eq_false_iff_not, Bool.not_eq_true', Bool.not_eq_false', beq_iff_eq, beq_eq_false_iff_ne, ne_eq] at h2
   refine at_exit rfl ?_
   refine then_x ?_
   refine then_x ?_
   refine blk_x ?_
   refine then_n ?_
   refine at_seq rfl ?_
   refine rg rfl ?_
   obtain rfl : j = P.length := by omega
   have hgne := gE_ne (2 + (P.length : Int)) 2 (cQ L t (refO L t L.length)) (refO L t L.length) (t := t) goal g2
   obtain ⟨hE7, bE, rfl, hbE, qE⟩ := hE.resolve_left (fun hh => hgne hh.1)
   refine R_q rfl (by simp (disch := first | omega | (simp only [List.length_map, List.length_append, List.length_set, List.length_cons, List.length_nil]; omega)) only [go_sem, ↓reduceIte, Nat.reduceEqDiff, reduceCtorEq, q0, q6, qx, qg, qp, hpa] <;> rfl) ?_
   refine Rq ?_
   have lq0 := hget_lt q0
   have lq6 := hget_lt q6
   have lqg := hget_lt qg
   refine A_store ty24 (by simp (disch := first | omega | (simp only [List.length_map, List.length_append, List.length_set, List.length_cons, List.length_nil]; omega)) only [go_sem, ↓reduceIte, Nat.reduceEqDiff, reduceCtorEq, q0, q6, qx, qg, qp, hpa] <;> rfl) (by simp (disch := first | omega | (simp only [List.length_map, List.length_append, List.length_set, List.length_cons, List.length_nil]; omega)) only [go_sem, ↓reduceIte, Nat.reduceEqDiff, reduceCtorEq, q0, q6, qx, qg, qp, hpa] <;> rfl) q6 ⟨by omega, rfl, by first | exact Nat.le_refl _ | simp⟩ (show _ = [AV.i (2 + (P.length : Int) + ((refO L t L.length).length : Int)), AV.i 0, AV.i 1, _] from rfl) ?_
   intro HZ wz
   have ewz := wz.len
   have q0 := (wz.old _ (by omega)).trans q0
   have qg := (wz.old _ (by omega)).trans qg
   have q6 := wz.new
   have hE := hE.mono fun b hb k hk => (wz.old _ (by omega)).trans hk
   refine Rq ?_
   have tr : ∀ a b c d e f g h i j k m n o p q r s t u v w x y z A B C : AV, let l := lc_rgraph_ok a b c d e f g h i j k m n o p q r s t u v w x y z; trim ((7,C)::(94,B)::(93,A)::l) l = [(0,a),(1,b),(2,c),(3,d),(6,e),(7,C),(8,g),(9,h),(10,i),(11,j),(12,k),(13,m),(14,n),(15,o),(16,p),(17,q),(33,r),(34,s),(35,t),(36,u),(71,v),(72,w),(73,x),(74,y),(80,z)] := by intros; rfl
   refine R_nil (tr ..) ?_; clear tr
   refine then_n ?_
   refine at_ret rfl ?_
   refine fin_pure (rs := [.cell 6 24, .tmp 7]) rfl (by simp only [go_sem, ↓reduceIte, Nat.reduceEqDiff, q6]; rfl) rfl ?_
   refine ⟨?_, rfl⟩
   show AV.tup [AV.agg [AV.i _, AV.i _, AV.i _, frz HZ H.length 6 _], frz HZ H.length 7 _] = _
   rw [hE.frz (by omega) hgne, frz_refB]

end Go.Proofs.Ytdicnojnkbmdlaa
end
