/-
  Texts of RaceStays, part 13 of 16. Walks of chapters 52 and 53. The steps are written by program (walk.py).
-/
import Derived.Test.YtdicnojnkbmdlaaKRaceStays5
import Derived.Test.YtdicnojnkbmdlaaKRaceStays4
import Derived.Test.YtdicnojnkbmdlaaKRaceStays7
import Derived.Test.YtdicnojnkbmdlaaKRaceStays8
import Derived.Test.YtdicnojnkbmdlaaKRaceStays9
import Derived.Test.YtdicnojnkbmdlaaKRaceStays11
section
set_option linter.unusedSimpArgs false
set_option linter.unusedVariables false
set_option maxHeartbeats 40000000
set_option maxRecDepth 4000
namespace Go.Proofs.Ytdicnojnkbmdlaa
open Go Go.Am

abbrev lc_small53_ok (a b c : AV) : Env := [(0,a),(1,b),(2,c)]
theorem small53_ok (lim : Nat) (H : Heap) (P : List Int) (L : List Pr) :
    ACall sig lim 34 [.agg (raceC P L)] H fun r H' => r = .v (.bool (decide (P.length ≤ 40 ∧ L.length ≤ 100))) ∧ H' = H := by
 refine ACall_pure (fa := fa34) rfl rfl rfl rfl ?_
 have tr : ∀ a0 : AV, env0 fa34.keep [a0] = [(0,a0),(1,.any),(2,.any)] := fun a0 => rfl
 refine W_to (tr _) ?_; clear tr
 refine at_seq rfl ?_
 refine rg rfl ?_
 refine R_box rfl (by simp (disch := first | omega | (simp only [List.length_map, List.length_append, List.length_set, List.length_cons, List.length_nil]; omega)) only [go_sem, ↓reduceIte, Nat.reduceEqDiff, reduceCtorEq] <;> rfl) rfl rfl ?_
 refine Rq ?_
 have tr : ∀ a b c d e : AV, let l := lc_small53_ok a b c; trim ((2,e)::(1,d)::l) l = [(0,a),(1,d),(2,e)] := by intros; rfl
 refine R_nil (tr ..) ?_; clear tr
 refine then_n ?_
 refine at_seq rfl ?_
 refine rg rfl ?_
 refine Rq ?_
 refine Rq ?_
 refine Rq ?_
 refine Rq ?_
 refine Rq ?_
 refine Rp_split (fun h1 => ?_) (fun h1 => ?_)
 ·
  try simp only [decide_eq_true_eq, decide_eq_false_iff_not, Bool.not_eq_true', Bool.not_eq_false', beq_iff_eq, beq_eq_false_iff_ne, ne_eq] at h1
  refine Ry ?_
  refine Rq ?_
  refine Ry ?_
  refine Rq ?_
  refine Ry ?_
  refine Rq ?_
  refine Ry ?_
  refine Rq ?_
  refine Rq ?_
  refine Rq ?_
  have tr : ∀ a b c d e f g h i j k m n o : AV, let l := lc_small53_ok a b c; trim ((2,o)::(12,n)::(11,m)::(10,k)::(9,j)::(8,i)::(7,h)::(6,g)::(5,f)::(4,e)::(3,d)::l) l = [(0,a),(1,b),(2,o)] := by intros; rfl
  refine R_nil (tr ..) ?_; clear tr
  refine then_n ?_
  refine at_ret rfl ?_
  refine fpure ?_
  refine ⟨?_, rfl⟩
  congr 2
  exact decide_eq_decide.mpr (by omega)
 ·
  try simp only [decide_eq_true_eq, decide_eq_false_iff_not, Bool.not_eq_true', Bool.not_eq_false', beq_iff_eq, beq_eq_false_iff_ne, ne_eq] at h1
  refine Rn ?_
  refine Rn ?_
  refine Rn ?_
  refine Rn ?_
  refine Rq ?_
  refine Rq ?_
  have tr : ∀ a b c d e f g h i j k m n o : AV, let l := lc_small53_ok a b c; trim ((2,o)::(12,n)::(11,m)::(10,k)::(9,j)::(8,i)::(7,h)::(6,g)::(5,f)::(4,e)::(3,d)::l) l = [(0,a),(1,b),(2,o)] := by intros; rfl
  refine R_nil (tr ..) ?_; clear tr
  refine then_n ?_
  refine at_ret rfl ?_
  refine fpure ?_
  refine ⟨?_, rfl⟩
  rw [decide_eq_false (by omega)]

abbrev lc_most_ok (a b c d e f g h i j k : AV) : Env := [(0,a),(1,b),(2,c),(4,d),(5,e),(7,f),(14,g),(15,h),(16,i),(17,j),(29,k)]
theorem most_x (lim : Nat) (H : Heap) (P : List Int) (L : List Pr) (t : Int) (g : ROK P L) (ht0 : 0 ≤ t) (ht1 : t < P.length) (x : AV) (hx : frz H 0 8 x = .agg (raceC P L)) :
    ACall sig lim 56 [x, AV.i t] H fun r H' => r = AV.i (mostN P L t L.length) ∧ H' = H := by
 have hp := g.pt t.toNat (by omega)
 have hel := g.el
 have hargs : [x, AV.i t].map (frz H 0 8) = [.agg (raceC P L), AV.i t] := by
  show [frz H 0 8 x, AV.i t] = _
  rw [hx]
 refine ACall_data (fa := fa56) rfl rfl rfl rfl hargs ?_
 have tr : ∀ a0 a1 : AV, env0 fa56.keep [a0, a1] = [(0,a0),(1,a1),(2,.any),(4,.any),(5,.any),(7,.any),(14,.any),(15,.any),(16,.any),(17,.any),(29,.any)] := fun a0 a1 => rfl
 refine W_to (tr _ _) ?_; clear tr
 refine at_seq rfl ?_
 refine rg rfl ?_
 refine R_box rfl (by simp (disch := first | omega | (simp only [List.length_map, List.length_append, List.length_set, List.length_cons, List.length_nil]; omega)) only [go_sem, ↓reduceIte, Nat.reduceEqDiff, reduceCtorEq] <;> rfl) rfl rfl ?_
 refine Rq ?_
 have tr : ∀ a b c d e f g h i j k m n : AV, let l := lc_most_ok a b c d e f g h i j k; trim ((4,n)::(2,m)::l) l = [(0,a),(1,b),(2,m),(4,n),(5,e),(7,f),(14,g),(15,h),(16,i),(17,j),(29,k)] := by intros; rfl
 refine R_nil (tr ..) ?_; clear tr
 refine then_n ?_
 refine at_seq rfl ?_
 refine rg rfl ?_
 refine Rq ?_
 refine Rq ?_
 refine Rq ?_
 refine Rq ?_
 refine Rq ?_
 refine Rq ?_
 have tr : ∀ a b c d e f g h i j k m n o p q r : AV, let l := lc_most_ok a b c d e f g h i j k; trim ((5,r)::(12,q)::(11,p)::(10,o)::(9,n)::(8,m)::l) l = [(0,a),(1,b),(2,c),(4,d),(5,r),(7,f),(14,g),(15,h),(16,i),(17,j),(29,k)] := by intros; rfl
 refine R_nil (tr ..) ?_; clear tr
 refine then_n ?_
 refine at_seq rfl ?_
 refine at_seq rfl ?_
 refine rg rfl ?_
 refine Rq ?_
 refine Rq ?_
 refine Rq ?_
 refine Rq ?_
 have tr : ∀ a b c d e f g h i j k m n o p : AV, let l := lc_most_ok a b c d e f g h i j k; trim ((16,p)::(15,o)::(14,n)::(13,m)::l) l = [(0,a),(1,b),(2,c),(4,d),(5,e),(7,f),(14,n),(15,o),(16,p),(17,j),(29,k)] := by intros; rfl
 refine R_nil (tr ..) ?_; clear tr
 refine then_n ?_
 refine at_block rfl ?_
 refine loop_n rfl (fun mm kv H' => ∃ u : Nat, ∃ c : Int, ∃ X : Heap, ∃ x7 x17 x29 : AV, (kv = [(5, AV.i c), (7, x7), (16, AV.i u), (17, x17), (29, x29)]) ∧ (mm = L.length - u) ∧ (H' = [] ++ [some (raceC P L)] ++ X) ∧ (u ≤ L.length) ∧ (c = mostN P L t u)) ⟨0, (gt P t.toNat), [], _, _, _, rfl, rfl, by simp, by omega, by rfl⟩ (by rfl) ?_
 rintro mm kv H1 ⟨u, c, X, x7, x17, x29, rfl, rfl, hX, hu, hc⟩
 have tr : ∀ a b c d e f g h i j k m n o p q : AV, upd [(0,a),(1,b),(2,c),(4,d),(5,e),(7,f),(14,g),(15,h),(16,i),(17,j),(29,k)] [(5,m),(7,n),(16,o),(17,p),(29,q)] = [(0,a),(1,b),(2,c),(4,d),(5,m),(7,n),(14,g),(15,h),(16,o),(17,p),(29,q)] := by intros; rfl
 refine W_to (tr ..) ?_; clear tr
 subst hX
 have hmr := most_rng (L := L) hp.1 hp.2 u
 refine at_seq rfl ?_
 refine rg rfl ?_
 refine Rq ?_
 have tr : ∀ a b c d e f g h i j k m : AV, let l := lc_most_ok a b c d e f g h i j k; trim ((17,m)::l) l = [(0,a),(1,b),(2,c),(4,d),(5,e),(7,f),(14,g),(15,h),(16,i),(17,m),(29,k)] := by intros; rfl
 refine R_nil (tr ..) ?_; clear tr
 refine then_n ?_
 refine at_seq rfl ?_
 refine cdd (fun h1 => ?_) (fun h1 => ?_)
 ·
  try simp only [decide_eq_true_eq, decide_eq_false_iff_not, Bool.not_eq_true', Bool.not_eq_false', beq_iff_eq, beq_eq_false_iff_ne, ne_eq] at h1
  refine at_skip rfl ?_
  refine then_n ?_
  refine at_seq rfl ?_
  refine at_block rfl ?_
  refine at_seq rfl ?_
  refine rg rfl ?_
  refine Rq ?_
  refine Rq ?_
  refine R_alloc (by simp (disch := first | omega | (simp only [List.length_map, List.length_append, List.length_set, List.length_cons, List.length_nil]; omega)) only [go_sem, ↓reduceIte, Nat.reduceEqDiff, reduceCtorEq] <;> rfl) rfl (by simp only [List.map_cons, List.map_nil]; rfl) ?_
  refine R_store ty58 (by simp (disch := first | omega | (simp only [List.length_map, List.length_append, List.length_set, List.length_cons, List.length_nil]; omega)) only [go_sem, ↓reduceIte, Nat.reduceEqDiff, reduceCtorEq] <;> rfl) (by simp (disch := first | omega | (simp only [List.length_map, List.length_append, List.length_set, List.length_cons, List.length_nil]; omega)) only [go_sem, ↓reduceIte, Nat.reduceEqDiff, reduceCtorEq] <;> rfl) (by simp (disch := first | omega | (simp only [List.length_map, List.length_append, List.length_set, List.length_cons, List.length_nil]; omega)) only [go_sem, ↓reduceIte, Nat.reduceEqDiff, reduceCtorEq] <;> rfl) (by simp) (by rfl) (by simp (disch := first | omega | (simp only [List.length_map, List.length_append, List.length_set, List.length_cons, List.length_nil]; omega)) only [go_sem, ↓reduceIte, Nat.reduceEqDiff, reduceCtorEq] <;> rfl) ?_
  have tr : ∀ a b c d e f g h i j k m n o : AV, let l := lc_most_ok a b c d e f g h i j k; trim ((7,o)::(19,n)::(18,m)::l) l = [(0,a),(1,b),(2,c),(4,d),(5,e),(7,o),(14,g),(15,h),(16,i),(17,j),(29,k)] := by intros; rfl
  refine R_nil (tr ..) ?_; clear tr
  refine then_n ?_
  refine at_seq rfl ?_
  refine rg rfl ?_
  refine Rq ?_
  refine Rq ?_
  refine Rq ?_
  refine Rq ?_
  refine Rq ?_
  refine Rp_split (fun h2 => ?_) (fun h2 => ?_)
  ·
   try simp only [decide_eq_true_eq, decide_eq_false_iff_not, Bool.not_eq_true', Bool.not_eq_false', beq_iff_eq, beq_eq_false_iff_ne, ne_eq] at h2
   refine Rn ?_
   refine Rn ?_
   refine Rn ?_
   refine Rn ?_
   refine Rq ?_
   have tr : ∀ a b c d e f g h i j k m n o p q r s t u v : AV, let l := lc_most_ok a b c d e f g h i j k; trim ((29,v)::(28,u)::(27,t)::(26,s)::(25,r)::(24,q)::(23,p)::(22,o)::(21,n)::(20,m)::l) l = [(0,a),(1,b),(2,c),(4,d),(5,e),(7,f),(14,g),(15,h),(16,i),(17,j),(29,v)] := by intros; rfl
   refine R_nil (tr ..) ?_; clear tr
   refine then_n ?_
   refine cdt ?_
   refine rg rfl ?_
   refine Rq ?_
   refine Rq ?_
   refine Rq ?_
   have tr : ∀ a b c d e f g h i j k m n o : AV, let l := lc_most_ok a b c d e f g h i j k; trim ((5,o)::(31,n)::(30,m)::l) l = [(0,a),(1,b),(2,c),(4,d),(5,o),(7,f),(14,g),(15,h),(16,i),(17,j),(29,k)] := by intros; rfl
   refine R_nil (tr ..) ?_; clear tr
   refine blk_n ?_
   refine then_n ?_
   refine rg rfl ?_
   refine Rq ?_
   refine Rq ?_
   have tr : ∀ a b c d e f g h i j k m n : AV, let l := lc_most_ok a b c d e f g h i j k; trim ((16,n)::(32,m)::l) l = [(0,a),(1,b),(2,c),(4,d),(5,e),(7,f),(14,g),(15,h),(16,n),(17,j),(29,k)] := by intros; rfl
   refine R_nil (tr ..) ?_; clear tr
   refine then_n ?_
   exact ⟨_, _, ⟨u + 1, (c + 2), X ++ [some (prC (gt L u))], _, _, _, rfl, rfl, by simp; rfl, by omega, by rw [mostN, hc]; first | rw [if_pos (by omega)] | rw [if_neg (by omega)]⟩, by rfl, by omega⟩
  ·
   try simp only [decide_eq_true_eq, decide_eq_false_iff_not, Bool.not_eq_true', Bool.not_eq_false', beq_iff_eq, beq_eq_false_iff_ne, ne_eq] at h2
   refine Ry ?_
   refine Rq ?_
   refine Ry ?_
   refine Rq ?_
   refine Ry ?_
   refine Rq ?_
   refine Ry ?_
   refine Rq ?_
   refine Rq ?_
   have tr : ∀ a b c d e f g h i j k m n o p q r s t u v : AV, let l := lc_most_ok a b c d e f g h i j k; trim ((29,v)::(28,u)::(27,t)::(26,s)::(25,r)::(24,q)::(23,p)::(22,o)::(21,n)::(20,m)::l) l = [(0,a),(1,b),(2,c),(4,d),(5,e),(7,f),(14,g),(15,h),(16,i),(17,j),(29,v)] := by intros; rfl
   refine R_nil (tr ..) ?_; clear tr
   refine then_n ?_
   refine cdd (fun h3 => ?_) (fun h3 => ?_)
   ·
    try simp only [decide_eq_true_eq, decide_eq_false_iff_not, Bool.not_eq_true', Bool.not_eq_false', beq_iff_eq, beq_eq_false_iff_ne, ne_eq] at h3
    refine rg rfl ?_
    refine Rq ?_
    refine Rq ?_
    refine Rq ?_
    have tr : ∀ a b c d e f g h i j k m n o : AV, let l := lc_most_ok a b c d e f g h i j k; trim ((5,o)::(31,n)::(30,m)::l) l = [(0,a),(1,b),(2,c),(4,d),(5,o),(7,f),(14,g),(15,h),(16,i),(17,j),(29,k)] := by intros; rfl
    refine R_nil (tr ..) ?_; clear tr
    refine blk_n ?_
    refine then_n ?_
    refine rg rfl ?_
    refine Rq ?_
    refine Rq ?_
    have tr : ∀ a b c d e f g h i j k m n : AV, let l := lc_most_ok a b c d e f g h i j k; trim ((16,n)::(32,m)::l) l = [(0,a),(1,b),(2,c),(4,d),(5,e),(7,f),(14,g),(15,h),(16,n),(17,j),(29,k)] := by intros; rfl
    refine R_nil (tr ..) ?_; clear tr
    refine then_n ?_
    exact ⟨_, _, ⟨u + 1, (c + 2), X ++ [some (prC (gt L u))], _, _, _, rfl, rfl, by simp; rfl, by omega, by rw [mostN, hc]; first | rw [if_pos (by omega)] | rw [if_neg (by omega)]⟩, by rfl, by omega⟩
   ·
    try simp only [decide_eq_true_eq, decide_eq_false_iff_not, Bool.not_eq_true', Bool.not_eq_false', beq_iff_eq, beq_eq_false_iff_ne, ne_eq] at h3
    refine at_skip rfl ?_
    refine blk_n ?_
    refine then_n ?_
    refine rg rfl ?_
    refine Rq ?_
    refine Rq ?_
    have tr : ∀ a b c d e f g h i j k m n : AV, let l := lc_most_ok a b c d e f g h i j k; trim ((16,n)::(32,m)::l) l = [(0,a),(1,b),(2,c),(4,d),(5,e),(7,f),(14,g),(15,h),(16,n),(17,j),(29,k)] := by intros; rfl
    refine R_nil (tr ..) ?_; clear tr
    refine then_n ?_
    exact ⟨_, _, ⟨u + 1, c, X ++ [some (prC (gt L u))], _, _, _, rfl, rfl, by simp; rfl, by omega, by rw [mostN, hc]; first | rw [if_pos (by omega)] | rw [if_neg (by omega)]⟩, by rfl, by omega⟩
 ·
  try simp only [decide_eq_true_eq, decide_eq_false_iff_not, Bool.not_eq_true', Bool.not_eq_false', beq_iff_eq, beq_eq_false_iff_ne, ne_eq] at h1
  refine at_exit rfl ?_
  refine then_x ?_
  refine then_x ?_
  refine blk_x ?_
  refine then_n ?_
  refine at_seq rfl ?_
  refine rg rfl ?_
  refine Rq ?_
  refine Rq ?_
  have tr : ∀ a b c d e f g h i j k m n : AV, let l := lc_most_ok a b c d e f g h i j k; trim ((4,n)::(33,m)::l) l = [(0,a),(1,b),(2,c),(4,n),(5,e),(7,f),(14,g),(15,h),(16,i),(17,j),(29,k)] := by intros; rfl
  refine R_nil (tr ..) ?_; clear tr
  refine then_n ?_
  refine at_ret rfl ?_
  refine fpure ?_
  refine ⟨rfl, ?_, rfl⟩
  rw [hc, show L.length = u by omega]

theorem most_ok (lim : Nat) (H : Heap) (P : List Int) (L : List Pr) (t : Int) (g : ROK P L) (ht0 : 0 ≤ t) (ht1 : t < P.length) :
    ACall sig lim 56 [.agg (raceC P L), AV.i t] H fun r H' => r = AV.i (mostN P L t L.length) ∧ H' = H :=
  most_x lim H P L t g ht0 ht1 _ (frz_race H P L)

abbrev lc_rmost_ok (a b c d e f g h i j k : AV) : Env := [(0,a),(1,b),(2,c),(4,d),(5,e),(7,f),(14,g),(15,h),(16,i),(17,j),(29,k)]
theorem rmost_ok (lim : Nat) (H : Heap) (P : List Int) (L : List Pr) (t : Int) (g : ROK P L) (ht0 : 0 ≤ t) (ht1 : t < P.length) :
    ACall sig lim 62 [.agg (raceC P L), AV.i t] H fun r H' => r = AV.i (mostN P L t L.length) ∧ H' = H := by
 have hp := g.pt t.toNat (by omega)
 have hel := g.el
 refine ACall_pure (fa := fa62) rfl rfl rfl rfl ?_
 have tr : ∀ a0 a1 : AV, env0 fa62.keep [a0, a1] = [(0,a0),(1,a1),(2,.any),(4,.any),(5,.any),(7,.any),(14,.any),(15,.any),(16,.any),(17,.any),(29,.any)] := fun a0 a1 => rfl
 refine W_to (tr _ _) ?_; clear tr
 refine at_seq rfl ?_
 refine rg rfl ?_
 refine R_box rfl (by simp (disch := first | omega | (simp only [List.length_map, List.length_append, List.length_set, List.length_cons, List.length_nil]; omega)) only [go_sem, ↓reduceIte, Nat.reduceEqDiff, reduceCtorEq] <;> rfl) rfl rfl ?_
 refine Rq ?_
 have tr : ∀ a b c d e f g h i j k m n : AV, let l := lc_rmost_ok a b c d e f g h i j k; trim ((4,n)::(2,m)::l) l = [(0,a),(1,b),(2,m),(4,n),(5,e),(7,f),(14,g),(15,h),(16,i),(17,j),(29,k)] := by intros; rfl
 refine R_nil (tr ..) ?_; clear tr
 refine then_n ?_
 refine at_seq rfl ?_
 refine rg rfl ?_
 refine Rq ?_
 refine Rq ?_
 refine Rq ?_
 refine Rq ?_
 refine Rq ?_
 refine Rq ?_
 have tr : ∀ a b c d e f g h i j k m n o p q r : AV, let l := lc_rmost_ok a b c d e f g h i j k; trim ((5,r)::(12,q)::(11,p)::(10,o)::(9,n)::(8,m)::l) l = [(0,a),(1,b),(2,c),(4,d),(5,r),(7,f),(14,g),(15,h),(16,i),(17,j),(29,k)] := by intros; rfl
 refine R_nil (tr ..) ?_; clear tr
 refine then_n ?_
 refine at_seq rfl ?_
 refine at_seq rfl ?_
 refine rg rfl ?_
 refine Rq ?_
 refine Rq ?_
 refine Rq ?_
 refine Rq ?_
 have tr : ∀ a b c d e f g h i j k m n o p : AV, let l := lc_rmost_ok a b c d e f g h i j k; trim ((16,p)::(15,o)::(14,n)::(13,m)::l) l = [(0,a),(1,b),(2,c),(4,d),(5,e),(7,f),(14,n),(15,o),(16,p),(17,j),(29,k)] := by intros; rfl
 refine R_nil (tr ..) ?_; clear tr
 refine then_n ?_
 refine at_block rfl ?_
 refine loop_n rfl (fun mm kv H' => ∃ u : Nat, ∃ c : Int, ∃ X : Heap, ∃ x7 x17 x29 : AV, (kv = [(5, AV.i c), (7, x7), (16, AV.i u), (17, x17), (29, x29)]) ∧ (mm = L.length - u) ∧ (H' = H ++ [some (raceC P L)] ++ X) ∧ (u ≤ L.length) ∧ (c = mostN P L t u)) ⟨0, (gt P t.toNat), [], _, _, _, rfl, rfl, by simp, by omega, by rfl⟩ (by rfl) ?_
 rintro mm kv H1 ⟨u, c, X, x7, x17, x29, rfl, rfl, hX, hu, hc⟩
 have tr : ∀ a b c d e f g h i j k m n o p q : AV, upd [(0,a),(1,b),(2,c),(4,d),(5,e),(7,f),(14,g),(15,h),(16,i),(17,j),(29,k)] [(5,m),(7,n),(16,o),(17,p),(29,q)] = [(0,a),(1,b),(2,c),(4,d),(5,m),(7,n),(14,g),(15,h),(16,o),(17,p),(29,q)] := by intros; rfl
 refine W_to (tr ..) ?_; clear tr
 subst hX
 have hmr := most_rng (L := L) hp.1 hp.2 u
 refine at_seq rfl ?_
 refine rg rfl ?_
 refine Rq ?_
 have tr : ∀ a b c d e f g h i j k m : AV, let l := lc_rmost_ok a b c d e f g h i j k; trim ((17,m)::l) l = [(0,a),(1,b),(2,c),(4,d),(5,e),(7,f),(14,g),(15,h),(16,i),(17,m),(29,k)] := by intros; rfl
 refine R_nil (tr ..) ?_; clear tr
 refine then_n ?_
 refine at_seq rfl ?_
 refine cdd (fun h1 => ?_) (fun h1 => ?_)
 ·
  try simp only [decide_eq_true_eq, decide_eq_false_iff_not, Bool.not_eq_true', Bool.not_eq_false', beq_iff_eq, beq_eq_false_iff_ne, ne_eq] at h1
  refine at_skip rfl ?_
  refine then_n ?_
  refine at_seq rfl ?_
  refine at_block rfl ?_
  refine at_seq rfl ?_
  refine rg rfl ?_
  refine Rq ?_
  refine Rq ?_
  refine R_alloc (by simp (disch := first | omega | (simp only [List.length_map, List.length_append, List.length_set, List.length_cons, List.length_nil]; omega)) only [go_sem, ↓reduceIte, Nat.reduceEqDiff, reduceCtorEq] <;> rfl) rfl (by simp only [List.map_cons, List.map_nil]; rfl) ?_
  refine R_store ty58 (by simp (disch := first | omega | (simp only [List.length_map, List.length_append, List.length_set, List.length_cons, List.length_nil]; omega)) only [go_sem, ↓reduceIte, Nat.reduceEqDiff, reduceCtorEq] <;> rfl) (by simp (disch := first | omega | (simp only [List.length_map, List.length_append, List.length_set, List.length_cons, List.length_nil]; omega)) only [go_sem, ↓reduceIte, Nat.reduceEqDiff, reduceCtorEq] <;> rfl) (by simp (disch := first | omega | (simp only [List.length_map, List.length_append, List.length_set, List.length_cons, List.length_nil]; omega)) only [go_sem, ↓reduceIte, Nat.reduceEqDiff, reduceCtorEq] <;> rfl) (by simp) (by rfl) (by simp (disch := first | omega | (simp only [List.length_map, List.length_append, List.length_set, List.length_cons, List.length_nil]; omega)) only [go_sem, ↓reduceIte, Nat.reduceEqDiff, reduceCtorEq] <;> rfl) ?_
  have tr : ∀ a b c d e f g h i j k m n o : AV, let l := lc_rmost_ok a b c d e f g h i j k; trim ((7,o)::(19,n)::(18,m)::l) l = [(0,a),(1,b),(2,c),(4,d),(5,e),(7,o),(14,g),(15,h),(16,i),(17,j),(29,k)] := by intros; rfl
  refine R_nil (tr ..) ?_; clear tr
  refine then_n ?_
  refine at_seq rfl ?_
  refine rg rfl ?_
  refine Rq ?_
  refine Rq ?_
  refine Rq ?_
  refine Rq ?_
  refine Rq ?_
  refine Rp_split (fun h2 => ?_) (fun h2 => ?_)
  ·
   try simp only [decide_eq_true_eq, decide_eq_false_iff_not, Bool.not_eq_true', Bool.not_eq_false', beq_iff_eq, beq_eq_false_iff_ne, ne_eq] at h2
   refine Rn ?_
   refine Rn ?_
   refine Rn ?_
   refine Rn ?_
   refine Rq ?_
   have tr : ∀ a b c d e f g h i j k m n o p q r s t u v : AV, let l := lc_rmost_ok a b c d e f g h i j k; trim ((29,v)::(28,u)::(27,t)::(26,s)::(25,r)::(24,q)::(23,p)::(22,o)::(21,n)::(20,m)::l) l = [(0,a),(1,b),(2,c),(4,d),(5,e),(7,f),(14,g),(15,h),(16,i),(17,j),(29,v)] := by intros; rfl
   refine R_nil (tr ..) ?_; clear tr
   refine then_n ?_
   refine cdt ?_
   refine rg rfl ?_
   refine Rq ?_
   refine Rq ?_
   refine Rq ?_
   have tr : ∀ a b c d e f g h i j k m n o : AV, let l := lc_rmost_ok a b c d e f g h i j k; trim ((5,o)::(31,n)::(30,m)::l) l = [(0,a),(1,b),(2,c),(4,d),(5,o),(7,f),(14,g),(15,h),(16,i),(17,j),(29,k)] := by intros; rfl
   refine R_nil (tr ..) ?_; clear tr
   refine blk_n ?_
   refine then_n ?_
   refine rg rfl ?_
   refine Rq ?_
   refine Rq ?_
   have tr : ∀ a b c d e f g h i j k m n : AV, let l := lc_rmost_ok a b c d e f g h i j k; trim ((16,n)::(32,m)::l) l = [(0,a),(1,b),(2,c),(4,d),(5,e),(7,f),(14,g),(15,h),(16,n),(17,j),(29,k)] := by intros; rfl
   refine R_nil (tr ..) ?_; clear tr
   refine then_n ?_
   exact ⟨_, _, ⟨u + 1, (c + 2), X ++ [some (prC (gt L u))], _, _, _, rfl, rfl, by simp; rfl, by omega, by rw [mostN, hc]; first | rw [if_pos (by omega)] | rw [if_neg (by omega)]⟩, by rfl, by omega⟩
  ·
   try simp only [decide_eq_true_eq, decide_eq_false_iff_not, Bool.not_eq_true', Bool.not_eq_false', beq_iff_eq, beq_eq_false_iff_ne, ne_eq] at h2
   refine Ry ?_
   refine Rq ?_
   refine Ry ?_
   refine Rq ?_
   refine Ry ?_
   refine Rq ?_
   refine Ry ?_
   refine Rq ?_
   refine Rq ?_
   have tr : ∀ a b c d e f g h i j k m n o p q r s t u v : AV, let l := lc_rmost_ok a b c d e f g h i j k; trim ((29,v)::(28,u)::(27,t)::(26,s)::(25,r)::(24,q)::(23,p)::(22,o)::(21,n)::(20,m)::l) l = [(0,a),(1,b),(2,c),(4,d),(5,e),(7,f),(14,g),(15,h),(16,i),(17,j),(29,v)] := by intros; rfl
   refine R_nil (tr ..) ?_; clear tr
   refine then_n ?_
   refine cdd (fun h3 => ?_) (fun h3 => ?_)
   ·
    try simp only [decide_eq_true_eq, decide_eq_false_iff_not, Bool.not_eq_true', Bool.not_eq_false', beq_iff_eq, beq_eq_false_iff_ne, ne_eq] at h3
    refine rg rfl ?_
    refine Rq ?_
    refine Rq ?_
    refine Rq ?_
    have tr : ∀ a b c d e f g h i j k m n o : AV, let l := lc_rmost_ok a b c d e f g h i j k; trim ((5,o)::(31,n)::(30,m)::l) l = [(0,a),(1,b),(2,c),(4,d),(5,o),(7,f),(14,g),(15,h),(16,i),(17,j),(29,k)] := by intros; rfl
    refine R_nil (tr ..) ?_; clear tr
    refine blk_n ?_
    refine then_n ?_
    refine rg rfl ?_
    refine Rq ?_
    refine Rq ?_
    have tr : ∀ a b c d e f g h i j k m n : AV, let l := lc_rmost_ok a b c d e f g h i j k; trim ((16,n)::(32,m)::l) l = [(0,a),(1,b),(2,c),(4,d),(5,e),(7,f),(14,g),(15,h),(16,n),(17,j),(29,k)] := by intros; rfl
    refine R_nil (tr ..) ?_; clear tr
    refine then_n ?_
    exact ⟨_, _, ⟨u + 1, (c + 2), X ++ [some (prC (gt L u))], _, _, _, rfl, rfl, by simp; rfl, by omega, by rw [mostN, hc]; first | rw [if_pos (by omega)] | rw [if_neg (by omega)]⟩, by rfl, by omega⟩
   ·
    try simp only [decide_eq_true_eq, decide_eq_false_iff_not, Bool.not_eq_true', Bool.not_eq_false', beq_iff_eq, beq_eq_false_iff_ne, ne_eq] at h3
    refine at_skip rfl ?_
    refine blk_n ?_
    refine then_n ?_
    refine rg rfl ?_
    refine Rq ?_
    refine Rq ?_
    have tr : ∀ a b c d e f g h i j k m n : AV, let l := lc_rmost_ok a b c d e f g h i j k; trim ((16,n)::(32,m)::l) l = [(0,a),(1,b),(2,c),(4,d),(5,e),(7,f),(14,g),(15,h),(16,n),(17,j),(29,k)] := by intros; rfl
    refine R_nil (tr ..) ?_; clear tr
    refine then_n ?_
    exact ⟨_, _, ⟨u + 1, c, X ++ [some (prC (gt L u))], _, _, _, rfl, rfl, by simp; rfl, by omega, by rw [mostN, hc]; first | rw [if_pos (by omega)] | rw [if_neg (by omega)]⟩, by rfl, by omega⟩
 ·
  try simp only [decide_eq_true_eq, decide_eq_false_iff_not, Bool.not_eq_true', Bool.not_eq_false', beq_iff_eq, beq_eq_false_iff_ne, ne_eq] at h1
  refine at_exit rfl ?_
  refine then_x ?_
  refine then_x ?_
  refine blk_x ?_
  refine then_n ?_
  refine at_seq rfl ?_
  refine rg rfl ?_
  refine Rq ?_
  refine Rq ?_
  have tr : ∀ a b c d e f g h i j k m n : AV, let l := lc_rmost_ok a b c d e f g h i j k; trim ((4,n)::(33,m)::l) l = [(0,a),(1,b),(2,c),(4,n),(5,e),(7,f),(14,g),(15,h),(16,i),(17,j),(29,k)] := by intros; rfl
  refine R_nil (tr ..) ?_; clear tr
  refine then_n ?_
  refine at_ret rfl ?_
  refine fpure ?_
  refine ⟨?_, rfl⟩
  rw [hc, show L.length = u by omega]

end Go.Proofs.Ytdicnojnkbmdlaa
end
section
set_option linter.unusedSimpArgs false
set_option linter.unusedVariables false
set_option maxHeartbeats 40000000
set_option maxRecDepth 4000
namespace Go.Proofs.Ytdicnojnkbmdlaa
open Go Go.Am

abbrev lc_mst_ok (a b c d e f g h : AV) : Env := [(0,a),(1,b),(2,c),(4,d),(5,e),(6,f),(10,g),(20,h)]
theorem mst_x (lim : Nat) (H : Heap) (P : List Int) (L : List Pr) (t : Int) (x : AV) (hx : frz H 0 8 x = .agg (raceC P L)) :
    ACall sig lim 38 [x, AV.i t] H fun r H' => r = .tup [AV.i (mostS P L t).1, AV.i (mostS P L t).2] ∧ H' = H := by
 have hargs : [x, AV.i t].map (frz H 0 8) = [.agg (raceC P L), AV.i t] := by
  show [frz H 0 8 x, AV.i t] = _
  rw [hx]
 refine ACall_data (fa := fa38) rfl rfl rfl rfl hargs ?_
 have tr : ∀ a0 a1 : AV, env0 fa38.keep [a0, a1] = [(0,a0),(1,a1),(2,.any),(4,.any),(5,.any),(6,.any),(10,.any),(20,.any)] := fun a0 a1 => rfl
 refine W_to (tr _ _) ?_; clear tr
 refine at_seq rfl ?_
 refine rg rfl ?_
 refine R_box rfl (by simp (disch := first | omega | (simp only [List.length_map, List.length_append, List.length_set, List.length_cons, List.length_nil]; omega)) only [go_sem, ↓reduceIte, Nat.reduceEqDiff, reduceCtorEq] <;> rfl) rfl rfl ?_
 refine Rq ?_
 refine Rq ?_
 have tr : ∀ a b c d e f g h i j k : AV, let l := lc_mst_ok a b c d e f g h; trim ((5,k)::(4,j)::(2,i)::l) l = [(0,a),(1,b),(2,i),(4,j),(5,k),(6,f),(10,g),(20,h)] := by intros; rfl
 refine R_nil (tr ..) ?_; clear tr
 refine then_n ?_
 refine at_seq rfl ?_
 refine at_seq rfl ?_
 refine rg rfl ?_
 refine Rq ?_
 refine Rcall ?_
 refine ACall_eq (chk53_ok _ _ P L) ?_
 refine Rq ?_
 have tr : ∀ a b c d e f g h i j k : AV, let l := lc_mst_ok a b c d e f g h; trim ((6,k)::(8,j)::(7,i)::l) l = [(0,a),(1,b),(2,c),(4,d),(5,e),(6,k),(10,g),(20,h)] := by intros; rfl
 refine R_nil (tr ..) ?_; clear tr
 refine then_n ?_
 refine at_seq rfl ?_
 refine rg rfl ?_
 refine Rq ?_
 refine Rq ?_
 have tr : ∀ a b c d e f g h i j : AV, let l := lc_mst_ok a b c d e f g h; trim ((10,j)::(9,i)::l) l = [(0,a),(1,b),(2,c),(4,d),(5,e),(6,f),(10,j),(20,h)] := by intros; rfl
 refine R_nil (tr ..) ?_; clear tr
 refine then_n ?_
 refine cdd (fun h1 => ?_) (fun h1 => ?_)
 ·
  try simp only [decide_eq_true_eq, decide_eq_false_iff_not, Bool.not_eq_true', Bool.not_eq_false', beq_iff_eq, beq_eq_false_iff_ne, ne_eq] at h1
  refine at_seq rfl ?_
  refine rg rfl ?_
  refine Rq ?_
  refine Rq ?_
  refine Rq ?_
  have tr : ∀ a b c d e f g h i j k : AV, let l := lc_mst_ok a b c d e f g h; trim ((5,k)::(4,j)::(11,i)::l) l = [(0,a),(1,b),(2,c),(4,j),(5,k),(6,f),(10,g),(20,h)] := by intros; rfl
  refine R_nil (tr ..) ?_; clear tr
  refine then_n ?_
  refine at_ret rfl ?_
  refine then_r ?_
  refine fpure ?_
  refine ⟨rfl, ?_, rfl⟩
  rw [mostS, if_pos (by assumption)]
 ·
  try simp only [decide_eq_true_eq, decide_eq_false_iff_not, Bool.not_eq_true', Bool.not_eq_false', beq_iff_eq, beq_eq_false_iff_ne, ne_eq] at h1
  refine at_skip rfl ?_
  refine then_n ?_
  refine at_seq rfl ?_
  refine at_seq rfl ?_
  refine rg rfl ?_
  have g := rok_of (by assumption : rchkS P L = 0)
  refine Rq ?_
  refine Rq ?_
  refine Rq ?_
  refine Rp_split (fun h2 => ?_) (fun h2 => ?_)
  ·
   try simp only [decide_eq_true_eq, decide_eq_false_iff_not, Bool.not_eq_true', Bool.not_eq_false', beq_iff_eq, beq_eq_false_iff_ne, ne_eq] at h2
   refine Rn ?_
   refine Rn ?_
   refine Rn ?_
   refine Rn ?_
   refine Rn ?_
   refine Rq ?_
   have tr : ∀ a b c d e f g h i j k m n o p q r : AV, let l := lc_mst_ok a b c d e f g h; trim ((20,r)::(19,q)::(18,p)::(17,o)::(16,n)::(15,m)::(14,k)::(13,j)::(12,i)::l) l = [(0,a),(1,b),(2,c),(4,d),(5,e),(6,f),(10,g),(20,r)] := by intros; rfl
   refine R_nil (tr ..) ?_; clear tr
   refine then_n ?_
   refine cdt ?_
   refine at_seq rfl ?_
   refine rg rfl ?_
   refine Rq ?_
   refine Rq ?_
   have tr : ∀ a b c d e f g h i j : AV, let l := lc_mst_ok a b c d e f g h; trim ((5,j)::(4,i)::l) l = [(0,a),(1,b),(2,c),(4,i),(5,j),(6,f),(10,g),(20,h)] := by intros; rfl
   refine R_nil (tr ..) ?_; clear tr
   refine then_n ?_
   refine at_ret rfl ?_
   refine then_r ?_
   refine fpure ?_
   refine ⟨rfl, ?_, rfl⟩
   rw [mostS, if_neg (fun hh => hh (by assumption)), if_pos (by omega)]
  ·
   try simp only [decide_eq_true_eq, decide_eq_false_iff_not, Bool.not_eq_true', Bool.not_eq_false', beq_iff_eq, beq_eq_false_iff_ne, ne_eq] at h2
   refine Ry ?_
   refine Rq ?_
   refine Ry ?_
   refine Rq ?_
   refine Ry ?_
   refine Rq ?_
   refine Ry ?_
   refine Rq ?_
   refine Ry ?_
   refine Rq ?_
   refine Rq ?_
   have tr : ∀ a b c d e f g h i j k m n o p q r : AV, let l := lc_mst_ok a b c d e f g h; trim ((20,r)::(19,q)::(18,p)::(17,o)::(16,n)::(15,m)::(14,k)::(13,j)::(12,i)::l) l = [(0,a),(1,b),(2,c),(4,d),(5,e),(6,f),(10,g),(20,r)] := by intros; rfl
   refine R_nil (tr ..) ?_; clear tr
   refine then_n ?_
   refine cdd (fun h3 => ?_) (fun h3 => ?_)
   ·
    try simp only [decide_eq_true_eq, decide_eq_false_iff_not, Bool.not_eq_true', Bool.not_eq_false', beq_iff_eq, beq_eq_false_iff_ne, ne_eq] at h3
    refine at_seq rfl ?_
    refine rg rfl ?_
    refine Rq ?_
    refine Rq ?_
    have tr : ∀ a b c d e f g h i j : AV, let l := lc_mst_ok a b c d e f g h; trim ((5,j)::(4,i)::l) l = [(0,a),(1,b),(2,c),(4,i),(5,j),(6,f),(10,g),(20,h)] := by intros; rfl
    refine R_nil (tr ..) ?_; clear tr
    refine then_n ?_
    refine at_ret rfl ?_
    refine then_r ?_
    refine fpure ?_
    refine ⟨rfl, ?_, rfl⟩
    rw [mostS, if_neg (fun hh => hh (by assumption)), if_pos (by omega)]
   ·
    try simp only [decide_eq_true_eq, decide_eq_false_iff_not, Bool.not_eq_true', Bool.not_eq_false', beq_iff_eq, beq_eq_false_iff_ne, ne_eq] at h3
    refine at_skip rfl ?_
    refine then_n ?_
    refine at_seq rfl ?_
    refine rg rfl ?_
    refine Rq ?_
    refine Rq ?_
    refine Rcall ?_
    refine ACall_eq (most_ok _ _ P L t g (by omega) (by omega)) ?_
    refine Rq ?_
    refine Rq ?_
    have tr : ∀ a b c d e f g h i j k m n : AV, let l := lc_mst_ok a b c d e f g h; trim ((5,n)::(4,m)::(23,k)::(22,j)::(21,i)::l) l = [(0,a),(1,b),(2,c),(4,m),(5,n),(6,f),(10,g),(20,h)] := by intros; rfl
    refine R_nil (tr ..) ?_; clear tr
    refine then_n ?_
    refine at_ret rfl ?_
    refine fpure ?_
    refine ⟨rfl, ?_, rfl⟩
    rw [mostS, if_neg (fun hh => hh (by assumption)), if_neg (by omega)]

theorem mst_ok (lim : Nat) (H : Heap) (P : List Int) (L : List Pr) (t : Int) :
    ACall sig lim 38 [.agg (raceC P L), AV.i t] H fun r H' => r = .tup [AV.i (mostS P L t).1, AV.i (mostS P L t).2] ∧ H' = H :=
  mst_x lim H P L t _ (frz_race H P L)

abbrev lc_rmst_ok (a b c d e f g h : AV) : Env := [(0,a),(1,b),(2,c),(4,d),(5,e),(6,f),(10,g),(20,h)]
theorem rmst_ok (lim : Nat) (H : Heap) (P : List Int) (L : List Pr) (t : Int) :
    ACall sig lim 39 [.agg (raceC P L), AV.i t] H fun r H' => r = .tup [AV.i (mostS P L t).1, AV.i (mostS P L t).2] ∧ H' = H := by
 refine ACall_pure (fa := fa39) rfl rfl rfl rfl ?_
 have tr : ∀ a0 a1 : AV, env0 fa39.keep [a0, a1] = [(0,a0),(1,a1),(2,.any),(4,.any),(5,.any),(6,.any),(10,.any),(20,.any)] := fun a0 a1 => rfl
 refine W_to (tr _ _) ?_; clear tr
 refine at_seq rfl ?_
 refine rg rfl ?_
 refine R_box rfl (by simp (disch := first | omega | (simp only [List.length_map, List.length_append, List.length_set, List.length_cons, List.length_nil]; omega)) only [go_sem, ↓reduceIte, Nat.reduceEqDiff, reduceCtorEq] <;> rfl) rfl rfl ?_
 refine Rq ?_
 refine Rq ?_
 have tr : ∀ a b c d e f g h i j k : AV, let l := lc_rmst_ok a b c d e f g h; trim ((5,k)::(4,j)::(2,i)::l) l = [(0,a),(1,b),(2,i),(4,j),(5,k),(6,f),(10,g),(20,h)] := by intros; rfl
 refine R_nil (tr ..) ?_; clear tr
 refine then_n ?_
 refine at_seq rfl ?_
 refine at_seq rfl ?_
 refine rg rfl ?_
 refine Rq ?_
 refine Rcall ?_
 refine ACall_eq (rchk53_ok _ _ P L) ?_
 refine Rq ?_
 have tr : ∀ a b c d e f g h i j k : AV, let l := lc_rmst_ok a b c d e f g h; trim ((6,k)::(8,j)::(7,i)::l) l = [(0,a),(1,b),(2,c),(4,d),(5,e),(6,k),(10,g),(20,h)] := by intros; rfl
 refine R_nil (tr ..) ?_; clear tr
 refine then_n ?_
 refine at_seq rfl ?_
 refine rg rfl ?_
 refine Rq ?_
 refine Rq ?_
 have tr : ∀ a b c d e f g h i j : AV, let l := lc_rmst_ok a b c d e f g h; trim ((10,j)::(9,i)::l) l = [(0,a),(1,b),(2,c),(4,d),(5,e),(6,f),(10,j),(20,h)] := by intros; rfl
 refine R_nil (tr ..) ?_; clear tr
 refine then_n ?_
 refine cdd (fun h1 => ?_) (fun h1 => ?_)
 ·
  try simp only [decide_eq_true_eq, decide_eq_false_iff_not, Bool.not_eq_true', Bool.not_eq_false', beq_iff_eq, beq_eq_false_iff_ne, ne_eq] at h1
  refine at_seq rfl ?_
  refine rg rfl ?_
  refine Rq ?_
  refine Rq ?_
  refine Rq ?_
  have tr : ∀ a b c d e f g h i j k : AV, let l := lc_rmst_ok a b c d e f g h; trim ((5,k)::(4,j)::(11,i)::l) l = [(0,a),(1,b),(2,c),(4,j),(5,k),(6,f),(10,g),(20,h)] := by intros; rfl
  refine R_nil (tr ..) ?_; clear tr
  refine then_n ?_
  refine at_ret rfl ?_
  refine then_r ?_
  refine fpure ?_
  refine ⟨?_, rfl⟩
  rw [mostS, if_pos (by assumption)]
 ·
  try simp only [decide_eq_true_eq, decide_eq_false_iff_not, Bool.not_eq_true', Bool.not_eq_false', beq_iff_eq, beq_eq_false_iff_ne, ne_eq] at h1
  refine at_skip rfl ?_
  refine then_n ?_
  refine at_seq rfl ?_
  refine at_seq rfl ?_
  refine rg rfl ?_
  have g := rok_of (by assumption : rchkS P L = 0)
  refine Rq ?_
  refine Rq ?_
  refine Rq ?_
  refine Rp_split (fun h2 => ?_) (fun h2 => ?_)
  ·
   try simp only [decide_eq_true_eq, decide_eq_false_iff_not, Bool.not_eq_true', Bool.not_eq_false', beq_iff_eq, beq_eq_false_iff_ne, ne_eq] at h2
   refine Rn ?_
   refine Rn ?_
   refine Rn ?_
   refine Rn ?_
   refine Rn ?_
   refine Rq ?_
   have tr : ∀ a b c d e f g h i j k m n o p q r : AV, let l := lc_rmst_ok a b c d e f g h; trim ((20,r)::(19,q)::(18,p)::(17,o)::(16,n)::(15,m)::(14,k)::(13,j)::(12,i)::l) l = [(0,a),(1,b),(2,c),(4,d),(5,e),(6,f),(10,g),(20,r)] := by intros; rfl
   refine R_nil (tr ..) ?_; clear tr
   refine then_n ?_
   refine cdt ?_
   refine at_seq rfl ?_
   refine rg rfl ?_
   refine Rq ?_
   refine Rq ?_
   have tr : ∀ a b c d e f g h i j : AV, let l := lc_rmst_ok a b c d e f g h; trim ((5,j)::(4,i)::l) l = [(0,a),(1,b),(2,c),(4,i),(5,j),(6,f),(10,g),(20,h)] := by intros; rfl
   refine R_nil (tr ..) ?_; clear tr
   refine then_n ?_
   refine at_ret rfl ?_
   refine then_r ?_
   refine fpure ?_
   refine ⟨?_, rfl⟩
   rw [mostS, if_neg (fun hh => hh (by assumption)), if_pos (by omega)]
  ·
   try simp only [decide_eq_true_eq, decide_eq_false_iff_not, Bool.not_eq_true', Bool.not_eq_false', beq_iff_eq, beq_eq_false_iff_ne, ne_eq] at h2
   refine Ry ?_
   refine Rq ?_
   refine Ry ?_
   refine Rq ?_
   refine Ry ?_
   refine Rq ?_
   refine Ry ?_
   refine Rq ?_
   refine Ry ?_
   refine Rq ?_
   refine Rq ?_
   have tr : ∀ a b c d e f g h i j k m n o p q r : AV, let l := lc_rmst_ok a b c d e f g h; trim ((20,r)::(19,q)::(18,p)::(17,o)::(16,n)::(15,m)::(14,k)::(13,j)::(12,i)::l) l = [(0,a),(1,b),(2,c),(4,d),(5,e),(6,f),(10,g),(20,r)] := by intros; rfl
   refine R_nil (tr ..) ?_; clear tr
   refine then_n ?_
   refine cdd (fun h3 => ?_) (fun h3 => ?_)
   ·
    try simp only [decide_eq_true_eq, decide_eq_false_iff_not, Bool.not_eq_true', Bool.not_eq_false', beq_iff_eq, beq_eq_false_iff_ne, ne_eq] at h3
    refine at_seq rfl ?_
    refine rg rfl ?_
    refine Rq ?_
    refine Rq ?_
    have tr : ∀ a b c d e f g h i j : AV, let l := lc_rmst_ok a b c d e f g h; trim ((5,j)::(4,i)::l) l = [(0,a),(1,b),(2,c),(4,i),(5,j),(6,f),(10,g),(20,h)] := by intros; rfl
    refine R_nil (tr ..) ?_; clear tr
    refine then_n ?_
    refine at_ret rfl ?_
    refine then_r ?_
    refine fpure ?_
    refine ⟨?_, rfl⟩
    rw [mostS, if_neg (fun hh => hh (by assumption)), if_pos (by omega)]
   ·
    try simp only [decide_eq_true_eq, decide_eq_false_iff_not, Bool.not_eq_true', Bool.not_eq_false', beq_iff_eq, beq_eq_false_iff_ne, ne_eq] at h3
    refine at_skip rfl ?_
    refine then_n ?_
    refine at_seq rfl ?_
    refine rg rfl ?_
    refine Rq ?_
    refine Rq ?_
    refine Rcall ?_
    refine ACall_eq (rmost_ok _ _ P L t g (by omega) (by omega)) ?_
    refine Rq ?_
    refine Rq ?_
    have tr : ∀ a b c d e f g h i j k m n : AV, let l := lc_rmst_ok a b c d e f g h; trim ((5,n)::(4,m)::(23,k)::(22,j)::(21,i)::l) l = [(0,a),(1,b),(2,c),(4,m),(5,n),(6,f),(10,g),(20,h)] := by intros; rfl
    refine R_nil (tr ..) ?_; clear tr
    refine then_n ?_
    refine at_ret rfl ?_
    refine fpure ?_
    refine ⟨?_, rfl⟩
    rw [mostS, if_neg (fun hh => hh (by assumption)), if_neg (by omega)]

end Go.Proofs.Ytdicnojnkbmdlaa
end
section
set_option linter.unusedSimpArgs false
set_option linter.unusedVariables false
set_option maxHeartbeats 40000000
set_option maxRecDepth 4000
namespace Go.Proofs.Ytdicnojnkbmdlaa
open Go Go.Am

abbrev lc_first_ok (a b c d e f g h i j k m n o p q r s t u v w x y z A B C D E F : AV) : Env := [(0,a),(1,b),(2,c),(4,d),(5,e),(6,f),(7,g),(8,h),(9,i),(10,j),(11,k),(12,m),(13,n),(15,o),(16,p),(17,q),(18,r),(26,s),(30,t),(31,u),(32,v),(33,w),(39,x),(58,y),(59,z),(60,A),(79,B),(89,C),(90,D),(91,E),(100,F)]
theorem first_ok (lim : Nat) (H : Heap) (P : List Int) (L : List Pr) (t : Int) :
    ACall sig lim 29 [.agg (raceC P L), AV.i t] H fun r H' => FirstP P L t r ∧ H' = H := by
 have q0 : True := trivial
 have q4 : True := trivial
 have qg : True := trivial
 have qv : True := trivial
 have hfe : True := trivial
 have hce : True := trivial
 have hst : True := trivial
 refine ACall_pure (fa := fa29) rfl rfl rfl rfl ?_
 have tr : ∀ a0 a1 : AV, env0 fa29.keep [a0, a1] = [(0,a0),(1,a1),(2,.any),(4,.any),(5,.any),(6,.any),(7,.any),(8,.any),(9,.any),(10,.any),(11,.any),(12,.any),(13,.any),(15,.any),(16,.any),(17,.any),(18,.any),(26,.any),(30,.any),(31,.any),(32,.any),(33,.any),(39,.any),(58,.any),(59,.any),(60,.any),(79,.any),(89,.any),(90,.any),(91,.any),(100,.any)] := fun a0 a1 => rfl
 refine W_to (tr _ _) ?_; clear tr
 refine at_seq rfl ?_
 refine rg rfl ?_
 refine A_box rfl (by simp (disch := first | omega | (simp only [List.length_map, List.length_append, List.length_set, List.length_cons, List.length_nil]; omega)) only [go_sem, ↓reduceIte, Nat.reduceEqDiff, reduceCtorEq] <;> rfl) ?_
 intro H1 n0
 have en0 := n0.len
 have q0 := n0.new
 refine A_alloc rfl ?_
 intro H2 n1
 have en1 := n1.len
 have q0 := (n1.old _ (hget_lt q0)).trans q0
 have q4 := n1.new
 refine Rq ?_
 have tr : ∀ a b c d e f g h i j k m n o p q r s t u v w x y z A B C D E F G H I : AV, let l := lc_first_ok a b c d e f g h i j k m n o p q r s t u v w x y z A B C D E F; trim ((5,I)::(4,H)::(2,G)::l) l = [(0,a),(1,b),(2,G),(4,H),(5,I),(6,f),(7,g),(8,h),(9,i),(10,j),(11,k),(12,m),(13,n),(15,o),(16,p),(17,q),(18,r),(26,s),(30,t),(31,u),(32,v),(33,w),(39,x),(58,y),(59,z),(60,A),(79,B),(89,C),(90,D),(91,E),(100,F)] := by intros; rfl
 refine R_nil (tr ..) ?_; clear tr
 refine then_n ?_
 refine at_seq rfl ?_
 refine rg rfl ?_
 refine R_q rfl (by simp (disch := first | omega | (simp only [List.length_map, List.length_append, List.length_set, List.length_cons, List.length_nil]; omega)) only [go_sem, ↓reduceIte, Nat.reduceEqDiff, reduceCtorEq, q0, q4, qg, qv, hfe, hce, hst] <;> rfl) ?_
 refine Rq ?_
 refine Rcall ?_
 refine ACall_eq (mst_ok _ _ P L t) ?_
 refine Rq ?_
 refine Rq ?_
 refine Rq ?_
 refine Rq ?_
 refine Rq ?_
 have tr : ∀ a b c d e f g h i j k m n o p q r s t u v w x y z A B C D E F G H I J K L M N : AV, let l := lc_first_ok a b c d e f g h i j k m n o p q r s t u v w x y z A B C D E F; trim ((7,N)::(6,M)::(24,L)::(23,K)::(19,J)::(22,I)::(21,H)::(20,G)::l) l = [(0,a),(1,b),(2,c),(4,d),(5,e),(6,M),(7,N),(8,h),(9,i),(10,j),(11,k),(12,m),(13,n),(15,o),(16,p),(17,q),(18,r),(26,s),(30,t),(31,u),(32,v),(33,w),(39,x),(58,y),(59,z),(60,A),(79,B),(89,C),(90,D),(91,E),(100,F)] := by intros; rfl
 refine R_nil (tr ..) ?_; clear tr
 refine then_n ?_
 refine at_seq rfl ?_
 refine at_seq rfl ?_
 refine rg rfl ?_
 refine Rq ?_
 refine Rq ?_
 have tr : ∀ a b c d e f g h i j k m n o p q r s t u v w x y z A B C D E F G H : AV, let l := lc_first_ok a b c d e f g h i j k m n o p q r s t u v w x y z A B C D E F; trim ((26,H)::(25,G)::l) l = [(0,a),(1,b),(2,c),(4,d),(5,e),(6,f),(7,g),(8,h),(9,i),(10,j),(11,k),(12,m),(13,n),(15,o),(16,p),(17,q),(18,r),(26,H),(30,t),(31,u),(32,v),(33,w),(39,x),(58,y),(59,z),(60,A),(79,B),(89,C),(90,D),(91,E),(100,F)] := by intros; rfl
 refine R_nil (tr ..) ?_; clear tr
 refine then_n ?_
 refine cdd (fun h1 => ?_) (fun h1 => ?_)
 ·
  try simp only [decide_eq_true_eq, decide_eq_false_iff_not, Bool.not_eq_true', Bool.not_eq_false', beq_iff_eq, beq_eq_false_iff_ne, ne_eq] at h1
  refine at_seq rfl ?_
  refine rg rfl ?_
  refine Rq ?_
  refine Rq ?_
  have lq0 := hget_lt q0
  have lq4 := hget_lt q4
  refine A_store ty46 (by simp (disch := first | omega | (simp only [List.length_map, List.length_append, List.length_set, List.length_cons, List.length_nil]; omega)) only [go_sem, ↓reduceIte, Nat.reduceEqDiff, reduceCtorEq, q0, q4, qg, qv, hfe, hce, hst] <;> rfl) (by simp (disch := first | omega | (simp only [List.length_map, List.length_append, List.length_set, List.length_cons, List.length_nil]; omega)) only [go_sem, ↓reduceIte, Nat.reduceEqDiff, reduceCtorEq, q0, q4, qg, qv, hfe, hce, hst] <;> rfl) q4 ⟨by omega, rfl, by first | exact Nat.le_refl _ | simp⟩ (show _ = [.v (.bool false), nilP, nilP] from rfl) ?_
  intro HZa wza
  have ewza := wza.len
  have q0 := (wza.old _ (by omega)).trans q0
  have q4 := wza.new
  refine Rq ?_
  have tr : ∀ a b c d e f g h i j k m n o p q r s t u v w x y z A B C D E F G H I : AV, let l := lc_first_ok a b c d e f g h i j k m n o p q r s t u v w x y z A B C D E F; trim ((5,I)::(28,H)::(27,G)::l) l = [(0,a),(1,b),(2,c),(4,d),(5,I),(6,f),(7,g),(8,h),(9,i),(10,j),(11,k),(12,m),(13,n),(15,o),(16,p),(17,q),(18,r),(26,s),(30,t),(31,u),(32,v),(33,w),(39,x),(58,y),(59,z),(60,A),(79,B),(89,C),(90,D),(91,E),(100,F)] := by intros; rfl
  refine R_nil (tr ..) ?_; clear tr
  refine then_n ?_
  refine at_ret rfl ?_
  refine then_r ?_
  refine fin_pure (rs := [.cell 4 46, .tmp 5]) rfl (by simp only [go_sem, ↓reduceIte, Nat.reduceEqDiff, q4]; rfl) rfl ?_
  obtain ⟨fB, fS⟩ := first_e (by assumption : ¬ (mostS P L t).2 = 0)
  refine ⟨⟨[], nilP, ?_, .inl ⟨fB, rfl, rfl⟩⟩, rfl⟩
  rw [fB, fS]
  rfl
 ·
  try simp only [decide_eq_true_eq, decide_eq_false_iff_not, Bool.not_eq_true', Bool.not_eq_false', beq_iff_eq, beq_eq_false_iff_ne, ne_eq] at h1
  refine at_skip rfl ?_
  refine then_n ?_
  refine at_seq rfl ?_
  refine at_seq rfl ?_
  refine rg rfl ?_
  have hm0 : (mostS P L t).2 = 0 := by assumption
  obtain ⟨g, t0, t1⟩ := most_of hm0
  have g20 := g.n20
  have g2 := g.n2
  have gel := g.el
  have gpr := g.pr
  have hme := most_eq hm0
  have hmr := most_rng (L := L) (g.pt t.toNat (by omega)).1 (g.pt t.toNat (by omega)).2 L.length
  rw [← hme] at hmr
  refine Rq ?_
  refine R_q rfl (by simp (disch := first | omega | (simp only [List.length_map, List.length_append, List.length_set, List.length_cons, List.length_nil]; omega)) only [go_sem, ↓reduceIte, Nat.reduceEqDiff, reduceCtorEq, q0, q4, qg, qv, hfe, hce, hst] <;> rfl) ?_
  refine Rq ?_
  refine Rq ?_
  have tr : ∀ a b c d e f g h i j k m n o p q r s t u v w x y z A B C D E F G H I J : AV, let l := lc_first_ok a b c d e f g h i j k m n o p q r s t u v w x y z A B C D E F; trim ((32,J)::(31,I)::(30,H)::(29,G)::l) l = [(0,a),(1,b),(2,c),(4,d),(5,e),(6,f),(7,g),(8,h),(9,i),(10,j),(11,k),(12,m),(13,n),(15,o),(16,p),(17,q),(18,r),(26,s),(30,H),(31,I),(32,J),(33,w),(39,x),(58,y),(59,z),(60,A),(79,B),(89,C),(90,D),(91,E),(100,F)] := by intros; rfl
  refine R_nil (tr ..) ?_; clear tr
  refine then_n ?_
  refine at_block rfl ?_
  refine loop_n rfl (fun mm kv H' => ∃ u : Nat, ∃ x5 x8 x9 x33 x39 : AV, (kv = [(5, x5), (8, x8), (9, x9), (32, AV.i u), (33, x33), (39, x39)]) ∧ (mm = P.length - u) ∧ (H2 = H') ∧ (u ≤ P.length) ∧ (badN P (mostS P L t).1 u = -1)) ⟨0, _, _, _, _, _, rfl, rfl, by rfl, by omega, by rfl⟩ (by rfl) ?_
  rintro mm kv HX ⟨u, x5, x8, x9, x33, x39, rfl, rfl, hX, hu, hq⟩
  have tr : ∀ a b c d e f g h i j k m n o p q r s t u v w x y z A B C D E F G H I J K L : AV, upd [(0,a),(1,b),(2,c),(4,d),(5,e),(6,f),(7,g),(8,h),(9,i),(10,j),(11,k),(12,m),(13,n),(15,o),(16,p),(17,q),(18,r),(26,s),(30,t),(31,u),(32,v),(33,w),(39,x),(58,y),(59,z),(60,A),(79,B),(89,C),(90,D),(91,E),(100,F)] [(5,G),(8,H),(9,I),(32,J),(33,K),(39,L)] = [(0,a),(1,b),(2,c),(4,d),(5,G),(6,f),(7,g),(8,H),(9,I),(10,j),(11,k),(12,m),(13,n),(15,o),(16,p),(17,q),(18,r),(26,s),(30,t),(31,u),(32,J),(33,K),(39,L),(58,y),(59,z),(60,A),(79,B),(89,C),(90,D),(91,E),(100,F)] := by intros; rfl
  refine W_to (tr ..) ?_; clear tr
  subst hX
  refine at_seq rfl ?_
  refine rg rfl ?_
  refine Rq ?_
  have tr : ∀ a b c d e f g h i j k m n o p q r s t u v w x y z A B C D E F G : AV, let l := lc_first_ok a b c d e f g h i j k m n o p q r s t u v w x y z A B C D E F; trim ((33,G)::l) l = [(0,a),(1,b),(2,c),(4,d),(5,e),(6,f),(7,g),(8,h),(9,i),(10,j),(11,k),(12,m),(13,n),(15,o),(16,p),(17,q),(18,r),(26,s),(30,t),(31,u),(32,v),(33,G),(39,x),(58,y),(59,z),(60,A),(79,B),(89,C),(90,D),(91,E),(100,F)] := by intros; rfl
  refine R_nil (tr ..) ?_; clear tr
  refine then_n ?_
  refine at_seq rfl ?_
  refine cdd (fun h2 => ?_) (fun h2 => ?_)
  ·
   try simp only [decide_eq_true_eq, decide_eq_false_iff_not, Bool.not_eq_true', Bool.not_eq_false', beq_iff_eq, beq_eq_false_iff_ne, ne_eq] at h2
   refine at_skip rfl ?_
   refine then_n ?_
   refine at_seq rfl ?_
   refine at_block rfl ?_
   refine at_seq rfl ?_
   refine rg rfl ?_
   have hpu := g.pt u (by omega)
   refine Rq ?_
   refine Rq ?_
   refine R_q rfl (by simp (disch := first | omega | (simp only [List.length_map, List.length_append, List.length_set, List.length_cons, List.length_nil]; omega)) only [go_sem, ↓reduceIte, Nat.reduceEqDiff, reduceCtorEq, q0, q4, qg, qv, hfe, hce, hst] <;> rfl) ?_
   refine Rq ?_
   refine Rq ?_
   have tr : ∀ a b c d e f g h i j k m n o p q r s t u v w x y z A B C D E F G H I J K : AV, let l := lc_first_ok a b c d e f g h i j k m n o p q r s t u v w x y z A B C D E F; trim ((9,K)::(8,J)::(36,I)::(35,H)::(34,G)::l) l = [(0,a),(1,b),(2,c),(4,d),(5,e),(6,f),(7,g),(8,J),(9,K),(10,j),(11,k),(12,m),(13,n),(15,o),(16,p),(17,q),(18,r),(26,s),(30,t),(31,u),(32,v),(33,w),(39,x),(58,y),(59,z),(60,A),(79,B),(89,C),(90,D),(91,E),(100,F)] := by intros; rfl
   refine R_nil (tr ..) ?_; clear tr
   refine then_n ?_
   refine at_seq rfl ?_
   refine rg rfl ?_
   refine Rq ?_
   refine Rq ?_
   refine Rq ?_
   have tr : ∀ a b c d e f g h i j k m n o p q r s t u v w x y z A B C D E F G H I : AV, let l := lc_first_ok a b c d e f g h i j k m n o p q r s t u v w x y z A B C D E F; trim ((39,I)::(38,H)::(37,G)::l) l = [(0,a),(1,b),(2,c),(4,d),(5,e),(6,f),(7,g),(8,h),(9,i),(10,j),(11,k),(12,m),(13,n),(15,o),(16,p),(17,q),(18,r),(26,s),(30,t),(31,u),(32,v),(33,w),(39,I),(58,y),(59,z),(60,A),(79,B),(89,C),(90,D),(91,E),(100,F)] := by intros; rfl
   refine R_nil (tr ..) ?_; clear tr
   refine then_n ?_
   refine cdd (fun h3 => ?_) (fun h3 => ?_)
   ·
    try simp only [decide_eq_true_eq, decide_eq_false_iff_not, Bool.not_eq_true', Bool.not_eq_false', beq_iff_eq, beq_eq_false_iff_ne, ne_eq] at h3
    refine at_seq rfl ?_
    refine rg rfl ?_
    refine Rq ?_
    refine A_buildSlice (bs40' _ _ _ _ (u : Int) (by simp (disch := first | omega | (simp only [List.length_map, List.length_append, List.length_set, List.length_cons, List.length_nil]; omega)) only [go_sem, ↓reduceIte, Nat.reduceEqDiff, reduceCtorEq, q0, q4, qg, qv, hfe, hce, hst])) ?_
    intro H3 n2
    have en2 := n2.len
    have q0 := (n2.old _ (hget_lt q0)).trans q0
    have q4 := (n2.old _ (hget_lt q4)).trans q4
    have qn := n2.new
    refine Rq ?_
    have lq0 := hget_lt q0
    have lq4 := hget_lt q4
    have lqn := hget_lt qn
    refine A_store ty46 (by simp (disch := first | omega | (simp only [List.length_map, List.length_append, List.length_set, List.length_cons, List.length_nil]; omega)) only [go_sem, ↓reduceIte, Nat.reduceEqDiff, reduceCtorEq, q0, q4, qg, qv, hfe, hce, hst] <;> rfl) (by simp (disch := first | omega | (simp only [List.length_map, List.length_append, List.length_set, List.length_cons, List.length_nil]; omega)) only [go_sem, ↓reduceIte, Nat.reduceEqDiff, reduceCtorEq, q0, q4, qg, qv, hfe, hce, hst] <;> rfl) q4 ⟨by omega, rfl, by first | exact Nat.le_refl _ | simp⟩ (show _ = [.v (.bool false), .own 1 H2.length 0 1, nilP] from rfl) ?_
    intro HZb wzb
    have ewzb := wzb.len
    have q0 := (wzb.old _ (by omega)).trans q0
    have qn := (wzb.old _ (by omega)).trans qn
    have q4 := wzb.new
    refine Rq ?_
    have tr : ∀ a b c d e f g h i j k m n o p q r s t u v w x y z A B C D E F G H I J : AV, let l := lc_first_ok a b c d e f g h i j k m n o p q r s t u v w x y z A B C D E F; trim ((5,J)::(42,I)::(41,H)::(40,G)::l) l = [(0,a),(1,b),(2,c),(4,d),(5,J),(6,f),(7,g),(8,h),(9,i),(10,j),(11,k),(12,m),(13,n),(15,o),(16,p),(17,q),(18,r),(26,s),(30,t),(31,u),(32,v),(33,w),(39,x),(58,y),(59,z),(60,A),(79,B),(89,C),(90,D),(91,E),(100,F)] := by intros; rfl
    refine R_nil (tr ..) ?_; clear tr
    refine then_n ?_
    refine at_ret rfl ?_
    refine blk_r ?_
    refine then_r ?_
    refine then_r ?_
    refine blk_r ?_
    refine then_r ?_
    refine fin_pure (rs := [.cell 4 46, .tmp 5]) rfl (by simp only [go_sem, ↓reduceIte, Nat.reduceEqDiff, q4]; rfl) rfl ?_
    have hbk := bad_at hq (by omega) P.length (by omega)
    obtain ⟨fB, fS⟩ := first_b hm0 (by omega)
    refine ⟨⟨[], nilP, ?_, .inl ⟨fB, rfl, rfl⟩⟩, rfl⟩
    rw [fB, fS]
    rw [hbk]
    show AV.tup [AV.agg [_, frz HZb H.length 6 _, _], _] = _
    rw [frz_ownI (n := 1) (l := [(u : Int)]) (by omega) qn rfl]
    rw [hm0]
    rfl
   ·
    try simp only [decide_eq_true_eq, decide_eq_false_iff_not, Bool.not_eq_true', Bool.not_eq_false', beq_iff_eq, beq_eq_false_iff_ne, ne_eq] at h3
    refine at_skip rfl ?_
    refine blk_n ?_
    refine then_n ?_
    refine rg rfl ?_
    refine Rq ?_
    refine Rq ?_
    have tr : ∀ a b c d e f g h i j k m n o p q r s t u v w x y z A B C D E F G H : AV, let l := lc_first_ok a b c d e f g h i j k m n o p q r s t u v w x y z A B C D E F; trim ((32,H)::(43,G)::l) l = [(0,a),(1,b),(2,c),(4,d),(5,e),(6,f),(7,g),(8,h),(9,i),(10,j),(11,k),(12,m),(13,n),(15,o),(16,p),(17,q),(18,r),(26,s),(30,t),(31,u),(32,H),(33,w),(39,x),(58,y),(59,z),(60,A),(79,B),(89,C),(90,D),(91,E),(100,F)] := by intros; rfl
    refine R_nil (tr ..) ?_; clear tr
    refine then_n ?_
    exact ⟨_, _, ⟨u + 1, _, _, _, _, _, rfl, rfl, by rfl, by omega, by exact bad_on hq (by omega)⟩, by rfl, by omega⟩
  ·
   try simp only [decide_eq_true_eq, decide_eq_false_iff_not, Bool.not_eq_true', Bool.not_eq_false', beq_iff_eq, beq_eq_false_iff_ne, ne_eq] at h2
   refine at_exit rfl ?_
   refine then_x ?_
   refine then_x ?_
   refine blk_x ?_
   refine then_n ?_
   refine at_seq rfl ?_
   refine rg rfl ?_
   obtain rfl : u = P.length := by omega
   have hpa := bad_all hq
   have WQ : PQ L t (pQ L t) := (pq_prog L t L.length).to
   have hql := pq_len WQ
   obtain ⟨E, f, sn, e1, e2, e3, hc0, hE1, hE2, hfl, hsl, hEc, hfr, CU⟩ := first_sum hm0 hpa WQ (pb := 2) (tb := (2 + ((pQ L t).length : Int))) (n := (2 + ((pQ L t).length : Int) + (P.length : Int))) ⟨by omega, by omega, by omega, by omega, by omega⟩ (by omega)
   have hqe : (pairsN (othN L t L.length) (othN L t L.length).length).length = (pQ L t).length := rfl
   have hqe2 : (pairsN (othS L t) (othS L t).length).length = (pQ L t).length := rfl
   refine R_q rfl (by simp (disch := first | omega | (simp only [List.length_map, List.length_append, List.length_set, List.length_cons, List.length_nil]; omega)) only [go_sem, ↓reduceIte, Nat.reduceEqDiff, reduceCtorEq, q0, q4, qg, qv, hfe, hce, hst] <;> rfl) ?_
   refine Rq ?_
   refine Rq ?_
   refine Rcall ?_
   refine ACall_eq (graph_ok _ _ P L t _ g t0 t1 (fun k hk => by have := hpa k hk; omega) (by omega)) ?_
   rewrite [e1]
   refine Rq ?_
   refine Rq ?_
   refine Rq ?_
   refine A_alloc rfl ?_
   intro H4 n3
   have en3 := n3.len
   have q0 := (n3.old _ (hget_lt q0)).trans q0
   have q4 := (n3.old _ (hget_lt q4)).trans q4
   have qg := n3.new
   have lq0 := hget_lt q0
   have lq4 := hget_lt q4
   have lqg := hget_lt qg
   refine A_store ty24 (by simp (disch := first | omega | (simp only [List.length_map, List.length_append, List.length_set, List.length_cons, List.length_nil]; omega)) only [go_sem, ↓reduceIte, Nat.reduceEqDiff, reduceCtorEq, q0, q4, qg, qv, hfe, hce, hst] <;> rfl) (by simp (disch := first | omega | (simp only [List.length_map, List.length_append, List.length_set, List.length_cons, List.length_nil]; omega)) only [go_sem, ↓reduceIte, Nat.reduceEqDiff, reduceCtorEq, q0, q4, qg, qv, hfe, hce, hst] <;> rfl) qg ⟨by omega, rfl, by first | exact Nat.le_refl _ | simp⟩ (show _ = graphC (2 + ((pQ L t).length : Int) + (P.length : Int)) 0 1 E from rfl) ?_
   intro H5 w3
   have ew3 := w3.len
   have q0 := (w3.old _ (by omega)).trans q0
   have q4 := (w3.old _ (by omega)).trans q4
   have qg := w3.new
   refine Rq ?_
   have tr : ∀ a b c d e f g h i j k m n o p q r s t u v w x y z A B C D E F G H I J K L M N O : AV, let l := lc_first_ok a b c d e f g h i j k m n o p q r s t u v w x y z A B C D E F; trim ((11,O)::(10,N)::(50,M)::(49,L)::(44,K)::(48,J)::(47,I)::(46,H)::(45,G)::l) l = [(0,a),(1,b),(2,c),(4,d),(5,e),(6,f),(7,g),(8,h),(9,i),(10,N),(11,O),(12,m),(13,n),(15,o),(16,p),(17,q),(18,r),(26,s),(30,t),(31,u),(32,v),(33,w),(39,x),(58,y),(59,z),(60,A),(79,B),(89,C),(90,D),(91,E),(100,F)] := by intros; rfl
   refine R_nil (tr ..) ?_; clear tr
   refine then_n ?_
   refine at_seq rfl ?_
   refine rg rfl ?_
   refine R_q rfl (by simp (disch := first | omega | (simp only [List.length_map, List.length_append, List.length_set, List.length_cons, List.length_nil]; omega)) only [go_sem, ↓reduceIte, Nat.reduceEqDiff, reduceCtorEq, q0, q4, qg, qv, hfe, hce, hst] <;> rfl) ?_
   refine Rcall ?_
   refine ACall_eq (max_ok _ _ _ _ _ _) ?_
   rewrite [maxA_is hc0, maxB_is hc0, e2, e3]
   refine Rq ?_
   refine Rq ?_
   refine Rq ?_
   refine Rq ?_
   refine Rq ?_
   refine Rq ?_
   refine Rq ?_
   have tr : ∀ a b c d e f g h i j k m n o p q r s t u v w x y z A B C D E F G H I J K L M N O : AV, let l := lc_first_ok a b c d e f g h i j k m n o p q r s t u v w x y z A B C D E F; trim ((14,O)::(13,N)::(12,M)::(56,L)::(55,K)::(54,J)::(51,I)::(53,H)::(52,G)::l) l = [(0,a),(1,b),(2,c),(4,d),(5,e),(6,f),(7,g),(8,h),(9,i),(10,j),(11,k),(12,M),(13,N),(15,o),(16,p),(17,q),(18,r),(26,s),(30,t),(31,u),(32,v),(33,w),(39,x),(58,y),(59,z),(60,A),(79,B),(89,C),(90,D),(91,E),(100,F)] := by intros; rfl
   refine R_nil (tr ..) ?_; clear tr
   refine then_n ?_
   refine at_seq rfl ?_
   refine rg rfl ?_
   refine Rq ?_
   have tr : ∀ a b c d e f g h i j k m n o p q r s t u v w x y z A B C D E F G : AV, let l := lc_first_ok a b c d e f g h i j k m n o p q r s t u v w x y z A B C D E F; trim ((15,G)::l) l = [(0,a),(1,b),(2,c),(4,d),(5,e),(6,f),(7,g),(8,h),(9,i),(10,j),(11,k),(12,m),(13,n),(15,G),(16,p),(17,q),(18,r),(26,s),(30,t),(31,u),(32,v),(33,w),(39,x),(58,y),(59,z),(60,A),(79,B),(89,C),(90,D),(91,E),(100,F)] := by intros; rfl
   refine R_nil (tr ..) ?_; clear tr
   refine then_n ?_
   refine at_seq rfl ?_
   refine at_seq rfl ?_
   refine rg rfl ?_
   refine Rq ?_
   refine R_q rfl (by simp (disch := first | omega | (simp only [List.length_map, List.length_append, List.length_set, List.length_cons, List.length_nil]; omega)) only [go_sem, ↓reduceIte, Nat.reduceEqDiff, reduceCtorEq, q0, q4, qg, qv, hfe, hce, hst]; exact pairsA_len _) ?_
   refine Rq ?_
   have tr : ∀ a b c d e f g h i j k m n o p q r s t u v w x y z A B C D E F G H I : AV, let l := lc_first_ok a b c d e f g h i j k m n o p q r s t u v w x y z A B C D E F; trim ((59,I)::(58,H)::(57,G)::l) l = [(0,a),(1,b),(2,c),(4,d),(5,e),(6,f),(7,g),(8,h),(9,i),(10,j),(11,k),(12,m),(13,n),(15,o),(16,p),(17,q),(18,r),(26,s),(30,t),(31,u),(32,v),(33,w),(39,x),(58,H),(59,I),(60,A),(79,B),(89,C),(90,D),(91,E),(100,F)] := by intros; rfl
   refine R_nil (tr ..) ?_; clear tr
   refine then_n ?_
   refine at_block rfl ?_
   refine loop_n rfl (fun mm kv H' => ∃ i : Nat, ∃ full : Bool, ∃ x16 x60 : AV, (kv = [(15, AV.b full), (16, x16), (59, AV.i i), (60, x60)]) ∧ (mm = (pQ L t).length - i) ∧ (H5 = H') ∧ (i ≤ (pQ L t).length) ∧ ((full = true ↔ ∀ k, k < i → gt f (3 * k) = cQ L t (pQ L t) k))) ⟨0, true, _, _, rfl, rfl, by rfl, by omega, by exact ⟨fun _ k hk => by omega, fun _ => rfl⟩⟩ (by rfl) ?_
   rintro mm kv HX ⟨i, full, x16, x60, rfl, rfl, hX, hi, hf⟩
   have tr : ∀ a b c d e f g h i j k m n o p q r s t u v w x y z A B C D E F G H I J : AV, upd [(0,a),(1,b),(2,c),(4,d),(5,e),(6,f),(7,g),(8,h),(9,i),(10,j),(11,k),(12,m),(13,n),(15,o),(16,p),(17,q),(18,r),(26,s),(30,t),(31,u),(32,v),(33,w),(39,x),(58,y),(59,z),(60,A),(79,B),(89,C),(90,D),(91,E),(100,F)] [(15,G),(16,H),(59,I),(60,J)] = [(0,a),(1,b),(2,c),(4,d),(5,e),(6,f),(7,g),(8,h),(9,i),(10,j),(11,k),(12,m),(13,n),(15,G),(16,H),(17,q),(18,r),(26,s),(30,t),(31,u),(32,v),(33,w),(39,x),(58,y),(59,I),(60,J),(79,B),(89,C),(90,D),(91,E),(100,F)] := by intros; rfl
   refine W_to (tr ..) ?_; clear tr
   subst hX
   refine at_seq rfl ?_
   refine rg rfl ?_
   refine Rq ?_
   have tr : ∀ a b c d e f g h i j k m n o p q r s t u v w x y z A B C D E F G : AV, let l := lc_first_ok a b c d e f g h i j k m n o p q r s t u v w x y z A B C D E F; trim ((60,G)::l) l = [(0,a),(1,b),(2,c),(4,d),(5,e),(6,f),(7,g),(8,h),(9,i),(10,j),(11,k),(12,m),(13,n),(15,o),(16,p),(17,q),(18,r),(26,s),(30,t),(31,u),(32,v),(33,w),(39,x),(58,y),(59,z),(60,G),(79,B),(89,C),(90,D),(91,E),(100,F)] := by intros; rfl
   refine R_nil (tr ..) ?_; clear tr
   refine then_n ?_
   refine at_seq rfl ?_
   refine cdd (fun h4 => ?_) (fun h4 => ?_)
   ·
    try simp only [decide_eq_true_eq, decide_eq_false_iff_not, Bool.not_eq_true', Bool.not_eq_false', beq_iff_eq, beq_eq_false_iff_ne, ne_eq] at h4
    refine at_skip rfl ?_
    refine then_n ?_
    refine at_seq rfl ?_
    refine at_block rfl ?_
    refine at_seq rfl ?_
    refine rg rfl ?_
    refine Rq ?_
    refine Rq ?_
    have tr : ∀ a b c d e f g h i j k m n o p q r s t u v w x y z A B C D E F G H : AV, let l := lc_first_ok a b c d e f g h i j k m n o p q r s t u v w x y z A B C D E F; trim ((16,H)::(61,G)::l) l = [(0,a),(1,b),(2,c),(4,d),(5,e),(6,f),(7,g),(8,h),(9,i),(10,j),(11,k),(12,m),(13,n),(15,o),(16,H),(17,q),(18,r),(26,s),(30,t),(31,u),(32,v),(33,w),(39,x),(58,y),(59,z),(60,A),(79,B),(89,C),(90,D),(91,E),(100,F)] := by intros; rfl
    refine R_nil (tr ..) ?_; clear tr
    refine then_n ?_
    refine rd rfl rfl ?_
    have hfi := hfr i (by omega)
    have hfe : gt f (3 * (i : Int)).toNat = gt f (3 * i) := by rw [show (3 * (i : Int)).toNat = 3 * i by omega]
    have hce : (gt E (3 * (i : Int)).toNat).c = cQ L t (pQ L t) i := by rw [show (3 * (i : Int)).toNat = 3 * i by omega]; exact hEc i (by omega)
    refine Qq ?_
    refine Qq ?_
    refine Qp_split (fun h5 => ?_) (fun h5 => ?_)
    ·
     try simp only [decide_eq_true_eq, decide_eq_false_iff_not, Bool.not_eq_true', Bool.not_eq_false', beq_iff_eq, beq_eq_false_iff_ne, ne_eq] at h5
     refine Qy ?_
     refine Qq ?_
     refine Qy ?_
     refine Qq ?_
     refine Qy ?_
     refine Qq ?_
     refine Qy ?_
     refine Qq ?_
     refine Qy ?_
     refine Q_q rfl (by simp (disch := first | omega | (simp only [List.length_map, List.length_append, List.length_set, List.length_cons, List.length_nil]; omega)) only [go_sem, ↓reduceIte, Nat.reduceEqDiff, reduceCtorEq, q0, q4, qg, qv, hfe, hce, hst] <;> rfl) ?_
     refine Qy ?_
     refine Qq ?_
     refine Qy ?_
     refine Q_q rfl (by simp (disch := first | omega | (simp only [List.length_map, List.length_append, List.length_set, List.length_cons, List.length_nil]; omega)) only [go_sem, ↓reduceIte, Nat.reduceEqDiff, reduceCtorEq, q0, q4, qg, qv, hfe, hce, hst] <;> rfl) ?_
     refine Qy ?_
     refine Qq ?_
     refine Qy ?_
     refine Qq ?_
     refine Qy ?_
     refine Qq ?_
     refine Qy ?_
     refine Qq ?_
     refine Qy ?_
     refine Q_q rfl (by simp (disch := first | omega | (simp only [List.length_map, List.length_append, List.length_set, List.length_cons, List.length_nil]; omega)) only [go_sem, ↓reduceIte, Nat.reduceEqDiff, reduceCtorEq, q0, q4, qg, qv, hfe, hce, hst] <;> rfl) ?_
     refine Qy ?_
     refine Qq ?_
     refine Qq ?_
     refine Qq ?_
     refine Q_nil ?_
     have tr : ∀ a b c d e f g h i j k m n o p q r s t u v w x y z A B C D E F G H I J K L M N O P Q R S T U V W : AV, let l := lc_first_ok a b c d e f g h i j k m n o p q r s t u v w x y z A B C D E F; trim ((15,W)::(77,V)::(76,U)::(75,T)::(74,S)::(73,R)::(72,Q)::(71,P)::(70,O)::(69,N)::(68,M)::(67,L)::(66,K)::(65,J)::(64,I)::(63,H)::(62,G)::l) l = [(0,a),(1,b),(2,c),(4,d),(5,e),(6,f),(7,g),(8,h),(9,i),(10,j),(11,k),(12,m),(13,n),(15,W),(16,p),(17,q),(18,r),(26,s),(30,t),(31,u),(32,v),(33,w),(39,x),(58,y),(59,z),(60,A),(79,B),(89,C),(90,D),(91,E),(100,F)] := by intros; rfl
     refine R_nil (tr ..) ?_; clear tr
     refine blk_n ?_
     refine then_n ?_
     refine rg rfl ?_
     refine Rq ?_
     refine Rq ?_
     have tr : ∀ a b c d e f g h i j k m n o p q r s t u v w x y z A B C D E F G H : AV, let l := lc_first_ok a b c d e f g h i j k m n o p q r s t u v w x y z A B C D E F; trim ((59,H)::(78,G)::l) l = [(0,a),(1,b),(2,c),(4,d),(5,e),(6,f),(7,g),(8,h),(9,i),(10,j),(11,k),(12,m),(13,n),(15,o),(16,p),(17,q),(18,r),(26,s),(30,t),(31,u),(32,v),(33,w),(39,x),(58,y),(59,H),(60,A),(79,B),(89,C),(90,D),(91,E),(100,F)] := by intros; rfl
     refine R_nil (tr ..) ?_; clear tr
     refine then_n ?_
     exact ⟨_, _, ⟨i + 1, _, _, _, rfl, rfl, by rfl, by omega, by first | exact full_on hf (by assumption) | exact full_off hf (by assumption)⟩, by rfl, by omega⟩
    ·
     try simp only [decide_eq_true_eq, decide_eq_false_iff_not, Bool.not_eq_true', Bool.not_eq_false', beq_iff_eq, beq_eq_false_iff_ne, ne_eq] at h5
     refine Qn ?_
     refine Qn ?_
     refine Qn ?_
     refine Qn ?_
     refine Qn ?_
     refine Qn ?_
     refine Qn ?_
     refine Qn ?_
     refine Qn ?_
     refine Qn ?_
     refine Qn ?_
     refine Qn ?_
     refine Qn ?_
     refine Qq ?_
     refine Qq ?_
     refine Q_nil ?_
     have tr : ∀ a b c d e f g h i j k m n o p q r s t u v w x y z A B C D E F G H I J K L M N O P Q R S T U V W : AV, let l := lc_first_ok a b c d e f g h i j k m n o p q r s t u v w x y z A B C D E F; trim ((15,W)::(77,V)::(76,U)::(75,T)::(74,S)::(73,R)::(72,Q)::(71,P)::(70,O)::(69,N)::(68,M)::(67,L)::(66,K)::(65,J)::(64,I)::(63,H)::(62,G)::l) l = [(0,a),(1,b),(2,c),(4,d),(5,e),(6,f),(7,g),(8,h),(9,i),(10,j),(11,k),(12,m),(13,n),(15,W),(16,p),(17,q),(18,r),(26,s),(30,t),(31,u),(32,v),(33,w),(39,x),(58,y),(59,z),(60,A),(79,B),(89,C),(90,D),(91,E),(100,F)] := by intros; rfl
     refine R_nil (tr ..) ?_; clear tr
     refine blk_n ?_
     refine then_n ?_
     refine rg rfl ?_
     refine Rq ?_
     refine Rq ?_
     have tr : ∀ a b c d e f g h i j k m n o p q r s t u v w x y z A B C D E F G H : AV, let l := lc_first_ok a b c d e f g h i j k m n o p q r s t u v w x y z A B C D E F; trim ((59,H)::(78,G)::l) l = [(0,a),(1,b),(2,c),(4,d),(5,e),(6,f),(7,g),(8,h),(9,i),(10,j),(11,k),(12,m),(13,n),(15,o),(16,p),(17,q),(18,r),(26,s),(30,t),(31,u),(32,v),(33,w),(39,x),(58,y),(59,H),(60,A),(79,B),(89,C),(90,D),(91,E),(100,F)] := by intros; rfl
     refine R_nil (tr ..) ?_; clear tr
     refine then_n ?_
     exact ⟨_, _, ⟨i + 1, _, _, _, rfl, rfl, by rfl, by omega, by first | exact full_on hf (by assumption) | exact full_off hf (by assumption)⟩, by rfl, by omega⟩
   ·
    try simp only [decide_eq_true_eq, decide_eq_false_iff_not, Bool.not_eq_true', Bool.not_eq_false', beq_iff_eq, beq_eq_false_iff_ne, ne_eq] at h4
    refine at_exit rfl ?_
    refine then_x ?_
    refine then_x ?_
    refine blk_x ?_
    refine then_n ?_
    refine at_seq rfl ?_
    refine at_seq rfl ?_
    refine rg rfl ?_
    refine Rq ?_
    have tr : ∀ a b c d e f g h i j k m n o p q r s t u v w x y z A B C D E F G : AV, let l := lc_first_ok a b c d e f g h i j k m n o p q r s t u v w x y z A B C D E F; trim ((79,G)::l) l = [(0,a),(1,b),(2,c),(4,d),(5,e),(6,f),(7,g),(8,h),(9,i),(10,j),(11,k),(12,m),(13,n),(15,o),(16,p),(17,q),(18,r),(26,s),(30,t),(31,u),(32,v),(33,w),(39,x),(58,y),(59,z),(60,A),(79,G),(89,C),(90,D),(91,E),(100,F)] := by intros; rfl
    refine R_nil (tr ..) ?_; clear tr
    refine then_n ?_
    refine cdd (fun h6 => ?_) (fun h6 => ?_)
    ·
     try simp only [decide_eq_true_eq, decide_eq_false_iff_not, Bool.not_eq_true', Bool.not_eq_false', beq_iff_eq, beq_eq_false_iff_ne, ne_eq] at h6
     refine at_seq rfl ?_
     refine rg rfl ?_
     obtain rfl : i = (pQ L t).length := by omega
     have hpos : posB P L (mostS P L t).1 t = true := CU.full.1 (hf.1 (by assumption))
     obtain ⟨fB, fS⟩ := first_y hm0 hq hpos
     refine R_q rfl (by simp (disch := first | omega | (simp only [List.length_map, List.length_append, List.length_set, List.length_cons, List.length_nil]; omega)) only [go_sem, ↓reduceIte, Nat.reduceEqDiff, reduceCtorEq, q0, q4, qg, qv, hfe, hce, hst] <;> rfl) ?_
     refine Rq ?_
     refine Rq ?_
     refine Rq ?_
     refine Rcall ?_
     refine ACall_eq (results_ok _ _ P L t f g t0 t1 (by omega) (by omega) (fun i hi => (hfr i hi).2)) ?_
     refine R_q rfl (by simp (disch := first | omega | (simp only [List.length_map, List.length_append, List.length_set, List.length_cons, List.length_nil]; omega)) only [go_sem, ↓reduceIte, Nat.reduceEqDiff, reduceCtorEq, q0, q4, qg, qv, hfe, hce, hst]; exact bld46rs _ _ _) ?_
     have lq0 := hget_lt q0
     have lq4 := hget_lt q4
     have lqg := hget_lt qg
     refine A_store ty46 (by simp (disch := first | omega | (simp only [List.length_map, List.length_append, List.length_set, List.length_cons, List.length_nil]; omega)) only [go_sem, ↓reduceIte, Nat.reduceEqDiff, reduceCtorEq, q0, q4, qg, qv, hfe, hce, hst] <;> rfl) (by simp (disch := first | omega | (simp only [List.length_map, List.length_append, List.length_set, List.length_cons, List.length_nil]; omega)) only [go_sem, ↓reduceIte, Nat.reduceEqDiff, reduceCtorEq, q0, q4, qg, qv, hfe, hce, hst] <;> rfl) q4 ⟨by omega, rfl, by first | exact Nat.le_refl _ | simp⟩ (show _ = [.v (.bool true), nilP, intsAV _] from rfl) ?_
     intro HZc wzc
     have ewzc := wzc.len
     have q0 := (wzc.old _ (by omega)).trans q0
     have qg := (wzc.old _ (by omega)).trans qg
     have q4 := wzc.new
     refine Rq ?_
     have tr : ∀ a b c d e f g h i j k m n o p q r s t u v w x y z A B C D E F G H I J K L M : AV, let l := lc_first_ok a b c d e f g h i j k m n o p q r s t u v w x y z A B C D E F; trim ((5,M)::(85,L)::(84,K)::(83,J)::(82,I)::(81,H)::(80,G)::l) l = [(0,a),(1,b),(2,c),(4,d),(5,M),(6,f),(7,g),(8,h),(9,i),(10,j),(11,k),(12,m),(13,n),(15,o),(16,p),(17,q),(18,r),(26,s),(30,t),(31,u),(32,v),(33,w),(39,x),(58,y),(59,z),(60,A),(79,B),(89,C),(90,D),(91,E),(100,F)] := by intros; rfl
     refine R_nil (tr ..) ?_; clear tr
     refine then_n ?_
     refine at_ret rfl ?_
     refine then_r ?_
     refine fin_pure (rs := [.cell 4 46, .tmp 5]) rfl (by simp only [go_sem, ↓reduceIte, Nat.reduceEqDiff, q4]; rfl) rfl ?_
     refine ⟨⟨_, _, ?_, .inr ⟨fB, rfl, vr_of g t0 t1 hme CU hpos⟩⟩, rfl⟩
     rw [fB, fS]
     show AV.tup [AV.agg [_, _, AV.sl _ (List.map (frz HZc H.length 5) _)], _] = _
     rw [frz_ints, hm0]
     rfl
    ·
     try simp only [decide_eq_true_eq, decide_eq_false_iff_not, Bool.not_eq_true', Bool.not_eq_false', beq_iff_eq, beq_eq_false_iff_ne, ne_eq] at h6
     refine at_skip rfl ?_
     refine then_n ?_
     refine at_seq rfl ?_
     refine rg rfl ?_
     obtain rfl : i = (pQ L t).length := by omega
     have hneg : posB P L (mostS P L t).1 t = false := by
       cases hpb : posB P L (mostS P L t).1 t with
       | false => rfl
       | true => have h7 := hf.2 (CU.full.2 hpb); simp_all
     obtain ⟨fB, fS⟩ := first_n hm0 hq hneg
     obtain ⟨hdf, kT, hkT, hkI⟩ := CU.elim hneg
     refine Rq ?_
     refine A_alloc rfl ?_
     intro H6 n6
     have en6 := n6.len
     have q0 := (n6.old _ (hget_lt q0)).trans q0
     have q4 := (n6.old _ (hget_lt q4)).trans q4
     have qg := (n6.old _ (hget_lt qg)).trans qg
     have qv := n6.new
     have lq0 := hget_lt q0
     have lq4 := hget_lt q4
     have lqg := hget_lt qg
     have lqv := hget_lt qv
     refine A_store ty46 (by simp (disch := first | omega | (simp only [List.length_map, List.length_append, List.length_set, List.length_cons, List.length_nil]; omega)) only [go_sem, ↓reduceIte, Nat.reduceEqDiff, reduceCtorEq, q0, q4, qg, qv, hfe, hce, hst] <;> rfl) (by simp (disch := first | omega | (simp only [List.length_map, List.length_append, List.length_set, List.length_cons, List.length_nil]; omega)) only [go_sem, ↓reduceIte, Nat.reduceEqDiff, reduceCtorEq, q0, q4, qg, qv, hfe, hce, hst] <;> rfl) qv ⟨by omega, rfl, by first | exact Nat.le_refl _ | simp⟩ (show _ = [.v (.bool false), nilP, nilP] from rfl) ?_
     intro H7 w6
     have ew6 := w6.len
     have q0 := (w6.old _ (by omega)).trans q0
     have q4 := (w6.old _ (by omega)).trans q4
     have qg := (w6.old _ (by omega)).trans qg
     have qv := w6.new
     have tr : ∀ a b c d e f g h i j k m n o p q r s t u v w x y z A B C D E F G H : AV, let l := lc_first_ok a b c d e f g h i j k m n o p q r s t u v w x y z A B C D E F; trim ((17,H)::(86,G)::l) l = [(0,a),(1,b),(2,c),(4,d),(5,e),(6,f),(7,g),(8,h),(9,i),(10,j),(11,k),(12,m),(13,n),(15,o),(16,p),(17,H),(18,r),(26,s),(30,t),(31,u),(32,v),(33,w),(39,x),(58,y),(59,z),(60,A),(79,B),(89,C),(90,D),(91,E),(100,F)] := by intros; rfl
     refine R_nil (tr ..) ?_; clear tr
     refine then_n ?_
     refine at_seq rfl ?_
     refine at_seq rfl ?_
     refine rg rfl ?_
     refine Rq ?_
     refine R_q rfl (by simp (disch := first | omega | (simp only [List.length_map, List.length_append, List.length_set, List.length_cons, List.length_nil]; omega)) only [go_sem, ↓reduceIte, Nat.reduceEqDiff, reduceCtorEq, q0, q4, qg, qv, hfe, hce, hst] <;> rfl) ?_
     refine Rq ?_
     refine Rq ?_
     have tr : ∀ a b c d e f g h i j k m n o p q r s t u v w x y z A B C D E F G H I J : AV, let l := lc_first_ok a b c d e f g h i j k m n o p q r s t u v w x y z A B C D E F; trim ((90,J)::(89,I)::(88,H)::(87,G)::l) l = [(0,a),(1,b),(2,c),(4,d),(5,e),(6,f),(7,g),(8,h),(9,i),(10,j),(11,k),(12,m),(13,n),(15,o),(16,p),(17,q),(18,r),(26,s),(30,t),(31,u),(32,v),(33,w),(39,x),(58,y),(59,z),(60,A),(79,B),(89,I),(90,J),(91,E),(100,F)] := by intros; rfl
     refine R_nil (tr ..) ?_; clear tr
     refine then_n ?_
     refine at_block rfl ?_
     refine loop_n rfl (fun mm kv H' => ∃ j : Nat, ∃ oS : AV, ∃ x18 x91 x100 : AV, (kv = [(18, x18), (90, AV.i j), (91, x91), (100, x100)]) ∧ (mm = P.length - j) ∧ (hget H' H.length = some (raceC P L)) ∧ (hget H' H1.length = some [.v (.bool false), nilP, nilP]) ∧ (hget H' H2.length = some (graphC (2 + ((pQ L t).length : Int) + (P.length : Int)) 0 1 E)) ∧ (hget H' H5.length = some [.v (.bool false), oS, nilP]) ∧ (H7.length ≤ H'.length) ∧ (j ≤ P.length) ∧ (OutI H7.length H' oS (setN P L (mostS P L t).1 t j))) ⟨0, nilP, _, _, _, rfl, rfl, by exact q0, by exact q4, by exact qg, by exact qv, by exact Nat.le_refl _, by omega, by exact .inl ⟨rfl, rfl⟩⟩ (by rfl) ?_
     rintro mm kv HB ⟨j, oS, x18, x91, x100, rfl, rfl, q0, q4, qg, qv, hHB, hj, hO⟩
     have tr : ∀ a b c d e f g h i j k m n o p q r s t u v w x y z A B C D E F G H I J : AV, upd [(0,a),(1,b),(2,c),(4,d),(5,e),(6,f),(7,g),(8,h),(9,i),(10,j),(11,k),(12,m),(13,n),(15,o),(16,p),(17,q),(18,r),(26,s),(30,t),(31,u),(32,v),(33,w),(39,x),(58,y),(59,z),(60,A),(79,B),(89,C),(90,D),(91,E),(100,F)] [(18,G),(90,H),(91,I),(100,J)] = [(0,a),(1,b),(2,c),(4,d),(5,e),(6,f),(7,g),(8,h),(9,i),(10,j),(11,k),(12,m),(13,n),(15,o),(16,p),(17,q),(18,G),(26,s),(30,t),(31,u),(32,v),(33,w),(39,x),(58,y),(59,z),(60,A),(79,B),(89,C),(90,H),(91,I),(100,J)] := by intros; rfl
     refine W_to (tr ..) ?_; clear tr
     refine at_seq rfl ?_
     refine rg rfl ?_
     refine Rq ?_
     have tr : ∀ a b c d e f g h i j k m n o p q r s t u v w x y z A B C D E F G : AV, let l := lc_first_ok a b c d e f g h i j k m n o p q r s t u v w x y z A B C D E F; trim ((91,G)::l) l = [(0,a),(1,b),(2,c),(4,d),(5,e),(6,f),(7,g),(8,h),(9,i),(10,j),(11,k),(12,m),(13,n),(15,o),(16,p),(17,q),(18,r),(26,s),(30,t),(31,u),(32,v),(33,w),(39,x),(58,y),(59,z),(60,A),(79,B),(89,C),(90,D),(91,G),(100,F)] := by intros; rfl
     refine R_nil (tr ..) ?_; clear tr
     refine then_n ?_
     refine at_seq rfl ?_
     refine cdd (fun h7 => ?_) (fun h7 => ?_)
     ·
      try simp only [decide_eq_true_eq, decide_eq_false_iff_not, Bool.not_eq_true', Bool.not_eq_false', beq_iff_eq, beq_eq_false_iff_ne, ne_eq] at h7
      refine at_skip rfl ?_
      refine then_n ?_
      refine at_seq rfl ?_
      refine at_block rfl ?_
      refine at_seq rfl ?_
      refine rg rfl ?_
      have hsj := setN_len P L (mostS P L t).1 t j
      refine Rq ?_
      refine Rq ?_
      have tr : ∀ a b c d e f g h i j k m n o p q r s t u v w x y z A B C D E F G H : AV, let l := lc_first_ok a b c d e f g h i j k m n o p q r s t u v w x y z A B C D E F; trim ((18,H)::(92,G)::l) l = [(0,a),(1,b),(2,c),(4,d),(5,e),(6,f),(7,g),(8,h),(9,i),(10,j),(11,k),(12,m),(13,n),(15,o),(16,p),(17,q),(18,H),(26,s),(30,t),(31,u),(32,v),(33,w),(39,x),(58,y),(59,z),(60,A),(79,B),(89,C),(90,D),(91,E),(100,F)] := by intros; rfl
      refine R_nil (tr ..) ?_; clear tr
      refine then_n ?_
      refine at_seq rfl ?_
      refine rg rfl ?_
      have hst : gt sn (2 + ((pQ L t).length : Int) + (j : Int)).toNat = inT P L (mostS P L t).1 t j := by
        have h7 := CU.set j (by omega)
        rwa [show (2 + ((pQ L t).length : Int)).toNat + j = (2 + ((pQ L t).length : Int) + (j : Int)).toNat by omega] at h7
      refine Rq ?_
      refine Rq ?_
      refine R_q rfl (by simp (disch := first | omega | (simp only [List.length_map, List.length_append, List.length_set, List.length_cons, List.length_nil]; omega)) only [go_sem, ↓reduceIte, Nat.reduceEqDiff, reduceCtorEq, q0, q4, qg, qv, hfe, hce, hst]; exact pairsA_len _) ?_
      refine Rq ?_
      refine Rq ?_
      refine Rq ?_
      refine Rq ?_
      refine R_q rfl (by simp (disch := first | omega | (simp only [List.length_map, List.length_append, List.length_set, List.length_cons, List.length_nil]; omega)) only [go_sem, ↓reduceIte, Nat.reduceEqDiff, reduceCtorEq, q0, q4, qg, qv, hfe, hce, hst] <;> rfl) ?_
      have tr : ∀ a b c d e f g h i j k m n o p q r s t u v w x y z A B C D E F G H I J K L M N : AV, let l := lc_first_ok a b c d e f g h i j k m n o p q r s t u v w x y z A B C D E F; trim ((100,N)::(99,M)::(98,L)::(97,K)::(96,J)::(95,I)::(94,H)::(93,G)::l) l = [(0,a),(1,b),(2,c),(4,d),(5,e),(6,f),(7,g),(8,h),(9,i),(10,j),(11,k),(12,m),(13,n),(15,o),(16,p),(17,q),(18,r),(26,s),(30,t),(31,u),(32,v),(33,w),(39,x),(58,y),(59,z),(60,A),(79,B),(89,C),(90,D),(91,E),(100,N)] := by intros; rfl
      refine R_nil (tr ..) ?_; clear tr
      refine then_n ?_
      refine cdd (fun h8 => ?_) (fun h8 => ?_)
      ·
       try simp only [decide_eq_true_eq, decide_eq_false_iff_not, Bool.not_eq_true', Bool.not_eq_false', beq_iff_eq, beq_eq_false_iff_ne, ne_eq] at h8
       refine rg rfl ?_
       refine Rq ?_
       refine R_q rfl (by simp (disch := first | omega | (simp only [List.length_map, List.length_append, List.length_set, List.length_cons, List.length_nil]; omega)) only [go_sem, ↓reduceIte, Nat.reduceEqDiff, reduceCtorEq, q0, q4, qg, qv, hfe, hce, hst] <;> rfl) ?_
       refine Rq ?_
       refine A_buildSlice (bs40' _ _ _ _ (j : Int) (by simp (disch := first | omega | (simp only [List.length_map, List.length_append, List.length_set, List.length_cons, List.length_nil]; omega)) only [go_sem, ↓reduceIte, Nat.reduceEqDiff, reduceCtorEq, q0, q4, qg, qv, hfe, hce, hst])) ?_
       intro HE n8
       have en8 := n8.len
       have q0 := (n8.old _ (hget_lt q0)).trans q0
       have q4 := (n8.old _ (hget_lt q4)).trans q4
       have qg := (n8.old _ (hget_lt qg)).trans qg
       have qv := (n8.old _ (hget_lt qv)).trans qv
       have qn := n8.new
       have hO := hO.mono fun b hb k hk => (n8.old _ (hget_lt hk)).trans hk
       have lq0 := hget_lt q0
       have lq4 := hget_lt q4
       have lqg := hget_lt qg
       have lqv := hget_lt qv
       obtain ⟨b, hbl, hbl2, hap⟩ := outI_append' (lim := H.length) hO qn (by omega) (by omega) (by omega)
       refine A_append (by simp (disch := first | omega | (simp only [List.length_map, List.length_append, List.length_set, List.length_cons, List.length_nil]; omega)) only [go_sem, ↓reduceIte, Nat.reduceEqDiff, reduceCtorEq, q0, q4, qg, qv, hfe, hce, hst]; exact hap) ?_
       intro HF g8
       have eg8 := g8.len
       have q0 := (g8.old _ (by omega) lq0).trans q0
       have q4 := (g8.old _ (by omega) lq4).trans q4
       have qg := (g8.old _ (by omega) lqg).trans qg
       have qv := (g8.old _ (by omega) lqv).trans qv
       have qq := g8.new
       have hO := inT_new (lo := H7.length) g8 (by omega) (by assumption) rfl
       refine Rq ?_
       have lq0 := hget_lt q0
       have lq4 := hget_lt q4
       have lqg := hget_lt qg
       have lqv := hget_lt qv
       refine A_store ty40 (by simp (disch := first | omega | (simp only [List.length_map, List.length_append, List.length_set, List.length_cons, List.length_nil]; omega)) only [go_sem, ↓reduceIte, Nat.reduceEqDiff, reduceCtorEq, q0, q4, qg, qv, hfe, hce, hst] <;> rfl) (by simp (disch := first | omega | (simp only [List.length_map, List.length_append, List.length_set, List.length_cons, List.length_nil]; omega)) only [go_sem, ↓reduceIte, Nat.reduceEqDiff, reduceCtorEq, q0, q4, qg, qv, hfe, hce, hst] <;> rfl) qv ⟨by omega, rfl, by first | exact Nat.le_refl _ | simp⟩ (show _ = [.v (.bool false), (.own 1 HE.length 0 ((setN P L (mostS P L t).1 t j).length + 1)), nilP] from rfl) ?_
       intro HJ w8
       have ew8 := w8.len
       have q0 := (w8.old _ (by omega)).trans q0
       have q4 := (w8.old _ (by omega)).trans q4
       have qg := (w8.old _ (by omega)).trans qg
       have qv := w8.new
       have hO := hO.mono fun b hb k hk => (w8.old _ (by omega)).trans hk
       have tr : ∀ a b c d e f g h i j k m n o p q r s t u v w x y z A B C D E F G H I J K L : AV, let l := lc_first_ok a b c d e f g h i j k m n o p q r s t u v w x y z A B C D E F; trim ((106,L)::(105,K)::(104,J)::(103,I)::(102,H)::(101,G)::l) l = [(0,a),(1,b),(2,c),(4,d),(5,e),(6,f),(7,g),(8,h),(9,i),(10,j),(11,k),(12,m),(13,n),(15,o),(16,p),(17,q),(18,r),(26,s),(30,t),(31,u),(32,v),(33,w),(39,x),(58,y),(59,z),(60,A),(79,B),(89,C),(90,D),(91,E),(100,F)] := by intros; rfl
       refine R_nil (tr ..) ?_; clear tr
       refine blk_n ?_
       refine then_n ?_
       refine rg rfl ?_
       refine Rq ?_
       refine Rq ?_
       have tr : ∀ a b c d e f g h i j k m n o p q r s t u v w x y z A B C D E F G H : AV, let l := lc_first_ok a b c d e f g h i j k m n o p q r s t u v w x y z A B C D E F; trim ((90,H)::(107,G)::l) l = [(0,a),(1,b),(2,c),(4,d),(5,e),(6,f),(7,g),(8,h),(9,i),(10,j),(11,k),(12,m),(13,n),(15,o),(16,p),(17,q),(18,r),(26,s),(30,t),(31,u),(32,v),(33,w),(39,x),(58,y),(59,z),(60,A),(79,B),(89,C),(90,H),(91,E),(100,F)] := by intros; rfl
       refine R_nil (tr ..) ?_; clear tr
       refine then_n ?_
       exact ⟨_, _, ⟨j + 1, (.own 1 HE.length 0 ((setN P L (mostS P L t).1 t j).length + 1)), _, _, _, rfl, rfl, by exact q0, by exact q4, by exact qg, by exact qv, by first | (show H7.length ≤ HJ.length; omega) | (show H7.length ≤ HB.length; omega), by omega, by first | exact hO | exact inT_old hO (by first | assumption | exact in_not CU.not t0 (by omega))⟩, by rfl, by omega⟩
      ·
       try simp only [decide_eq_true_eq, decide_eq_false_iff_not, Bool.not_eq_true', Bool.not_eq_false', beq_iff_eq, beq_eq_false_iff_ne, ne_eq] at h8
       refine at_skip rfl ?_
       refine blk_n ?_
       refine then_n ?_
       refine rg rfl ?_
       refine Rq ?_
       refine Rq ?_
       have tr : ∀ a b c d e f g h i j k m n o p q r s t u v w x y z A B C D E F G H : AV, let l := lc_first_ok a b c d e f g h i j k m n o p q r s t u v w x y z A B C D E F; trim ((90,H)::(107,G)::l) l = [(0,a),(1,b),(2,c),(4,d),(5,e),(6,f),(7,g),(8,h),(9,i),(10,j),(11,k),(12,m),(13,n),(15,o),(16,p),(17,q),(18,r),(26,s),(30,t),(31,u),(32,v),(33,w),(39,x),(58,y),(59,z),(60,A),(79,B),(89,C),(90,H),(91,E),(100,F)] := by intros; rfl
       refine R_nil (tr ..) ?_; clear tr
       refine then_n ?_
       exact ⟨_, _, ⟨j + 1, oS, _, _, _, rfl, rfl, by exact q0, by exact q4, by exact qg, by exact qv, by first | (show H7.length ≤ HJ.length; omega) | (show H7.length ≤ HB.length; omega), by omega, by first | exact hO | exact inT_old hO (by first | assumption | exact in_not CU.not t0 (by omega))⟩, by rfl, by omega⟩
     ·
      try simp only [decide_eq_true_eq, decide_eq_false_iff_not, Bool.not_eq_true', Bool.not_eq_false', beq_iff_eq, beq_eq_false_iff_ne, ne_eq] at h7
      refine at_exit rfl ?_
      refine then_x ?_
      refine then_x ?_
      refine blk_x ?_
      refine then_n ?_
      refine at_seq rfl ?_
      refine rg rfl ?_
      obtain rfl : j = P.length := by omega
      obtain ⟨hO7, bS, rfl, hbS, qS⟩ := hO.resolve_left (fun hh => set_ne CU.not t0 hkT hkI hh.1)
      refine R_q rfl (by simp (disch := first | omega | (simp only [List.length_map, List.length_append, List.length_set, List.length_cons, List.length_nil]; omega)) only [go_sem, ↓reduceIte, Nat.reduceEqDiff, reduceCtorEq, q0, q4, qg, qv, hfe, hce, hst] <;> rfl) ?_
      have lq0 := hget_lt q0
      have lq4 := hget_lt q4
      have lqg := hget_lt qg
      refine A_store ty46 (by simp (disch := first | omega | (simp only [List.length_map, List.length_append, List.length_set, List.length_cons, List.length_nil]; omega)) only [go_sem, ↓reduceIte, Nat.reduceEqDiff, reduceCtorEq, q0, q4, qg, qv, hfe, hce, hst] <;> rfl) (by simp (disch := first | omega | (simp only [List.length_map, List.length_append, List.length_set, List.length_cons, List.length_nil]; omega)) only [go_sem, ↓reduceIte, Nat.reduceEqDiff, reduceCtorEq, q0, q4, qg, qv, hfe, hce, hst] <;> rfl) q4 ⟨by omega, rfl, by first | exact Nat.le_refl _ | simp⟩ (show _ = [.v (.bool false), .own 1 bS 0 (setN P L (mostS P L t).1 t P.length).length, nilP] from rfl) ?_
      intro HZd wzd
      have ewzd := wzd.len
      have q0 := (wzd.old _ (by omega)).trans q0
      have qg := (wzd.old _ (by omega)).trans qg
      have q4 := wzd.new
      have hO := hO.mono fun b hb k hk => (wzd.old _ (by omega)).trans hk
      refine Rq ?_
      have tr : ∀ a b c d e f g h i j k m n o p q r s t u v w x y z A B C D E F G H : AV, let l := lc_first_ok a b c d e f g h i j k m n o p q r s t u v w x y z A B C D E F; trim ((5,H)::(108,G)::l) l = [(0,a),(1,b),(2,c),(4,d),(5,H),(6,f),(7,g),(8,h),(9,i),(10,j),(11,k),(12,m),(13,n),(15,o),(16,p),(17,q),(18,r),(26,s),(30,t),(31,u),(32,v),(33,w),(39,x),(58,y),(59,z),(60,A),(79,B),(89,C),(90,D),(91,E),(100,F)] := by intros; rfl
      refine R_nil (tr ..) ?_; clear tr
      refine then_n ?_
      refine at_ret rfl ?_
      refine fin_pure (rs := [.cell 4 46, .tmp 5]) rfl (by simp only [go_sem, ↓reduceIte, Nat.reduceEqDiff, q4]; rfl) rfl ?_
      refine ⟨⟨[], nilP, ?_, .inl ⟨fB, rfl, rfl⟩⟩, rfl⟩
      rw [fB, fS]
      show AV.tup [AV.agg [_, frz HZd H.length 6 _, _], _] = _
      rw [(hO.lo (by omega : H.length ≤ H7.length)).frz, hm0]
      rfl

end Go.Proofs.Ytdicnojnkbmdlaa
end
