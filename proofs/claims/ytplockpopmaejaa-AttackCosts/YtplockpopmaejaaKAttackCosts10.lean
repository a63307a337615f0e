/-
  Texts of AttackCosts, part 11 of 17. Walks of chapters 46, 43 and 42. The steps are written by program (walk.py).
-/
import Derived.Test.YtplockpopmaejaaKAttackCosts5
import Derived.Test.YtplockpopmaejaaKAttackCosts6
import Derived.Test.YtplockpopmaejaaKAttackCosts8
import Derived.Test.YtplockpopmaejaaKAttackCosts9
section
set_option linter.unusedSimpArgs false
set_option linter.unusedVariables false
set_option maxHeartbeats 40000000
set_option maxRecDepth 4000
namespace Go.Proofs.Ytplockpopmaejaa
open Go Go.Am

abbrev lc_harder_ok (a b c d e f g : AV) : Env := [(0,a),(1,b),(4,c),(5,d),(7,e),(16,f),(29,g)]
theorem harder_ok (lim : Nat) (H : Heap) (w : List Int) (b : Nat) (k : Int) (hb : hget H b = some (wC w)) (hlim : lim ≤ b) (g : Gd w) :
    ACall sig lim 39 [.ptr b 0, AV.i k] H fun r H' => r = .v (.bool (decide (topR w 7 ≠ 0))) ∧ hget H' b = some (wC (hardW w k)) ∧ H'.length = H.length ∧ ∀ c, c ≠ b → hget H' c = hget H c := by
 have hb1 : True := trivial
 have gl1 : True := trivial
 have gl := g.len
 refine ACall_own (fa := fa39) rfl rfl rfl rfl ?_
 have tr : ∀ a0 a1 : AV, env0 fa39.keep [a0, a1] = [(0,a0),(1,a1),(4,.any),(5,.any),(7,.any),(16,.any),(29,.any)] := fun a0 a1 => rfl
 refine W_to (tr _ _) ?_; clear tr
 refine at_seq rfl ?_
 refine rg rfl ?_
 refine Rq ?_
 have tr : ∀ a b c d e f g h : AV, let l := lc_harder_ok a b c d e f g; trim ((4,h)::l) l = [(0,a),(1,b),(4,h),(5,d),(7,e),(16,f),(29,g)] := by intros; rfl
 refine R_nil (tr ..) ?_; clear tr
 refine then_n ?_
 refine at_seq rfl ?_
 refine at_seq rfl ?_
 refine rg rfl ?_
 refine Rq ?_
 have tr : ∀ a b c d e f g h : AV, let l := lc_harder_ok a b c d e f g; trim ((5,h)::l) l = [(0,a),(1,b),(4,c),(5,h),(7,e),(16,f),(29,g)] := by intros; rfl
 refine R_nil (tr ..) ?_; clear tr
 refine then_n ?_
 refine at_block rfl ?_
 refine loop_n rfl (fun mm kv H' => ∃ r : Int, ∃ x4 x7 x16 x29 : AV, (kv = [(4, x4), (5, AV.i r), (7, x7), (16, x16), (29, x29)]) ∧ (mm = r.toNat) ∧ (H = H') ∧ (0 ≤ r) ∧ (r ≤ 7) ∧ (topR w r.toNat = topR w 7)) ⟨7, _, _, _, _, rfl, rfl, by rfl, by omega, by omega, by rfl⟩ (by rfl) ?_
 rintro mm kv HL ⟨r, x4, x7, x16, x29, rfl, rfl, hHL, hr0, hr7, htr⟩
 have tr : ∀ a b c d e f g h i j k m : AV, upd [(0,a),(1,b),(4,c),(5,d),(7,e),(16,f),(29,g)] [(4,h),(5,i),(7,j),(16,k),(29,m)] = [(0,a),(1,b),(4,h),(5,i),(7,j),(16,k),(29,m)] := by intros; rfl
 refine W_to (tr ..) ?_; clear tr
 subst hHL
 refine at_seq rfl ?_
 refine at_seq rfl ?_
 refine rg rfl ?_
 refine Rq ?_
 refine Rq ?_
 have tr : ∀ a b c d e f g h i : AV, let l := lc_harder_ok a b c d e f g; trim ((7,i)::(6,h)::l) l = [(0,a),(1,b),(4,c),(5,d),(7,i),(16,f),(29,g)] := by intros; rfl
 refine R_nil (tr ..) ?_; clear tr
 refine then_n ?_
 refine cdd (fun h1 => ?_) (fun h1 => ?_)
 ·
  try simp only [decide_eq_true_eq, decide_eq_false_iff_not, Bool.not_eq_true', Bool.not_eq_false', beq_iff_eq, beq_eq_false_iff_ne, ne_eq] at h1
  refine at_skip rfl ?_
  refine then_n ?_
  refine at_seq rfl ?_
  refine at_block rfl ?_
  refine at_seq rfl ?_
  refine at_seq rfl ?_
  refine rg rfl ?_
  refine Rq ?_
  refine Rq ?_
  refine Rq ?_
  refine Rq ?_
  refine Rq ?_
  refine R_q (r := AV.i (gt w r.toNat)) rfl (by simp (disch := first | omega | (simp only [List.length_map, List.length_append, List.length_set, List.length_cons, List.length_nil]; omega)) only [go_sem, ↓reduceIte, Nat.reduceEqDiff, reduceCtorEq, hb] <;> first | rfl | exact wC_at w _ (by omega)) ?_
  refine Rq ?_
  have tr : ∀ a b c d e f g h i j k m n o : AV, let l := lc_harder_ok a b c d e f g; trim ((16,o)::(15,n)::(14,m)::(13,k)::(12,j)::(11,i)::(10,h)::l) l = [(0,a),(1,b),(4,c),(5,d),(7,e),(16,o),(29,g)] := by intros; rfl
  refine R_nil (tr ..) ?_; clear tr
  refine then_n ?_
  refine cdd (fun h2 => ?_) (fun h2 => ?_)
  ·
   try simp only [decide_eq_true_eq, decide_eq_false_iff_not, Bool.not_eq_true', Bool.not_eq_false', beq_iff_eq, beq_eq_false_iff_ne, ne_eq] at h2
   refine at_exit rfl ?_
   refine then_x ?_
   refine blk_x ?_
   refine then_n ?_
   refine rg rfl ?_
   refine Rq ?_
   refine Rq ?_
   refine Rq ?_
   have tr : ∀ a b c d e f g h i j : AV, let l := lc_harder_ok a b c d e f g; trim ((5,j)::(9,i)::(8,h)::l) l = [(0,a),(1,b),(4,c),(5,j),(7,e),(16,f),(29,g)] := by intros; rfl
   refine R_nil (tr ..) ?_; clear tr
   refine then_n ?_
   exact ⟨_, _, ⟨r - 1, _, _, _, _, rfl, rfl, by rfl, by omega, by omega, by rw [← htr]; exact topR_down (by omega) (by assumption)⟩, by rfl, by omega⟩
  ·
   try simp only [decide_eq_true_eq, decide_eq_false_iff_not, Bool.not_eq_true', Bool.not_eq_false', beq_iff_eq, beq_eq_false_iff_ne, ne_eq] at h2
   refine at_skip rfl ?_
   refine then_n ?_
   refine at_seq rfl ?_
   refine rd rfl rfl ?_
   refine Qq ?_
   refine Qq ?_
   refine Qq ?_
   refine Qq ?_
   refine Qq ?_
   have gb := g.le (i := r.toNat) (by omega)
   refine Q_q (r := AV.i (gt w r.toNat)) rfl (by simp (disch := first | omega | (simp only [List.length_map, List.length_append, List.length_set, List.length_cons, List.length_nil]; omega)) only [go_sem, ↓reduceIte, Nat.reduceEqDiff, reduceCtorEq, hb] <;> first | rfl | exact wC_at w _ (by omega)) ?_
   refine Qq ?_
   refine Qq ?_
   refine Qq ?_
   refine Qq ?_
   refine Q_nil ?_
   have lhb := hget_lt hb
   refine A_store ty2 (by simp (disch := first | omega | (simp only [List.length_map, List.length_append, List.length_set, List.length_cons, List.length_nil]; omega)) only [go_sem, ↓reduceIte, Nat.reduceEqDiff, reduceCtorEq, hb] <;> rfl) (by simp (disch := first | omega | (simp only [List.length_map, List.length_append, List.length_set, List.length_cons, List.length_nil]; omega)) only [go_sem, ↓reduceIte, Nat.reduceEqDiff, reduceCtorEq, hb] <;> rfl) hb ⟨by omega, rfl, by simp only [List.length_map, List.length_set, g.len, gl1]; first | omega | decide⟩ (k' := wC (w.set r.toNat (gt w r.toNat - 1))) (by first | exact setW _ _ _ | (rw [Nat.zero_add]; exact setW _ _ _)) ?_
   intro H1 w1
   have ew1 := w1.len
   have hb1 := w1.new
   have hold1 := w1.old
   have gl1 : (w.set r.toNat (gt w r.toNat - 1)).length = 16 := by rw [List.length_set, g.len]
   have t7 : topR w 7 = r.toNat := by rw [← htr]; exact topR_at (by omega) (by assumption)
   have tr : ∀ a b c d e f g h i j k m n o p q r : AV, let l := lc_harder_ok a b c d e f g; trim ((26,r)::(25,q)::(24,p)::(23,o)::(22,n)::(21,m)::(20,k)::(19,j)::(18,i)::(17,h)::l) l = [(0,a),(1,b),(4,c),(5,d),(7,e),(16,f),(29,g)] := by intros; rfl
   refine R_nil (tr ..) ?_; clear tr
   refine then_n ?_
   refine at_seq rfl ?_
   refine at_seq rfl ?_
   refine rg rfl ?_
   refine Rq ?_
   refine Rq ?_
   refine Rq ?_
   have tr : ∀ a b c d e f g h i j : AV, let l := lc_harder_ok a b c d e f g; trim ((29,j)::(28,i)::(27,h)::l) l = [(0,a),(1,b),(4,c),(5,d),(7,e),(16,f),(29,j)] := by intros; rfl
   refine R_nil (tr ..) ?_; clear tr
   refine then_n ?_
   refine cdd (fun h3 => ?_) (fun h3 => ?_)
   ·
    try simp only [decide_eq_true_eq, decide_eq_false_iff_not, Bool.not_eq_true', Bool.not_eq_false', beq_iff_eq, beq_eq_false_iff_ne, ne_eq] at h3
    refine rd rfl rfl ?_
    refine Qq ?_
    refine Qq ?_
    refine Qq ?_
    refine Qq ?_
    have g0 := g.le (i := 0) (by omega)
    refine Q_q (r := AV.i (gt w 0)) rfl (by simp (disch := first | omega | (simp only [List.length_map, List.length_append, List.length_set, List.length_cons, List.length_nil]; omega)) only [go_sem, ↓reduceIte, Nat.reduceEqDiff, reduceCtorEq, hb1] <;> first | exact wC_set_ne w r.toNat 0 _ (by omega) (by omega) | exact congrArg (fun z => some (AV.i z)) (by rw [gt_set _ _ _ _ (by omega), if_neg (by omega)])) ?_
    refine Qq ?_
    refine Qq ?_
    refine Qq ?_
    refine Qq ?_
    refine Q_nil ?_
    have lhb1 := hget_lt hb1
    refine A_store ty2 (by simp (disch := first | omega | (simp only [List.length_map, List.length_append, List.length_set, List.length_cons, List.length_nil]; omega)) only [go_sem, ↓reduceIte, Nat.reduceEqDiff, reduceCtorEq, hb1] <;> rfl) (by simp (disch := first | omega | (simp only [List.length_map, List.length_append, List.length_set, List.length_cons, List.length_nil]; omega)) only [go_sem, ↓reduceIte, Nat.reduceEqDiff, reduceCtorEq, hb1] <;> rfl) hb1 ⟨by omega, rfl, by simp only [List.length_map, List.length_set, g.len, gl1]; first | omega | decide⟩ (k' := wC (hardW w k)) (by first | exact (setW _ _ _).trans (by rw [hard_is (k := k) (o := 0) t7 (by omega) (by omega) (if_pos (by assumption)) gl]) | (rw [Nat.zero_add]; exact (setW _ _ _).trans (by rw [hard_is (k := k) (o := 0) t7 (by omega) (by omega) (if_pos (by assumption)) gl]))) ?_
    intro H2 w2
    have ew2 := w2.len
    have hb2 := w2.new
    have hold2 := w2.old
    have tr : ∀ a b c d e f g h i j k m n o p q : AV, let l := lc_harder_ok a b c d e f g; trim ((38,q)::(37,p)::(36,o)::(35,n)::(34,m)::(33,k)::(32,j)::(31,i)::(30,h)::l) l = [(0,a),(1,b),(4,c),(5,d),(7,e),(16,f),(29,g)] := by intros; rfl
    refine R_nil (tr ..) ?_; clear tr
    refine then_n ?_
    refine at_seq rfl ?_
    refine rg rfl ?_
    refine Rq ?_
    have tr : ∀ a b c d e f g h : AV, let l := lc_harder_ok a b c d e f g; trim ((4,h)::l) l = [(0,a),(1,b),(4,h),(5,d),(7,e),(16,f),(29,g)] := by intros; rfl
    refine R_nil (tr ..) ?_; clear tr
    refine then_n ?_
    refine at_ret rfl ?_
    refine blk_r ?_
    refine then_r ?_
    refine then_r ?_
    refine blk_r ?_
    refine then_r ?_
    first | (refine fin_own rfl (by simp only [go_sem, ↓reduceIte, Nat.reduceEqDiff]; rfl) ?_; exact ⟨congrArg (fun z => AV.v (.bool z)) (decide_eq_true (p := topR w 7 ≠ 0) (by omega)).symm, hb2, ew2.trans ew1, fun c hc => (hold2 c hc).trans (hold1 c hc)⟩) | (refine fin_own rfl (by simp only [go_sem, ↓reduceIte, Nat.reduceEqDiff]; rfl) ?_; have t0 : topR w 7 = 0 := (by rw [← htr, show r.toNat = 0 by omega]; rfl); exact ⟨by rw [t0]; rfl, by rw [hardW, if_pos t0]; exact hb, rfl, fun c hc => rfl⟩)
   ·
    try simp only [decide_eq_true_eq, decide_eq_false_iff_not, Bool.not_eq_true', Bool.not_eq_false', beq_iff_eq, beq_eq_false_iff_ne, ne_eq] at h3
    refine rd rfl rfl ?_
    refine Qq ?_
    refine Qq ?_
    refine Qq ?_
    refine Qq ?_
    have g0 := g.le (i := 8) (by omega)
    refine Q_q (r := AV.i (gt w 8)) rfl (by simp (disch := first | omega | (simp only [List.length_map, List.length_append, List.length_set, List.length_cons, List.length_nil]; omega)) only [go_sem, ↓reduceIte, Nat.reduceEqDiff, reduceCtorEq, hb1] <;> first | exact wC_set_ne w r.toNat 8 _ (by omega) (by omega) | exact congrArg (fun z => some (AV.i z)) (by rw [gt_set _ _ _ _ (by omega), if_neg (by omega)])) ?_
    refine Qq ?_
    refine Qq ?_
    refine Qq ?_
    refine Qq ?_
    refine Q_nil ?_
    have lhb1 := hget_lt hb1
    refine A_store ty2 (by simp (disch := first | omega | (simp only [List.length_map, List.length_append, List.length_set, List.length_cons, List.length_nil]; omega)) only [go_sem, ↓reduceIte, Nat.reduceEqDiff, reduceCtorEq, hb1] <;> rfl) (by simp (disch := first | omega | (simp only [List.length_map, List.length_append, List.length_set, List.length_cons, List.length_nil]; omega)) only [go_sem, ↓reduceIte, Nat.reduceEqDiff, reduceCtorEq, hb1] <;> rfl) hb1 ⟨by omega, rfl, by simp only [List.length_map, List.length_set, g.len, gl1]; first | omega | decide⟩ (k' := wC (hardW w k)) (by first | exact (setW _ _ _).trans (by rw [hard_is (k := k) (o := 8) t7 (by omega) (by omega) (if_neg (by assumption)) gl]) | (rw [Nat.zero_add]; exact (setW _ _ _).trans (by rw [hard_is (k := k) (o := 8) t7 (by omega) (by omega) (if_neg (by assumption)) gl]))) ?_
    intro H2 w2
    have ew2 := w2.len
    have hb2 := w2.new
    have hold2 := w2.old
    have tr : ∀ a b c d e f g h i j k m n o p q : AV, let l := lc_harder_ok a b c d e f g; trim ((47,q)::(46,p)::(45,o)::(44,n)::(43,m)::(42,k)::(41,j)::(40,i)::(39,h)::l) l = [(0,a),(1,b),(4,c),(5,d),(7,e),(16,f),(29,g)] := by intros; rfl
    refine R_nil (tr ..) ?_; clear tr
    refine then_n ?_
    refine at_seq rfl ?_
    refine rg rfl ?_
    refine Rq ?_
    have tr : ∀ a b c d e f g h : AV, let l := lc_harder_ok a b c d e f g; trim ((4,h)::l) l = [(0,a),(1,b),(4,h),(5,d),(7,e),(16,f),(29,g)] := by intros; rfl
    refine R_nil (tr ..) ?_; clear tr
    refine then_n ?_
    refine at_ret rfl ?_
    refine blk_r ?_
    refine then_r ?_
    refine then_r ?_
    refine blk_r ?_
    refine then_r ?_
    first | (refine fin_own rfl (by simp only [go_sem, ↓reduceIte, Nat.reduceEqDiff]; rfl) ?_; exact ⟨congrArg (fun z => AV.v (.bool z)) (decide_eq_true (p := topR w 7 ≠ 0) (by omega)).symm, hb2, ew2.trans ew1, fun c hc => (hold2 c hc).trans (hold1 c hc)⟩) | (refine fin_own rfl (by simp only [go_sem, ↓reduceIte, Nat.reduceEqDiff]; rfl) ?_; have t0 : topR w 7 = 0 := (by rw [← htr, show r.toNat = 0 by omega]; rfl); exact ⟨by rw [t0]; rfl, by rw [hardW, if_pos t0]; exact hb, rfl, fun c hc => rfl⟩)
 ·
  try simp only [decide_eq_true_eq, decide_eq_false_iff_not, Bool.not_eq_true', Bool.not_eq_false', beq_iff_eq, beq_eq_false_iff_ne, ne_eq] at h1
  refine at_exit rfl ?_
  refine then_x ?_
  refine then_x ?_
  refine blk_x ?_
  refine then_n ?_
  refine at_seq rfl ?_
  refine rg rfl ?_
  refine Rq ?_
  have tr : ∀ a b c d e f g h : AV, let l := lc_harder_ok a b c d e f g; trim ((4,h)::l) l = [(0,a),(1,b),(4,h),(5,d),(7,e),(16,f),(29,g)] := by intros; rfl
  refine R_nil (tr ..) ?_; clear tr
  refine then_n ?_
  refine at_ret rfl ?_
  first | (refine fin_own rfl (by simp only [go_sem, ↓reduceIte, Nat.reduceEqDiff]; rfl) ?_; exact ⟨congrArg (fun z => AV.v (.bool z)) (decide_eq_true (p := topR w 7 ≠ 0) (by omega)).symm, hb2, ew2.trans ew1, fun c hc => (hold2 c hc).trans (hold1 c hc)⟩) | (refine fin_own rfl (by simp only [go_sem, ↓reduceIte, Nat.reduceEqDiff]; rfl) ?_; have t0 : topR w 7 = 0 := (by rw [← htr, show r.toNat = 0 by omega]; rfl); exact ⟨by rw [t0]; rfl, by rw [hardW, if_pos t0]; exact hb, rfl, fun c hc => rfl⟩)

abbrev lc_easier_ok (a b c d : AV) : Env := [(0,a),(2,b),(3,c),(19,d)]
theorem easier_ok (lim : Nat) (H : Heap) (w : List Int) (b : Nat) (hb : hget H b = some (wC w)) (hlim : lim ≤ b) (g : Gd w) :
    ACall sig lim 40 [.ptr b 0] H fun r H' => r = .v (.bool (decide (0 < gt w 8 ∨ 0 < gt w 0))) ∧ hget H' b = some (wC (easyW w)) ∧ H'.length = H.length ∧ ∀ c, c ≠ b → hget H' c = hget H c := by
 have hb1 : True := trivial
 have ha : True := trivial
 have gl := g.len
 refine ACall_own (fa := fa40) rfl rfl rfl rfl ?_
 have tr : ∀ a0 : AV, env0 fa40.keep [a0] = [(0,a0),(2,.any),(3,.any),(19,.any)] := fun a0 => rfl
 refine W_to (tr _) ?_; clear tr
 refine at_seq rfl ?_
 refine rg rfl ?_
 refine Rq ?_
 have tr : ∀ a b c d e : AV, let l := lc_easier_ok a b c d; trim ((2,e)::l) l = [(0,a),(2,e),(3,c),(19,d)] := by intros; rfl
 refine R_nil (tr ..) ?_; clear tr
 refine then_n ?_
 refine at_seq rfl ?_
 refine at_block rfl ?_
 refine at_seq rfl ?_
 refine rg rfl ?_
 refine Rq ?_
 refine Rq ?_
 refine Rq ?_
 refine Rq ?_
 have g8 := g.le (i := 8) (by omega)
 have g0 := g.le (i := 0) (by omega)
 have g1 := g.le (i := 1) (by omega)
 refine R_q (r := AV.i (gt w 8)) rfl (by simp (disch := first | omega | (simp only [List.length_map, List.length_append, List.length_set, List.length_cons, List.length_nil]; omega)) only [go_sem, ↓reduceIte, Nat.reduceEqDiff, reduceCtorEq, hb] <;> exact wC_at w 8 (by rw [g.len]; omega)) ?_
 refine Rq ?_
 refine Rq ?_
 have tr : ∀ a b c d e f g h i j k : AV, let l := lc_easier_ok a b c d; trim ((3,k)::(9,j)::(8,i)::(7,h)::(6,g)::(5,f)::(4,e)::l) l = [(0,a),(2,b),(3,k),(19,d)] := by intros; rfl
 refine R_nil (tr ..) ?_; clear tr
 refine then_n ?_
 refine cdd (fun h1 => ?_) (fun h1 => ?_)
 ·
  try simp only [decide_eq_true_eq, decide_eq_false_iff_not, Bool.not_eq_true', Bool.not_eq_false', beq_iff_eq, beq_eq_false_iff_ne, ne_eq] at h1
  refine rd rfl rfl ?_
  refine Qq ?_
  refine Qq ?_
  refine Qq ?_
  refine Qq ?_
  refine Q_q (r := AV.i (gt w 8)) rfl (by simp (disch := first | omega | (simp only [List.length_map, List.length_append, List.length_set, List.length_cons, List.length_nil]; omega)) only [go_sem, ↓reduceIte, Nat.reduceEqDiff, reduceCtorEq, hb] <;> exact wC_at w 8 (by rw [g.len]; omega)) ?_
  refine Qq ?_
  refine Qq ?_
  refine Qq ?_
  refine Qq ?_
  refine Q_nil ?_
  have lhb := hget_lt hb
  refine A_store ty2 (by simp (disch := first | omega | (simp only [List.length_map, List.length_append, List.length_set, List.length_cons, List.length_nil]; omega)) only [go_sem, ↓reduceIte, Nat.reduceEqDiff, reduceCtorEq, hb] <;> rfl) (by simp (disch := first | omega | (simp only [List.length_map, List.length_append, List.length_set, List.length_cons, List.length_nil]; omega)) only [go_sem, ↓reduceIte, Nat.reduceEqDiff, reduceCtorEq, hb] <;> rfl) hb ⟨by omega, rfl, by simp only [List.length_map, g.len]; decide⟩ (k' := wC (w.set 8 (gt w 8 - 1))) (setW _ _ _) ?_
  intro H1 w1
  have e1 := w1.len
  have hb1 := w1.new
  have hold1 := w1.old
  have ha : gt (w.set 8 (gt w 8 - 1)) 1 = gt w 1 := by rw [gt_set _ _ _ _ (by rw [g.len]; omega), if_neg (by omega)]
  have gl1 : (w.set 8 (gt w 8 - 1)).length = 16 := by rw [List.length_set, g.len]
  have he : easyW w = (w.set 8 (gt w 8 - 1)).set 1 (gt w 1 + 1) := by rw [easyW, if_pos (by omega), mvW, ha]
  have tr : ∀ a b c d e f g h i j k m n : AV, let l := lc_easier_ok a b c d; trim ((18,n)::(17,m)::(16,k)::(15,j)::(14,i)::(13,h)::(12,g)::(11,f)::(10,e)::l) l = [(0,a),(2,b),(3,c),(19,d)] := by intros; rfl
  refine R_nil (tr ..) ?_; clear tr
  refine blk_n ?_
  refine then_n ?_
  refine at_seq rfl ?_
  refine rd rfl rfl ?_
  refine Qq ?_
  refine Qq ?_
  refine Qq ?_
  refine Qq ?_
  refine Q_q (r := AV.i (gt w 1)) rfl (by simp (disch := first | omega | (simp only [List.length_map, List.length_append, List.length_set, List.length_cons, List.length_nil]; omega)) only [go_sem, ↓reduceIte, Nat.reduceEqDiff, reduceCtorEq, hb1] <;> exact congrArg (fun z => some (AV.i z)) ha) ?_
  refine Qq ?_
  refine Qq ?_
  refine Qq ?_
  refine Qq ?_
  refine Q_nil ?_
  have lhb1 := hget_lt hb1
  refine A_store ty2 (by simp (disch := first | omega | (simp only [List.length_map, List.length_append, List.length_set, List.length_cons, List.length_nil]; omega)) only [go_sem, ↓reduceIte, Nat.reduceEqDiff, reduceCtorEq, hb1] <;> rfl) (by simp (disch := first | omega | (simp only [List.length_map, List.length_append, List.length_set, List.length_cons, List.length_nil]; omega)) only [go_sem, ↓reduceIte, Nat.reduceEqDiff, reduceCtorEq, hb1] <;> rfl) hb1 ⟨by omega, rfl, by simp only [List.length_map, gl1]; decide⟩ (k' := wC (easyW w)) (by rw [he]; exact setW _ _ _) ?_
  intro H2 w2
  have e2 := w2.len
  have hb2 := w2.new
  have hold2 := w2.old
  have tr : ∀ a b c d e f g h i j k m n : AV, let l := lc_easier_ok a b c d; trim ((43,n)::(42,m)::(41,k)::(40,j)::(39,i)::(38,h)::(37,g)::(36,f)::(35,e)::l) l = [(0,a),(2,b),(3,c),(19,d)] := by intros; rfl
  refine R_nil (tr ..) ?_; clear tr
  refine then_n ?_
  refine at_seq rfl ?_
  refine rg rfl ?_
  refine Rq ?_
  have tr : ∀ a b c d e : AV, let l := lc_easier_ok a b c d; trim ((2,e)::l) l = [(0,a),(2,e),(3,c),(19,d)] := by intros; rfl
  refine R_nil (tr ..) ?_; clear tr
  refine then_n ?_
  refine at_ret rfl ?_
  first | (refine fin_own rfl (by simp only [go_sem, ↓reduceIte, Nat.reduceEqDiff]; rfl) ?_; exact ⟨congrArg (fun z => AV.v (.bool z)) (decide_eq_true (p := 0 < gt w 8 ∨ 0 < gt w 0) (by omega)).symm, hb2, e2.trans e1, fun c hc => (hold2 c hc).trans (hold1 c hc)⟩) | (refine fin_own rfl (by simp only [go_sem, ↓reduceIte, Nat.reduceEqDiff]; rfl) ?_; exact ⟨congrArg (fun z => AV.v (.bool z)) (decide_eq_false (p := 0 < gt w 8 ∨ 0 < gt w 0) (by omega)).symm, by rw [easyW, if_neg (by omega), if_neg (by omega)]; exact hb, rfl, fun c hc => rfl⟩)
 ·
  try simp only [decide_eq_true_eq, decide_eq_false_iff_not, Bool.not_eq_true', Bool.not_eq_false', beq_iff_eq, beq_eq_false_iff_ne, ne_eq] at h1
  refine at_seq rfl ?_
  refine rg rfl ?_
  refine Rq ?_
  refine Rq ?_
  refine Rq ?_
  refine Rq ?_
  refine R_q (r := AV.i (gt w 0)) rfl (by simp (disch := first | omega | (simp only [List.length_map, List.length_append, List.length_set, List.length_cons, List.length_nil]; omega)) only [go_sem, ↓reduceIte, Nat.reduceEqDiff, reduceCtorEq, hb] <;> exact wC_at w 0 (by rw [g.len]; omega)) ?_
  refine Rq ?_
  refine Rq ?_
  have tr : ∀ a b c d e f g h i j k : AV, let l := lc_easier_ok a b c d; trim ((19,k)::(25,j)::(24,i)::(23,h)::(22,g)::(21,f)::(20,e)::l) l = [(0,a),(2,b),(3,c),(19,k)] := by intros; rfl
  refine R_nil (tr ..) ?_; clear tr
  refine then_n ?_
  refine cdd (fun h2 => ?_) (fun h2 => ?_)
  ·
   try simp only [decide_eq_true_eq, decide_eq_false_iff_not, Bool.not_eq_true', Bool.not_eq_false', beq_iff_eq, beq_eq_false_iff_ne, ne_eq] at h2
   refine rd rfl rfl ?_
   refine Qq ?_
   refine Qq ?_
   refine Qq ?_
   refine Qq ?_
   refine Q_q (r := AV.i (gt w 0)) rfl (by simp (disch := first | omega | (simp only [List.length_map, List.length_append, List.length_set, List.length_cons, List.length_nil]; omega)) only [go_sem, ↓reduceIte, Nat.reduceEqDiff, reduceCtorEq, hb] <;> exact wC_at w 0 (by rw [g.len]; omega)) ?_
   refine Qq ?_
   refine Qq ?_
   refine Qq ?_
   refine Qq ?_
   refine Q_nil ?_
   have lhb := hget_lt hb
   refine A_store ty2 (by simp (disch := first | omega | (simp only [List.length_map, List.length_append, List.length_set, List.length_cons, List.length_nil]; omega)) only [go_sem, ↓reduceIte, Nat.reduceEqDiff, reduceCtorEq, hb] <;> rfl) (by simp (disch := first | omega | (simp only [List.length_map, List.length_append, List.length_set, List.length_cons, List.length_nil]; omega)) only [go_sem, ↓reduceIte, Nat.reduceEqDiff, reduceCtorEq, hb] <;> rfl) hb ⟨by omega, rfl, by simp only [List.length_map, g.len]; decide⟩ (k' := wC (w.set 0 (gt w 0 - 1))) (setW _ _ _) ?_
   intro H1 w1
   have e1 := w1.len
   have hb1 := w1.new
   have hold1 := w1.old
   have ha : gt (w.set 0 (gt w 0 - 1)) 1 = gt w 1 := by rw [gt_set _ _ _ _ (by rw [g.len]; omega), if_neg (by omega)]
   have gl1 : (w.set 0 (gt w 0 - 1)).length = 16 := by rw [List.length_set, g.len]
   have he : easyW w = (w.set 0 (gt w 0 - 1)).set 1 (gt w 1 + 1) := by rw [easyW, if_neg (by omega), if_pos (by omega), mvW, ha]
   have tr : ∀ a b c d e f g h i j k m n : AV, let l := lc_easier_ok a b c d; trim ((34,n)::(33,m)::(32,k)::(31,j)::(30,i)::(29,h)::(28,g)::(27,f)::(26,e)::l) l = [(0,a),(2,b),(3,c),(19,d)] := by intros; rfl
   refine R_nil (tr ..) ?_; clear tr
   refine blk_n ?_
   refine then_n ?_
   refine at_seq rfl ?_
   refine rd rfl rfl ?_
   refine Qq ?_
   refine Qq ?_
   refine Qq ?_
   refine Qq ?_
   refine Q_q (r := AV.i (gt w 1)) rfl (by simp (disch := first | omega | (simp only [List.length_map, List.length_append, List.length_set, List.length_cons, List.length_nil]; omega)) only [go_sem, ↓reduceIte, Nat.reduceEqDiff, reduceCtorEq, hb1] <;> exact congrArg (fun z => some (AV.i z)) ha) ?_
   refine Qq ?_
   refine Qq ?_
   refine Qq ?_
   refine Qq ?_
   refine Q_nil ?_
   have lhb1 := hget_lt hb1
   refine A_store ty2 (by simp (disch := first | omega | (simp only [List.length_map, List.length_append, List.length_set, List.length_cons, List.length_nil]; omega)) only [go_sem, ↓reduceIte, Nat.reduceEqDiff, reduceCtorEq, hb1] <;> rfl) (by simp (disch := first | omega | (simp only [List.length_map, List.length_append, List.length_set, List.length_cons, List.length_nil]; omega)) only [go_sem, ↓reduceIte, Nat.reduceEqDiff, reduceCtorEq, hb1] <;> rfl) hb1 ⟨by omega, rfl, by simp only [List.length_map, gl1]; decide⟩ (k' := wC (easyW w)) (by rw [he]; exact setW _ _ _) ?_
   intro H2 w2
   have e2 := w2.len
   have hb2 := w2.new
   have hold2 := w2.old
   have tr : ∀ a b c d e f g h i j k m n : AV, let l := lc_easier_ok a b c d; trim ((43,n)::(42,m)::(41,k)::(40,j)::(39,i)::(38,h)::(37,g)::(36,f)::(35,e)::l) l = [(0,a),(2,b),(3,c),(19,d)] := by intros; rfl
   refine R_nil (tr ..) ?_; clear tr
   refine then_n ?_
   refine at_seq rfl ?_
   refine rg rfl ?_
   refine Rq ?_
   have tr : ∀ a b c d e : AV, let l := lc_easier_ok a b c d; trim ((2,e)::l) l = [(0,a),(2,e),(3,c),(19,d)] := by intros; rfl
   refine R_nil (tr ..) ?_; clear tr
   refine then_n ?_
   refine at_ret rfl ?_
   first | (refine fin_own rfl (by simp only [go_sem, ↓reduceIte, Nat.reduceEqDiff]; rfl) ?_; exact ⟨congrArg (fun z => AV.v (.bool z)) (decide_eq_true (p := 0 < gt w 8 ∨ 0 < gt w 0) (by omega)).symm, hb2, e2.trans e1, fun c hc => (hold2 c hc).trans (hold1 c hc)⟩) | (refine fin_own rfl (by simp only [go_sem, ↓reduceIte, Nat.reduceEqDiff]; rfl) ?_; exact ⟨congrArg (fun z => AV.v (.bool z)) (decide_eq_false (p := 0 < gt w 8 ∨ 0 < gt w 0) (by omega)).symm, by rw [easyW, if_neg (by omega), if_neg (by omega)]; exact hb, rfl, fun c hc => rfl⟩)
  ·
   try simp only [decide_eq_true_eq, decide_eq_false_iff_not, Bool.not_eq_true', Bool.not_eq_false', beq_iff_eq, beq_eq_false_iff_ne, ne_eq] at h2
   refine at_seq rfl ?_
   refine rg rfl ?_
   refine Rq ?_
   have tr : ∀ a b c d e : AV, let l := lc_easier_ok a b c d; trim ((2,e)::l) l = [(0,a),(2,e),(3,c),(19,d)] := by intros; rfl
   refine R_nil (tr ..) ?_; clear tr
   refine then_n ?_
   refine at_ret rfl ?_
   refine blk_r ?_
   refine then_r ?_
   first | (refine fin_own rfl (by simp only [go_sem, ↓reduceIte, Nat.reduceEqDiff]; rfl) ?_; exact ⟨congrArg (fun z => AV.v (.bool z)) (decide_eq_true (p := 0 < gt w 8 ∨ 0 < gt w 0) (by omega)).symm, hb2, e2.trans e1, fun c hc => (hold2 c hc).trans (hold1 c hc)⟩) | (refine fin_own rfl (by simp only [go_sem, ↓reduceIte, Nat.reduceEqDiff]; rfl) ?_; exact ⟨congrArg (fun z => AV.v (.bool z)) (decide_eq_false (p := 0 < gt w 8 ∨ 0 < gt w 0) (by omega)).symm, by rw [easyW, if_neg (by omega), if_neg (by omega)]; exact hb, rfl, fun c hc => rfl⟩)

end Go.Proofs.Ytplockpopmaejaa
end
section
set_option linter.unusedSimpArgs false
set_option linter.unusedVariables false
set_option maxHeartbeats 40000000
set_option maxRecDepth 4000
namespace Go.Proofs.Ytplockpopmaejaa
open Go Go.Am

abbrev lc_clone_ok (a b c : AV) : Env := [(0,a),(2,b),(4,c)]
theorem clone_ok (lim : Nat) (H : Heap) (b : Nat) (l : List Oc) (hb : hget H b = some (flatO l)) (h0 : 0 < l.length) (hlm : lim ≤ H.length) (h1 : l.length ≤ 1000) :
    ACall sig lim 48 [.own 3 b 0 l.length] H fun r H' => ∃ b', r = .own 3 b' 0 l.length ∧ H.length ≤ b' ∧ hget H' b' = some (flatO l) ∧ ∀ c, c < H.length → hget H' c = hget H c := by
 have hlb := hget_lt hb
 refine ACall_own (fa := fa48) rfl rfl rfl rfl ?_
 have tr : ∀ a0 : AV, env0 fa48.keep [a0] = [(0,a0),(2,.any),(4,.any)] := fun a0 => rfl
 refine W_to (tr _) ?_; clear tr
 refine at_seq rfl ?_
 refine rg rfl ?_
 refine Rq ?_
 have tr : ∀ a b c d : AV, let l := lc_clone_ok a b c; trim ((2,d)::l) l = [(0,a),(2,d),(4,c)] := by intros; rfl
 refine R_nil (tr ..) ?_; clear tr
 refine then_n ?_
 refine at_seq rfl ?_
 refine at_seq rfl ?_
 refine rg rfl ?_
 refine Rq ?_
 refine R_q rfl (nil29o _ _ _ h0) ?_
 have tr : ∀ a b c d e : AV, let l := lc_clone_ok a b c; trim ((4,e)::(3,d)::l) l = [(0,a),(2,b),(4,e)] := by intros; rfl
 refine R_nil (tr ..) ?_; clear tr
 refine then_n ?_
 refine cdd (fun h1 => ?_) (fun h1 => ?_)
 ·
  try simp only [decide_eq_true_eq, decide_eq_false_iff_not, Bool.not_eq_true', Bool.not_eq_false', beq_iff_eq, beq_eq_false_iff_ne, ne_eq] at h1
  cases h1
 ·
  try simp only [decide_eq_true_eq, decide_eq_false_iff_not, Bool.not_eq_true', Bool.not_eq_false', beq_iff_eq, beq_eq_false_iff_ne, ne_eq] at h1
  refine at_skip rfl ?_
  refine then_n ?_
  refine at_seq rfl ?_
  refine rg rfl ?_
  refine A_buildSlice (bs29e _ _ _) ?_
  intro H1 n1
  have en1 := n1.len
  have q1 : hget H1 H.length = some (flatO []) := n1.new
  have hb1 := (n1.old _ (hget_lt hb)).trans hb
  refine Rq ?_
  obtain ⟨H2, ha2, g2⟩ := app29g (lim := lim) (n := 0) q1 (src_own hb1 rfl) hlm rfl (by omega)
  refine R_append (by simp (disch := first | omega | (simp only [List.length_map, List.length_append, List.length_set, List.length_cons, List.length_nil]; omega)) only [go_sem, ↓reduceIte, Nat.reduceEqDiff, reduceCtorEq]; exact ha2) ?_
  have eg2 := g2.len
  refine Rq ?_
  have tr : ∀ a b c d e f g : AV, let l := lc_clone_ok a b c; trim ((2,g)::(7,f)::(6,e)::(5,d)::l) l = [(0,a),(2,g),(4,c)] := by intros; rfl
  refine R_nil (tr ..) ?_; clear tr
  refine then_n ?_
  refine at_ret rfl ?_
  refine fin_own rfl (by simp only [go_sem, ↓reduceIte, Nat.reduceEqDiff]; rfl) ?_
  exact ⟨_, by first | rfl | (rw [Nat.zero_add]; rfl), by omega, g2.new, fun c hc => (g2.old c (by omega) (by omega)).trans (n1.old c hc)⟩

abbrev lc_norm_ok (a b c d e f g h i j k m n o p q r s t u v w : AV) : Env := [(0,a),(2,b),(3,c),(4,d),(6,e),(7,f),(8,g),(10,h),(11,i),(14,j),(15,k),(16,m),(17,n),(18,o),(38,p),(45,q),(50,r),(51,s),(52,t),(53,u),(58,v),(72,w)]
theorem norm_ok (lim : Nat) (H : Heap) (w : List Int) (b : Nat) (hb : hget H b = some (flatO (outL w))) (g : Gd w) :
    ACall sig lim 41 [.own 3 b 0 16] H fun r H' => r = .tup [ocsAV (pos (outL w)), AV.i 0] ∧ H' = H := by
 have q6 : True := trivial
 have q10 : True := trivial
 have q2 : True := trivial
 have qo : True := trivial
 refine ACall_pure (fa := fa41) rfl rfl rfl rfl ?_
 have tr : ∀ a0 : AV, env0 fa41.keep [a0] = [(0,a0),(2,.any),(3,.any),(4,.any),(6,.any),(7,.any),(8,.any),(10,.any),(11,.any),(14,.any),(15,.any),(16,.any),(17,.any),(18,.any),(38,.any),(45,.any),(50,.any),(51,.any),(52,.any),(53,.any),(58,.any),(72,.any)] := fun a0 => rfl
 refine W_to (tr _) ?_; clear tr
 refine at_seq rfl ?_
 refine rg rfl ?_
 refine Rq ?_
 refine Rq ?_
 have tr : ∀ a b c d e f g h i j k m n o p q r s t u v w x y : AV, let l := lc_norm_ok a b c d e f g h i j k m n o p q r s t u v w; trim ((3,y)::(2,x)::l) l = [(0,a),(2,x),(3,y),(4,d),(6,e),(7,f),(8,g),(10,h),(11,i),(14,j),(15,k),(16,m),(17,n),(18,o),(38,p),(45,q),(50,r),(51,s),(52,t),(53,u),(58,v),(72,w)] := by intros; rfl
 refine R_nil (tr ..) ?_; clear tr
 refine then_n ?_
 refine at_seq rfl ?_
 refine at_seq rfl ?_
 refine rg rfl ?_
 refine Rq ?_
 refine Rq ?_
 refine Rq ?_
 have tr : ∀ a b c d e f g h i j k m n o p q r s t u v w x y z : AV, let l := lc_norm_ok a b c d e f g h i j k m n o p q r s t u v w; trim ((14,z)::(13,y)::(12,x)::l) l = [(0,a),(2,b),(3,c),(4,d),(6,e),(7,f),(8,g),(10,h),(11,i),(14,z),(15,k),(16,m),(17,n),(18,o),(38,p),(45,q),(50,r),(51,s),(52,t),(53,u),(58,v),(72,w)] := by intros; rfl
 refine R_nil (tr ..) ?_; clear tr
 refine then_n ?_
 refine cdd (fun h1 => ?_) (fun h1 => ?_)
 ·
  try simp only [decide_eq_true_eq, decide_eq_false_iff_not, Bool.not_eq_true', Bool.not_eq_false', beq_iff_eq, beq_eq_false_iff_ne, ne_eq] at h1
  omega
 ·
  try simp only [decide_eq_true_eq, decide_eq_false_iff_not, Bool.not_eq_true', Bool.not_eq_false', beq_iff_eq, beq_eq_false_iff_ne, ne_eq] at h1
  refine at_skip rfl ?_
  refine then_n ?_
  refine at_seq rfl ?_
  refine rg rfl ?_
  refine Rq ?_
  have tr : ∀ a b c d e f g h i j k m n o p q r s t u v w x : AV, let l := lc_norm_ok a b c d e f g h i j k m n o p q r s t u v w; trim ((4,x)::l) l = [(0,a),(2,b),(3,c),(4,x),(6,e),(7,f),(8,g),(10,h),(11,i),(14,j),(15,k),(16,m),(17,n),(18,o),(38,p),(45,q),(50,r),(51,s),(52,t),(53,u),(58,v),(72,w)] := by intros; rfl
  refine R_nil (tr ..) ?_; clear tr
  refine then_n ?_
  refine at_seq rfl ?_
  refine at_seq rfl ?_
  refine rg rfl ?_
  refine Rq ?_
  refine Rq ?_
  refine Rq ?_
  have tr : ∀ a b c d e f g h i j k m n o p q r s t u v w x y z : AV, let l := lc_norm_ok a b c d e f g h i j k m n o p q r s t u v w; trim ((17,z)::(16,y)::(15,x)::l) l = [(0,a),(2,b),(3,c),(4,d),(6,e),(7,f),(8,g),(10,h),(11,i),(14,j),(15,x),(16,y),(17,z),(18,o),(38,p),(45,q),(50,r),(51,s),(52,t),(53,u),(58,v),(72,w)] := by intros; rfl
  refine R_nil (tr ..) ?_; clear tr
  refine then_n ?_
  refine at_block rfl ?_
  refine loop_n rfl (fun mm kv H' => ∃ u : Nat, ∃ n : Int, ∃ x2 x3 x6 x18 x38 : AV, (kv = [(2, x2), (3, x3), (4, AV.i n), (6, x6), (17, AV.i u), (18, x18), (38, x38)]) ∧ (mm = 16 - u) ∧ (u ≤ 16) ∧ (hget H' b = some (flatO (outL w))) ∧ (H.length ≤ H'.length) ∧ (n = sW (outL w) u)) ⟨0, 0, _, _, _, _, _, rfl, rfl, by omega, by exact hb, by exact Nat.le_refl _, by rfl⟩ (by rfl) ?_
  rintro mm kv H0 ⟨u, n, x2, x3, x6, x18, x38, rfl, rfl, hu, hb, hlen, hn⟩
  have tr : ∀ a b c d e f g h i j k m n o p q r s t u v w x y z A B C D : AV, upd [(0,a),(2,b),(3,c),(4,d),(6,e),(7,f),(8,g),(10,h),(11,i),(14,j),(15,k),(16,m),(17,n),(18,o),(38,p),(45,q),(50,r),(51,s),(52,t),(53,u),(58,v),(72,w)] [(2,x),(3,y),(4,z),(6,A),(17,B),(18,C),(38,D)] = [(0,a),(2,x),(3,y),(4,z),(6,A),(7,f),(8,g),(10,h),(11,i),(14,j),(15,k),(16,m),(17,B),(18,C),(38,D),(45,q),(50,r),(51,s),(52,t),(53,u),(58,v),(72,w)] := by intros; rfl
  refine W_to (tr ..) ?_; clear tr
  have lb0 := hget_lt hb
  have hrg := fun (hu : u < 16) => outL_rg g hu
  have hsb := sW_out_box g u hu
  refine at_seq rfl ?_
  refine rg rfl ?_
  refine Rq ?_
  have tr : ∀ a b c d e f g h i j k m n o p q r s t u v w x : AV, let l := lc_norm_ok a b c d e f g h i j k m n o p q r s t u v w; trim ((18,x)::l) l = [(0,a),(2,b),(3,c),(4,d),(6,e),(7,f),(8,g),(10,h),(11,i),(14,j),(15,k),(16,m),(17,n),(18,x),(38,p),(45,q),(50,r),(51,s),(52,t),(53,u),(58,v),(72,w)] := by intros; rfl
  refine R_nil (tr ..) ?_; clear tr
  refine then_n ?_
  refine at_seq rfl ?_
  refine cdd (fun h2 => ?_) (fun h2 => ?_)
  ·
   try simp only [decide_eq_true_eq, decide_eq_false_iff_not, Bool.not_eq_true', Bool.not_eq_false', beq_iff_eq, beq_eq_false_iff_ne, ne_eq] at h2
   refine at_skip rfl ?_
   refine then_n ?_
   refine at_seq rfl ?_
   refine at_block rfl ?_
   refine at_seq rfl ?_
   refine rg rfl ?_
   refine Rq ?_
   refine R_q (r := .agg (ocC (gt (outL w) u))) rfl (by simp (disch := first | omega | (simp only [List.length_map, List.length_append, List.length_set, List.length_cons, List.length_nil]; omega)) only [go_sem, ↓reduceIte, Nat.reduceEqDiff, reduceCtorEq, hb] <;> first | rfl | exact ld_oc _ _ (by rw [outL_len]; omega) | (rw [Nat.zero_add]; exact ld_oc _ _ (by rw [outL_len]; omega))) ?_
   refine A_alloc rfl ?_
   intro H1 n1
   have en1 := n1.len
   have hb := (n1.old _ (hget_lt hb)).trans hb
   have q6 := n1.new
   have lhb := hget_lt hb
   have lq6 := hget_lt q6
   refine A_store ty68 (by simp (disch := first | omega | (simp only [List.length_map, List.length_append, List.length_set, List.length_cons, List.length_nil]; omega)) only [go_sem, ↓reduceIte, Nat.reduceEqDiff, reduceCtorEq, q6] <;> rfl) (by simp (disch := first | omega | (simp only [List.length_map, List.length_append, List.length_set, List.length_cons, List.length_nil]; omega)) only [go_sem, ↓reduceIte, Nat.reduceEqDiff, reduceCtorEq, q6] <;> rfl) q6 ⟨by omega, rfl, by first | exact Nat.le_refl _ | simp⟩ (k' := ocC (gt (outL w) u)) rfl ?_
   intro H2 w2
   have ew2 := w2.len
   have hb := (w2.old _ (by omega)).trans hb
   have q6 := w2.new
   have tr : ∀ a b c d e f g h i j k m n o p q r s t u v w x y z : AV, let l := lc_norm_ok a b c d e f g h i j k m n o p q r s t u v w; trim ((6,z)::(20,y)::(19,x)::l) l = [(0,a),(2,b),(3,c),(4,d),(6,z),(7,f),(8,g),(10,h),(11,i),(14,j),(15,k),(16,m),(17,n),(18,o),(38,p),(45,q),(50,r),(51,s),(52,t),(53,u),(58,v),(72,w)] := by intros; rfl
   refine R_nil (tr ..) ?_; clear tr
   refine then_n ?_
   refine at_seq rfl ?_
   refine at_seq rfl ?_
   refine rg rfl ?_
   refine Rq ?_
   refine R_q rfl (by simp (disch := first | omega | (simp only [List.length_map, List.length_append, List.length_set, List.length_cons, List.length_nil]; omega)) only [go_sem, ↓reduceIte, Nat.reduceEqDiff, reduceCtorEq, hb, q6, q10, q2, qo] <;> rfl) ?_
   refine Rq ?_
   refine Rq ?_
   refine Rp_split (fun h3 => ?_) (fun h3 => ?_)
   ·
    try simp only [decide_eq_true_eq, decide_eq_false_iff_not, Bool.not_eq_true', Bool.not_eq_false', beq_iff_eq, beq_eq_false_iff_ne, ne_eq] at h3
    first | (have := hrg (by omega); omega) | contradiction
   ·
    try simp only [decide_eq_true_eq, decide_eq_false_iff_not, Bool.not_eq_true', Bool.not_eq_false', beq_iff_eq, beq_eq_false_iff_ne, ne_eq] at h3
    refine Ry ?_
    refine Rq ?_
    refine Ry ?_
    refine R_q rfl (by simp (disch := first | omega | (simp only [List.length_map, List.length_append, List.length_set, List.length_cons, List.length_nil]; omega)) only [go_sem, ↓reduceIte, Nat.reduceEqDiff, reduceCtorEq, hb, q6, q10, q2, qo] <;> rfl) ?_
    refine Ry ?_
    refine Rq ?_
    refine Rq ?_
    refine Rq ?_
    refine Rp_split (fun h4 => ?_) (fun h4 => ?_)
    ·
     try simp only [decide_eq_true_eq, decide_eq_false_iff_not, Bool.not_eq_true', Bool.not_eq_false', beq_iff_eq, beq_eq_false_iff_ne, ne_eq] at h4
     first | (have := hrg (by omega); omega) | contradiction
    ·
     try simp only [decide_eq_true_eq, decide_eq_false_iff_not, Bool.not_eq_true', Bool.not_eq_false', beq_iff_eq, beq_eq_false_iff_ne, ne_eq] at h4
     refine Ry ?_
     refine Rq ?_
     refine Ry ?_
     refine R_q rfl (by simp (disch := first | omega | (simp only [List.length_map, List.length_append, List.length_set, List.length_cons, List.length_nil]; omega)) only [go_sem, ↓reduceIte, Nat.reduceEqDiff, reduceCtorEq, hb, q6, q10, q2, qo] <;> rfl) ?_
     refine Ry ?_
     refine Rq ?_
     refine Rq ?_
     refine Rq ?_
     refine Rp_split (fun h5 => ?_) (fun h5 => ?_)
     ·
      try simp only [decide_eq_true_eq, decide_eq_false_iff_not, Bool.not_eq_true', Bool.not_eq_false', beq_iff_eq, beq_eq_false_iff_ne, ne_eq] at h5
      first | (have := hrg (by omega); omega) | contradiction
     ·
      try simp only [decide_eq_true_eq, decide_eq_false_iff_not, Bool.not_eq_true', Bool.not_eq_false', beq_iff_eq, beq_eq_false_iff_ne, ne_eq] at h5
      refine Ry ?_
      refine Rq ?_
      refine Ry ?_
      refine R_q rfl (by simp (disch := first | omega | (simp only [List.length_map, List.length_append, List.length_set, List.length_cons, List.length_nil]; omega)) only [go_sem, ↓reduceIte, Nat.reduceEqDiff, reduceCtorEq, hb, q6, q10, q2, qo] <;> rfl) ?_
      refine Ry ?_
      refine Rq ?_
      refine Rq ?_
      have tr : ∀ a b c d e f g h i j k m n o p q r s t u v w x y z A B C D E F G H I J K L M N O : AV, let l := lc_norm_ok a b c d e f g h i j k m n o p q r s t u v w; trim ((38,O)::(37,N)::(36,M)::(35,L)::(34,K)::(33,J)::(32,I)::(31,H)::(30,G)::(29,F)::(28,E)::(27,D)::(26,C)::(25,B)::(24,A)::(23,z)::(22,y)::(21,x)::l) l = [(0,a),(2,b),(3,c),(4,d),(6,e),(7,f),(8,g),(10,h),(11,i),(14,j),(15,k),(16,m),(17,n),(18,o),(38,O),(45,q),(50,r),(51,s),(52,t),(53,u),(58,v),(72,w)] := by intros; rfl
      refine R_nil (tr ..) ?_; clear tr
      refine then_n ?_
      refine cdd (fun h6 => ?_) (fun h6 => ?_)
      ·
       try simp only [decide_eq_true_eq, decide_eq_false_iff_not, Bool.not_eq_true', Bool.not_eq_false', beq_iff_eq, beq_eq_false_iff_ne, ne_eq] at h6
       have := hrg (by omega); omega
      ·
       try simp only [decide_eq_true_eq, decide_eq_false_iff_not, Bool.not_eq_true', Bool.not_eq_false', beq_iff_eq, beq_eq_false_iff_ne, ne_eq] at h6
       refine at_skip rfl ?_
       refine then_n ?_
       refine rg rfl ?_
       refine Rq ?_
       refine Rq ?_
       refine R_q rfl (by simp (disch := first | omega | (simp only [List.length_map, List.length_append, List.length_set, List.length_cons, List.length_nil]; omega)) only [go_sem, ↓reduceIte, Nat.reduceEqDiff, reduceCtorEq, hb, q6, q10, q2, qo] <;> rfl) ?_
       refine Rq ?_
       refine Rq ?_
       have tr : ∀ a b c d e f g h i j k m n o p q r s t u v w x y z A B : AV, let l := lc_norm_ok a b c d e f g h i j k m n o p q r s t u v w; trim ((4,B)::(42,A)::(41,z)::(40,y)::(39,x)::l) l = [(0,a),(2,b),(3,c),(4,B),(6,e),(7,f),(8,g),(10,h),(11,i),(14,j),(15,k),(16,m),(17,n),(18,o),(38,p),(45,q),(50,r),(51,s),(52,t),(53,u),(58,v),(72,w)] := by intros; rfl
       refine R_nil (tr ..) ?_; clear tr
       refine blk_n ?_
       refine then_n ?_
       refine rg rfl ?_
       refine Rq ?_
       refine Rq ?_
       have tr : ∀ a b c d e f g h i j k m n o p q r s t u v w x y : AV, let l := lc_norm_ok a b c d e f g h i j k m n o p q r s t u v w; trim ((17,y)::(43,x)::l) l = [(0,a),(2,b),(3,c),(4,d),(6,e),(7,f),(8,g),(10,h),(11,i),(14,j),(15,k),(16,m),(17,y),(18,o),(38,p),(45,q),(50,r),(51,s),(52,t),(53,u),(58,v),(72,w)] := by intros; rfl
       refine R_nil (tr ..) ?_; clear tr
       refine then_n ?_
       exact ⟨_, _, ⟨u + 1, n + (gt (outL w) u).w, _, _, _, _, _, rfl, rfl, by omega, by exact hb, by exact (show H.length ≤ H2.length by omega), by rw [hn]; rfl⟩, by rfl, by omega⟩
  ·
   try simp only [decide_eq_true_eq, decide_eq_false_iff_not, Bool.not_eq_true', Bool.not_eq_false', beq_iff_eq, beq_eq_false_iff_ne, ne_eq] at h2
   refine at_exit rfl ?_
   refine then_x ?_
   refine then_x ?_
   refine blk_x ?_
   refine then_n ?_
   refine at_seq rfl ?_
   refine at_seq rfl ?_
   refine rg rfl ?_
   refine Rq ?_
   refine Rq ?_
   have tr : ∀ a b c d e f g h i j k m n o p q r s t u v w x y : AV, let l := lc_norm_ok a b c d e f g h i j k m n o p q r s t u v w; trim ((45,y)::(44,x)::l) l = [(0,a),(2,b),(3,c),(4,d),(6,e),(7,f),(8,g),(10,h),(11,i),(14,j),(15,k),(16,m),(17,n),(18,o),(38,p),(45,y),(50,r),(51,s),(52,t),(53,u),(58,v),(72,w)] := by intros; rfl
   refine R_nil (tr ..) ?_; clear tr
   refine then_n ?_
   refine cdd (fun h7 => ?_) (fun h7 => ?_)
   ·
    try simp only [decide_eq_true_eq, decide_eq_false_iff_not, Bool.not_eq_true', Bool.not_eq_false', beq_iff_eq, beq_eq_false_iff_ne, ne_eq] at h7
    have := sW_outL g; have hu16 : u = 16 := (by omega); subst hu16; omega
   ·
    try simp only [decide_eq_true_eq, decide_eq_false_iff_not, Bool.not_eq_true', Bool.not_eq_false', beq_iff_eq, beq_eq_false_iff_ne, ne_eq] at h7
    refine at_skip rfl ?_
    refine then_n ?_
    refine at_seq rfl ?_
    refine rg rfl ?_
    refine Rq ?_
    refine Rcall ?_
    have ehb : (16 : Nat) = (outL w).length := (outL_len w).symm
    refine ACall_mono (clone_ok _ _ b (outL w) hb (by rw [outL_len]; omega) (by omega) (by rw [outL_len]; omega)) ?_
    rintro r H3 ⟨b2, rfl, hb2, q2, hold⟩
    rewrite [outL_len]
    refine Rq ?_
    have tr : ∀ a b c d e f g h i j k m n o p q r s t u v w x y z : AV, let l := lc_norm_ok a b c d e f g h i j k m n o p q r s t u v w; trim ((7,z)::(47,y)::(46,x)::l) l = [(0,a),(2,b),(3,c),(4,d),(6,e),(7,z),(8,g),(10,h),(11,i),(14,j),(15,k),(16,m),(17,n),(18,o),(38,p),(45,q),(50,r),(51,s),(52,t),(53,u),(58,v),(72,w)] := by intros; rfl
    refine R_nil (tr ..) ?_; clear tr
    refine then_n ?_
    refine at_seq rfl ?_
    refine rg rfl ?_
    refine Rq ?_
    refine Rcall ?_
    refine ACall_eff (p := sortV) rfl rfl rfl (sort_ok q2 (by omega) (by rw [outL_len]; omega) (by rw [outL_len]; omega) (outL_pw w) (outL_len w).symm (hset_same q2)) ?_
    have tr : ∀ a b c d e f g h i j k m n o p q r s t u v w x y : AV, let l := lc_norm_ok a b c d e f g h i j k m n o p q r s t u v w; trim ((49,y)::(48,x)::l) l = [(0,a),(2,b),(3,c),(4,d),(6,e),(7,f),(8,g),(10,h),(11,i),(14,j),(15,k),(16,m),(17,n),(18,o),(38,p),(45,q),(50,r),(51,s),(52,t),(53,u),(58,v),(72,w)] := by intros; rfl
    refine R_nil (tr ..) ?_; clear tr
    refine then_n ?_
    refine at_seq rfl ?_
    refine rg rfl ?_
    refine Rq ?_
    have tr : ∀ a b c d e f g h i j k m n o p q r s t u v w x : AV, let l := lc_norm_ok a b c d e f g h i j k m n o p q r s t u v w; trim ((8,x)::l) l = [(0,a),(2,b),(3,c),(4,d),(6,e),(7,f),(8,x),(10,h),(11,i),(14,j),(15,k),(16,m),(17,n),(18,o),(38,p),(45,q),(50,r),(51,s),(52,t),(53,u),(58,v),(72,w)] := by intros; rfl
    refine R_nil (tr ..) ?_; clear tr
    refine then_n ?_
    refine at_seq rfl ?_
    refine at_seq rfl ?_
    refine rg rfl ?_
    refine Rq ?_
    refine Rq ?_
    refine Rq ?_
    have tr : ∀ a b c d e f g h i j k m n o p q r s t u v w x y z : AV, let l := lc_norm_ok a b c d e f g h i j k m n o p q r s t u v w; trim ((52,z)::(51,y)::(50,x)::l) l = [(0,a),(2,b),(3,c),(4,d),(6,e),(7,f),(8,g),(10,h),(11,i),(14,j),(15,k),(16,m),(17,n),(18,o),(38,p),(45,q),(50,x),(51,y),(52,z),(53,u),(58,v),(72,w)] := by intros; rfl
    refine R_nil (tr ..) ?_; clear tr
    refine then_n ?_
    refine at_block rfl ?_
    refine loop_n rfl (fun mm kv H' => ∃ u : Nat, ∃ o : AV, ∃ x10 x11 x53 x58 x72 : AV, (kv = [(8, o), (10, x10), (11, x11), (52, AV.i u), (53, x53), (58, x58), (72, x72)]) ∧ (mm = 16 - u) ∧ (u ≤ 16) ∧ (hget H' b2 = some (flatO (outL w))) ∧ (OutO (b2 + 1) H' o (pos ((outL w).take u))) ∧ (b2 < H'.length)) ⟨0, nilO, _, _, _, _, _, rfl, rfl, by omega, by exact q2, by exact .inl ⟨rfl, rfl⟩, by exact hget_lt q2⟩ (by rfl) ?_
    rintro mm kv H4 ⟨u, o, x10, x11, x53, x58, x72, rfl, rfl, hu, q2, hO, hb2l⟩
    have tr : ∀ a b c d e f g h i j k m n o p q r s t u v w x y z A B C D : AV, upd [(0,a),(2,b),(3,c),(4,d),(6,e),(7,f),(8,g),(10,h),(11,i),(14,j),(15,k),(16,m),(17,n),(18,o),(38,p),(45,q),(50,r),(51,s),(52,t),(53,u),(58,v),(72,w)] [(8,x),(10,y),(11,z),(52,A),(53,B),(58,C),(72,D)] = [(0,a),(2,b),(3,c),(4,d),(6,e),(7,f),(8,x),(10,y),(11,z),(14,j),(15,k),(16,m),(17,n),(18,o),(38,p),(45,q),(50,r),(51,s),(52,A),(53,B),(58,C),(72,D)] := by intros; rfl
    refine W_to (tr ..) ?_; clear tr
    have hpl := pos_take_len (outL w) u
    refine at_seq rfl ?_
    refine rg rfl ?_
    refine Rq ?_
    have tr : ∀ a b c d e f g h i j k m n o p q r s t u v w x : AV, let l := lc_norm_ok a b c d e f g h i j k m n o p q r s t u v w; trim ((53,x)::l) l = [(0,a),(2,b),(3,c),(4,d),(6,e),(7,f),(8,g),(10,h),(11,i),(14,j),(15,k),(16,m),(17,n),(18,o),(38,p),(45,q),(50,r),(51,s),(52,t),(53,x),(58,v),(72,w)] := by intros; rfl
    refine R_nil (tr ..) ?_; clear tr
    refine then_n ?_
    refine at_seq rfl ?_
    refine cdd (fun h8 => ?_) (fun h8 => ?_)
    ·
     try simp only [decide_eq_true_eq, decide_eq_false_iff_not, Bool.not_eq_true', Bool.not_eq_false', beq_iff_eq, beq_eq_false_iff_ne, ne_eq] at h8
     refine at_skip rfl ?_
     refine then_n ?_
     refine at_seq rfl ?_
     refine at_block rfl ?_
     refine at_seq rfl ?_
     refine rg rfl ?_
     refine Rq ?_
     refine R_q (r := .agg (ocC (gt (outL w) u))) rfl (by simp (disch := first | omega | (simp only [List.length_map, List.length_append, List.length_set, List.length_cons, List.length_nil]; omega)) only [go_sem, ↓reduceIte, Nat.reduceEqDiff, reduceCtorEq, q2] <;> first | rfl | exact ld_oc _ _ (by rw [outL_len]; omega) | (rw [Nat.zero_add]; exact ld_oc _ _ (by rw [outL_len]; omega))) ?_
     have hOlt := fun b (hb : b2 + 1 ≤ b) k (hk : hget H4 b = some k) => hget_lt hk
     refine A_alloc rfl ?_
     intro H5 n5
     have en5 := n5.len
     have q2 := (n5.old _ (hget_lt q2)).trans q2
     have q10 := n5.new
     have hO5 := hO.mono fun b hb k hk => (n5.old _ (hget_lt hk)).trans hk
     have lq2 := hget_lt q2
     have lq10 := hget_lt q10
     refine A_store ty68 (by simp (disch := first | omega | (simp only [List.length_map, List.length_append, List.length_set, List.length_cons, List.length_nil]; omega)) only [go_sem, ↓reduceIte, Nat.reduceEqDiff, reduceCtorEq, q10] <;> rfl) (by simp (disch := first | omega | (simp only [List.length_map, List.length_append, List.length_set, List.length_cons, List.length_nil]; omega)) only [go_sem, ↓reduceIte, Nat.reduceEqDiff, reduceCtorEq, q10] <;> rfl) q10 ⟨by omega, rfl, by first | exact Nat.le_refl _ | simp⟩ (k' := ocC (gt (outL w) u)) rfl ?_
     intro H6 w6
     have ew6 := w6.len
     have q2 := (w6.old _ (by omega)).trans q2
     have hO := hO.mono fun b hb k hk => (w6.old _ (by have := hget_lt hk; omega)).trans ((n5.old _ (hget_lt hk)).trans hk)
     have q10 := w6.new
     have tr : ∀ a b c d e f g h i j k m n o p q r s t u v w x y z : AV, let l := lc_norm_ok a b c d e f g h i j k m n o p q r s t u v w; trim ((10,z)::(55,y)::(54,x)::l) l = [(0,a),(2,b),(3,c),(4,d),(6,e),(7,f),(8,g),(10,z),(11,i),(14,j),(15,k),(16,m),(17,n),(18,o),(38,p),(45,q),(50,r),(51,s),(52,t),(53,u),(58,v),(72,w)] := by intros; rfl
     refine R_nil (tr ..) ?_; clear tr
     refine then_n ?_
     refine at_seq rfl ?_
     refine at_seq rfl ?_
     refine rg rfl ?_
     refine Rq ?_
     refine R_q rfl (by simp (disch := first | omega | (simp only [List.length_map, List.length_append, List.length_set, List.length_cons, List.length_nil]; omega)) only [go_sem, ↓reduceIte, Nat.reduceEqDiff, reduceCtorEq, hb, q6, q10, q2, qo] <;> rfl) ?_
     refine Rq ?_
     have tr : ∀ a b c d e f g h i j k m n o p q r s t u v w x y z : AV, let l := lc_norm_ok a b c d e f g h i j k m n o p q r s t u v w; trim ((58,z)::(57,y)::(56,x)::l) l = [(0,a),(2,b),(3,c),(4,d),(6,e),(7,f),(8,g),(10,h),(11,i),(14,j),(15,k),(16,m),(17,n),(18,o),(38,p),(45,q),(50,r),(51,s),(52,t),(53,u),(58,z),(72,w)] := by intros; rfl
     refine R_nil (tr ..) ?_; clear tr
     refine then_n ?_
     refine cdd (fun h9 => ?_) (fun h9 => ?_)
     ·
      try simp only [decide_eq_true_eq, decide_eq_false_iff_not, Bool.not_eq_true', Bool.not_eq_false', beq_iff_eq, beq_eq_false_iff_ne, ne_eq] at h9
      refine at_exit rfl ?_
      refine then_x ?_
      refine blk_x ?_
      refine then_n ?_
      refine rg rfl ?_
      refine Rq ?_
      refine Rq ?_
      have tr : ∀ a b c d e f g h i j k m n o p q r s t u v w x y : AV, let l := lc_norm_ok a b c d e f g h i j k m n o p q r s t u v w; trim ((52,y)::(87,x)::l) l = [(0,a),(2,b),(3,c),(4,d),(6,e),(7,f),(8,g),(10,h),(11,i),(14,j),(15,k),(16,m),(17,n),(18,o),(38,p),(45,q),(50,r),(51,s),(52,y),(53,u),(58,v),(72,w)] := by intros; rfl
      refine R_nil (tr ..) ?_; clear tr
      refine then_n ?_
      exact ⟨_, _, ⟨u + 1, o, _, _, _, _, _, rfl, rfl, by omega, by exact q2, by first | (rw [pos_step (by rw [outL_len]; omega), if_pos (by assumption)]; exact hO) | (rw [pos_step (by rw [outL_len]; omega), if_neg (by assumption)]; exact .inr ⟨by simp, H7.length, by simp, by omega, g9.new⟩), by exact hget_lt q2⟩, by rfl, by omega⟩
     ·
      try simp only [decide_eq_true_eq, decide_eq_false_iff_not, Bool.not_eq_true', Bool.not_eq_false', beq_iff_eq, beq_eq_false_iff_ne, ne_eq] at h9
      refine at_skip rfl ?_
      refine then_n ?_
      refine at_seq rfl ?_
      refine at_seq rfl ?_
      refine rg rfl ?_
      refine Rq ?_
      refine R_q (r := AV.i ((pos ((outL w).take u)).length : Nat)) rfl (by simp (disch := first | omega | (simp only [List.length_map, List.length_append, List.length_set, List.length_cons, List.length_nil]; omega)) only [go_sem, ↓reduceIte, Nat.reduceEqDiff, reduceCtorEq]; exact hO.len) ?_
      refine Rq ?_
      refine Rq ?_
      have tr : ∀ a b c d e f g h i j k m n o p q r s t u v w x y z A : AV, let l := lc_norm_ok a b c d e f g h i j k m n o p q r s t u v w; trim ((11,A)::(61,z)::(60,y)::(59,x)::l) l = [(0,a),(2,b),(3,c),(4,d),(6,e),(7,f),(8,g),(10,h),(11,A),(14,j),(15,k),(16,m),(17,n),(18,o),(38,p),(45,q),(50,r),(51,s),(52,t),(53,u),(58,v),(72,w)] := by intros; rfl
      refine R_nil (tr ..) ?_; clear tr
      refine then_n ?_
      refine at_seq rfl ?_
      refine rd rfl rfl ?_
      refine Qq ?_
      refine Qq ?_
      refine Qq ?_
      refine Qp_split (fun h10 => ?_) (fun h10 => ?_)
      ·
       try simp only [decide_eq_true_eq, decide_eq_false_iff_not, Bool.not_eq_true', Bool.not_eq_false', beq_iff_eq, beq_eq_false_iff_ne, ne_eq] at h10
       obtain ⟨h0, bo, rfl, hbo, qo⟩ := hO.resolve_left (fun hh => by have h7 := congrArg List.length hh.1; simp only [List.length_nil] at h7; omega)
       have hO := hO
       have hlt := pos_last (outL_pw w) (u := u) (by rw [outL_len]; omega) (by omega)
       refine Qy ?_
       refine Qq ?_
       refine Qy ?_
       refine Qq ?_
       refine Qy ?_
       refine Qq ?_
       refine Qy ?_
       refine Q_q (r := .agg (ocC (gt (pos ((outL w).take u)) ((pos ((outL w).take u)).length - 1)))) rfl (by simp (disch := first | omega | (simp only [List.length_map, List.length_append, List.length_set, List.length_cons, List.length_nil]; omega)) only [go_sem, ↓reduceIte, Nat.reduceEqDiff, reduceCtorEq, qo] <;> first | rfl | exact ld_oc _ _ (by omega) | (rw [Nat.zero_add]; exact ld_oc _ _ (by omega))) ?_
       refine Qy ?_
       refine Q_q rfl (by simp (disch := first | omega | (simp only [List.length_map, List.length_append, List.length_set, List.length_cons, List.length_nil]; omega)) only [go_sem, ↓reduceIte, Nat.reduceEqDiff, reduceCtorEq, hb, q6, q10, q2, qo] <;> rfl) ?_
       refine Qy ?_
       refine Qcall ?_
       refine ACall_eq (order_ok _ _ (gt (pos ((outL w).take u)) ((pos ((outL w).take u)).length - 1)) (gt (outL w) u)) ?_
       refine ⟨rfl, ?_⟩
       refine Qy ?_
       refine Qq ?_
       refine Qq ?_
       refine Q_nil ?_
       have tr : ∀ a b c d e f g h i j k m n o p q r s t u v w x y z A B C D E F G H : AV, let l := lc_norm_ok a b c d e f g h i j k m n o p q r s t u v w; trim ((72,H)::(71,G)::(70,F)::(69,E)::(68,D)::(67,C)::(66,B)::(65,A)::(64,z)::(63,y)::(62,x)::l) l = [(0,a),(2,b),(3,c),(4,d),(6,e),(7,f),(8,g),(10,h),(11,i),(14,j),(15,k),(16,m),(17,n),(18,o),(38,p),(45,q),(50,r),(51,s),(52,t),(53,u),(58,v),(72,H)] := by intros; rfl
       refine R_nil (tr ..) ?_; clear tr
       refine then_n ?_
       refine cdd (fun h11 => ?_) (fun h11 => ?_)
       ·
        try simp only [decide_eq_true_eq, decide_eq_false_iff_not, Bool.not_eq_true', Bool.not_eq_false', beq_iff_eq, beq_eq_false_iff_ne, ne_eq] at h11
        have := cmO_of_lt hlt; omega
       ·
        try simp only [decide_eq_true_eq, decide_eq_false_iff_not, Bool.not_eq_true', Bool.not_eq_false', beq_iff_eq, beq_eq_false_iff_ne, ne_eq] at h11
        refine at_skip rfl ?_
        refine then_n ?_
        refine rg rfl ?_
        refine Rq ?_
        refine R_q rfl (by simp (disch := first | omega | (simp only [List.length_map, List.length_append, List.length_set, List.length_cons, List.length_nil]; omega)) only [go_sem, ↓reduceIte, Nat.reduceEqDiff, reduceCtorEq, hb, q6, q10, q2, qo] <;> rfl) ?_
        refine A_buildSlice (bs29 _ _ _ _ (gt (outL w) u) (by simp (disch := first | omega | (simp only [List.length_map, List.length_append, List.length_set, List.length_cons, List.length_nil]; omega)) only [go_sem, ↓reduceIte, Nat.reduceEqDiff, reduceCtorEq, q10] <;> rfl)) ?_
        intro H7 n7
        have en7 := n7.len
        have q2 := (n7.old _ (hget_lt q2)).trans q2
        have qn := n7.new
        have hO := hO.mono fun b hb k hk => (n7.old _ (hget_lt hk)).trans hk
        have lq2 := hget_lt q2
        have lqn := hget_lt qn
        obtain ⟨b8, hb8, H8, hap, hgr, hold8, hwh⟩ := outO_appG (lim := H.length) (m := 1) (u := [(gt (outL w) u)]) hO (src_own (l := [(gt (outL w) u)]) qn rfl) (by omega) (by omega) (by omega) (by have := pos_len ((outL w).take u); have := List.length_take_le u (outL w); rw [outL_len] at *; omega)
        refine A_append ⟨H8, by simp (disch := first | omega | (simp only [List.length_map, List.length_append, List.length_set, List.length_cons, List.length_nil]; omega)) only [go_sem, ↓reduceIte, Nat.reduceEqDiff, reduceCtorEq]; exact hap, hgr⟩ ?_
        intro H9 g9
        have eg9 := g9.len
        have q2 := (g9.old _ (by omega) (by omega)).trans q2
        refine Rq ?_
        have tr : ∀ a b c d e f g h i j k m n o p q r s t u v w x y z A B : AV, let l := lc_norm_ok a b c d e f g h i j k m n o p q r s t u v w; trim ((8,B)::(86,A)::(85,z)::(84,y)::(83,x)::l) l = [(0,a),(2,b),(3,c),(4,d),(6,e),(7,f),(8,B),(10,h),(11,i),(14,j),(15,k),(16,m),(17,n),(18,o),(38,p),(45,q),(50,r),(51,s),(52,t),(53,u),(58,v),(72,w)] := by intros; rfl
        refine R_nil (tr ..) ?_; clear tr
        refine blk_n ?_
        refine then_n ?_
        refine rg rfl ?_
        refine Rq ?_
        refine Rq ?_
        have tr : ∀ a b c d e f g h i j k m n o p q r s t u v w x y : AV, let l := lc_norm_ok a b c d e f g h i j k m n o p q r s t u v w; trim ((52,y)::(87,x)::l) l = [(0,a),(2,b),(3,c),(4,d),(6,e),(7,f),(8,g),(10,h),(11,i),(14,j),(15,k),(16,m),(17,n),(18,o),(38,p),(45,q),(50,r),(51,s),(52,y),(53,u),(58,v),(72,w)] := by intros; rfl
        refine R_nil (tr ..) ?_; clear tr
        refine then_n ?_
        exact ⟨_, _, ⟨u + 1, (.own 3 H7.length 0 ((pos ((outL w).take u)).length + 1)), _, _, _, _, _, rfl, rfl, by omega, by exact q2, by first | (rw [pos_step (by rw [outL_len]; omega), if_pos (by assumption)]; exact hO) | (rw [pos_step (by rw [outL_len]; omega), if_neg (by assumption)]; exact .inr ⟨by simp, H7.length, by simp, by omega, g9.new⟩), by exact hget_lt q2⟩, by rfl, by omega⟩
      ·
       try simp only [decide_eq_true_eq, decide_eq_false_iff_not, Bool.not_eq_true', Bool.not_eq_false', beq_iff_eq, beq_eq_false_iff_ne, ne_eq] at h10
       refine Qn ?_
       refine Qn ?_
       refine Qn ?_
       refine Qn ?_
       refine Qn ?_
       refine Qn ?_
       refine Qn ?_
       refine Qq ?_
       refine Q_nil ?_
       have tr : ∀ a b c d e f g h i j k m n o p q r s t u v w x y z A B C D E F G H : AV, let l := lc_norm_ok a b c d e f g h i j k m n o p q r s t u v w; trim ((72,H)::(71,G)::(70,F)::(69,E)::(68,D)::(67,C)::(66,B)::(65,A)::(64,z)::(63,y)::(62,x)::l) l = [(0,a),(2,b),(3,c),(4,d),(6,e),(7,f),(8,g),(10,h),(11,i),(14,j),(15,k),(16,m),(17,n),(18,o),(38,p),(45,q),(50,r),(51,s),(52,t),(53,u),(58,v),(72,H)] := by intros; rfl
       refine R_nil (tr ..) ?_; clear tr
       refine then_n ?_
       refine cdf ?_
       refine at_skip rfl ?_
       refine then_n ?_
       refine rg rfl ?_
       refine Rq ?_
       refine R_q rfl (by simp (disch := first | omega | (simp only [List.length_map, List.length_append, List.length_set, List.length_cons, List.length_nil]; omega)) only [go_sem, ↓reduceIte, Nat.reduceEqDiff, reduceCtorEq, hb, q6, q10, q2, qo] <;> rfl) ?_
       refine A_buildSlice (bs29 _ _ _ _ (gt (outL w) u) (by simp (disch := first | omega | (simp only [List.length_map, List.length_append, List.length_set, List.length_cons, List.length_nil]; omega)) only [go_sem, ↓reduceIte, Nat.reduceEqDiff, reduceCtorEq, q10] <;> rfl)) ?_
       intro H7 n7
       have en7 := n7.len
       have q2 := (n7.old _ (hget_lt q2)).trans q2
       have qn := n7.new
       have hO := hO.mono fun b hb k hk => (n7.old _ (hget_lt hk)).trans hk
       have lq2 := hget_lt q2
       have lqn := hget_lt qn
       obtain ⟨b8, hb8, H8, hap, hgr, hold8, hwh⟩ := outO_appG (lim := H.length) (m := 1) (u := [(gt (outL w) u)]) hO (src_own (l := [(gt (outL w) u)]) qn rfl) (by omega) (by omega) (by omega) (by have := pos_len ((outL w).take u); have := List.length_take_le u (outL w); rw [outL_len] at *; omega)
       refine A_append ⟨H8, by simp (disch := first | omega | (simp only [List.length_map, List.length_append, List.length_set, List.length_cons, List.length_nil]; omega)) only [go_sem, ↓reduceIte, Nat.reduceEqDiff, reduceCtorEq]; exact hap, hgr⟩ ?_
       intro H9 g9
       have eg9 := g9.len
       have q2 := (g9.old _ (by omega) (by omega)).trans q2
       refine Rq ?_
       have tr : ∀ a b c d e f g h i j k m n o p q r s t u v w x y z A B : AV, let l := lc_norm_ok a b c d e f g h i j k m n o p q r s t u v w; trim ((8,B)::(86,A)::(85,z)::(84,y)::(83,x)::l) l = [(0,a),(2,b),(3,c),(4,d),(6,e),(7,f),(8,B),(10,h),(11,i),(14,j),(15,k),(16,m),(17,n),(18,o),(38,p),(45,q),(50,r),(51,s),(52,t),(53,u),(58,v),(72,w)] := by intros; rfl
       refine R_nil (tr ..) ?_; clear tr
       refine blk_n ?_
       refine then_n ?_
       refine rg rfl ?_
       refine Rq ?_
       refine Rq ?_
       have tr : ∀ a b c d e f g h i j k m n o p q r s t u v w x y : AV, let l := lc_norm_ok a b c d e f g h i j k m n o p q r s t u v w; trim ((52,y)::(87,x)::l) l = [(0,a),(2,b),(3,c),(4,d),(6,e),(7,f),(8,g),(10,h),(11,i),(14,j),(15,k),(16,m),(17,n),(18,o),(38,p),(45,q),(50,r),(51,s),(52,y),(53,u),(58,v),(72,w)] := by intros; rfl
       refine R_nil (tr ..) ?_; clear tr
       refine then_n ?_
       exact ⟨_, _, ⟨u + 1, (.own 3 H7.length 0 ((pos ((outL w).take u)).length + 1)), _, _, _, _, _, rfl, rfl, by omega, by exact q2, by first | (rw [pos_step (by rw [outL_len]; omega), if_pos (by assumption)]; exact hO) | (rw [pos_step (by rw [outL_len]; omega), if_neg (by assumption)]; exact .inr ⟨by simp, H7.length, by simp, by omega, g9.new⟩), by exact hget_lt q2⟩, by rfl, by omega⟩
    ·
     try simp only [decide_eq_true_eq, decide_eq_false_iff_not, Bool.not_eq_true', Bool.not_eq_false', beq_iff_eq, beq_eq_false_iff_ne, ne_eq] at h8
     refine at_exit rfl ?_
     refine then_x ?_
     refine then_x ?_
     refine blk_x ?_
     refine then_n ?_
     refine at_seq rfl ?_
     refine rg rfl ?_
     refine Rq ?_
     refine Rq ?_
     refine Rq ?_
     have tr : ∀ a b c d e f g h i j k m n o p q r s t u v w x y z : AV, let l := lc_norm_ok a b c d e f g h i j k m n o p q r s t u v w; trim ((3,z)::(2,y)::(88,x)::l) l = [(0,a),(2,y),(3,z),(4,d),(6,e),(7,f),(8,g),(10,h),(11,i),(14,j),(15,k),(16,m),(17,n),(18,o),(38,p),(45,q),(50,r),(51,s),(52,t),(53,u),(58,v),(72,w)] := by intros; rfl
     refine R_nil (tr ..) ?_; clear tr
     refine then_n ?_
     refine at_ret rfl ?_
     first | (refine fpure ?_; refine ⟨?_, rfl⟩; have e16 : (outL w).take u = (outL w) := List.take_of_length_le (by rw [outL_len]; omega); rw [e16] at hO; exact congrArg (fun z => AV.tup [z, AV.i 0]) ((hO.mono2 (by omega)).frz.trans (outO_ne (pos_out_ne g))))

end Go.Proofs.Ytplockpopmaejaa
end
