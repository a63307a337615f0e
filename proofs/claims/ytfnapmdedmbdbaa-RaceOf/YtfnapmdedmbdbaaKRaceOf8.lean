/-
  Texts of RaceOf, part 9 of 16. RaceOf: chapter 53 over the tables of chapter 51. The steps are written by program (walk.py).
-/
import Derived.Test.YtfnapmdedmbdbaaKRaceOf7
section
set_option linter.unusedSimpArgs false
set_option linter.unusedVariables false
set_option maxHeartbeats 4000000
set_option maxRecDepth 20000
namespace Go.Proofs.Ytfnapmdedmbdbaa
open Go Go.Am
abbrev lc_contains_ok (a b c d : AV) : Env := [(0,a),(1,b),(3,c),(4,d)]
theorem contains_ok (lim lo : Nat) (H : Heap) (o : AV) (m : List Pr) (p : Pr) (hO : OutP lo H o m) (hm : m.length ≤ 1000) :
    ACall sig lim 47 [o, .agg (prC p)] H fun r H' => r = .v (.bool (decide (p ∈ m))) ∧ H' = H := by
 refine ACall_pure (fa := fa47) rfl rfl rfl rfl ?_
 have tr : ∀ a0 a1 : AV, env0 fa47.keep [a0, a1] = [(0,a0),(1,a1),(3,.any),(4,.any)] := fun a0 a1 => rfl
 refine W_to (tr _ _) ?_; clear tr
 refine at_seq rfl ?_
 refine rg rfl ?_
 refine R_box rfl (by simp (disch := first | omega | (simp only [List.length_map, List.length_append, List.length_set, List.length_cons, List.length_nil]; omega)) only [go_sem, ↓reduceIte, Nat.reduceEqDiff, reduceCtorEq] <;> rfl) rfl rfl ?_
 refine Rq ?_
 have tr : ∀ a b c d e f : AV, let l := lc_contains_ok a b c d; trim ((4,f)::(3,e)::l) l = [(0,a),(1,b),(3,e),(4,f)] := by intros; rfl
 refine R_nil (tr ..) ?_; clear tr
 refine then_n ?_
 refine at_seq rfl ?_
 refine rg rfl ?_
 refine Rq ?_
 refine Rq ?_
 refine Rcall ?_
 refine ACall_mono (index_any _ lo _ o m p (hO.mono fun b _ k hk => by rw [hget_low _ _ _ (hget_lt hk)]; exact hk) hm) ?_
 rintro r H6 ⟨⟨k, rfl, hk⟩, rfl⟩
 refine Rq ?_
 refine Rq ?_
 have tr : ∀ a b c d e f g h i : AV, let l := lc_contains_ok a b c d; trim ((4,i)::(8,h)::(7,g)::(6,f)::(5,e)::l) l = [(0,a),(1,b),(3,c),(4,i)] := by intros; rfl
 refine R_nil (tr ..) ?_; clear tr
 refine then_n ?_
 refine at_ret rfl ?_
 refine fpure ?_
 refine ⟨?_, rfl⟩
 congr 2
 rw [decide_eq_decide]
 rcases hk with ⟨h1, h2, h3⟩ | ⟨h1, h2⟩
 · exact ⟨fun _ => by rw [← h3, gt_eq _ _ (by omega)]; exact List.getElem_mem _, fun _ => h1⟩
 · exact ⟨fun hh => by omega, fun hh => absurd hh h2⟩

abbrev lc_pairs_ok (a b c d e f g h i j : AV) : Env := [(0,a),(2,b),(3,c),(5,d),(6,e),(7,f),(8,g),(9,h),(10,i),(18,j)]
theorem pairs_ok (lim : Nat) (H : Heap) (L : List Pr) (hL : L.length ≤ 400) :
    ACall sig lim 28 [prsAV L] H fun r H' => r = pairsA L ∧ H' = H := by
 have qx : True := trivial
 have qp : True := trivial
 refine ACall_pure (fa := fa28) rfl rfl rfl rfl ?_
 have tr : ∀ a0 : AV, env0 fa28.keep [a0] = [(0,a0),(2,.any),(3,.any),(5,.any),(6,.any),(7,.any),(8,.any),(9,.any),(10,.any),(18,.any)] := fun a0 => rfl
 refine W_to (tr _) ?_; clear tr
 refine at_seq rfl ?_
 refine rg rfl ?_
 refine Rq ?_
 have tr : ∀ a b c d e f g h i j k : AV, let l := lc_pairs_ok a b c d e f g h i j; trim ((2,k)::l) l = [(0,a),(2,k),(3,c),(5,d),(6,e),(7,f),(8,g),(9,h),(10,i),(18,j)] := by intros; rfl
 refine R_nil (tr ..) ?_; clear tr
 refine then_n ?_
 refine at_seq rfl ?_
 refine rg rfl ?_
 refine Rq ?_
 have tr : ∀ a b c d e f g h i j k : AV, let l := lc_pairs_ok a b c d e f g h i j; trim ((3,k)::l) l = [(0,a),(2,b),(3,k),(5,d),(6,e),(7,f),(8,g),(9,h),(10,i),(18,j)] := by intros; rfl
 refine R_nil (tr ..) ?_; clear tr
 refine then_n ?_
 refine at_seq rfl ?_
 refine at_seq rfl ?_
 refine rg rfl ?_
 refine Rq ?_
 refine Rq ?_
 refine Rq ?_
 have tr : ∀ a b c d e f g h i j k m n : AV, let l := lc_pairs_ok a b c d e f g h i j; trim ((9,n)::(8,m)::(7,k)::l) l = [(0,a),(2,b),(3,c),(5,d),(6,e),(7,k),(8,m),(9,n),(10,i),(18,j)] := by intros; rfl
 refine R_nil (tr ..) ?_; clear tr
 refine then_n ?_
 refine at_block rfl ?_
 refine loop_n rfl (fun mm kv H' => ∃ u : Nat, ∃ o : AV, ∃ x5 x6 x10 x18 : AV, (kv = [(3, o), (5, x5), (6, x6), (9, AV.i u), (10, x10), (18, x18)]) ∧ (mm = L.length - u) ∧ (H.length ≤ H'.length) ∧ (u ≤ L.length) ∧ (OutP H.length H' o (pairsN L u))) ⟨0, _, _, _, _, _, rfl, rfl, by exact Nat.le_refl _, by omega, by exact .inl ⟨rfl, rfl⟩⟩ (by rfl) ?_
 rintro mm kv HB ⟨u, o, x5, x6, x10, x18, rfl, rfl, hHB, hu, hO⟩
 have tr : ∀ a b c d e f g h i j k m n o p q : AV, upd [(0,a),(2,b),(3,c),(5,d),(6,e),(7,f),(8,g),(9,h),(10,i),(18,j)] [(3,k),(5,m),(6,n),(9,o),(10,p),(18,q)] = [(0,a),(2,b),(3,k),(5,m),(6,n),(7,f),(8,g),(9,o),(10,p),(18,q)] := by intros; rfl
 refine W_to (tr ..) ?_; clear tr
 have hpl := pairs_len L u
 refine at_seq rfl ?_
 refine rg rfl ?_
 refine Rq ?_
 have tr : ∀ a b c d e f g h i j k : AV, let l := lc_pairs_ok a b c d e f g h i j; trim ((10,k)::l) l = [(0,a),(2,b),(3,c),(5,d),(6,e),(7,f),(8,g),(9,h),(10,k),(18,j)] := by intros; rfl
 refine R_nil (tr ..) ?_; clear tr
 refine then_n ?_
 refine at_seq rfl ?_
 refine cdd (fun h1 => ?_) (fun h1 => ?_)
 ·
  try simp only [decide_eq_true_eq, decide_eq_false_iff_not, Bool.not_eq_true', Bool.not_eq_false', beq_iff_eq, beq_eq_false_iff_ne, ne_eq] at h1
  refine at_skip rfl ?_
  refine then_n ?_
  refine at_seq rfl ?_
  refine at_block rfl ?_
  refine at_seq rfl ?_
  refine rg rfl ?_
  have hO1 := hO
  refine Rq ?_
  refine R_q rfl (by simp (disch := first | omega | (simp only [List.length_map, List.length_append, List.length_set, List.length_cons, List.length_nil]; omega)) only [go_sem, ↓reduceIte, Nat.reduceEqDiff, reduceCtorEq, qx, qp] <;> rfl) ?_
  refine A_alloc rfl ?_
  intro HC n4
  have en4 := n4.len
  have qx := n4.new
  have hO := hO.mono fun b hb k hk => (n4.old _ (hget_lt hk)).trans hk
  have lqx := hget_lt qx
  refine A_store ty33 (by simp (disch := first | omega | (simp only [List.length_map, List.length_append, List.length_set, List.length_cons, List.length_nil]; omega)) only [go_sem, ↓reduceIte, Nat.reduceEqDiff, reduceCtorEq] <;> rfl) (by simp (disch := first | omega | (simp only [List.length_map, List.length_append, List.length_set, List.length_cons, List.length_nil]; omega)) only [go_sem, ↓reduceIte, Nat.reduceEqDiff, reduceCtorEq, qx] <;> rfl) qx ⟨by omega, rfl, by first | exact Nat.le_refl _ | simp⟩ (show _ = prC (gt L u) from rfl) ?_
  intro HD w4
  have ew4 := w4.len
  have qx := w4.new
  have hO := hO1.mono fun b hb k hk => (w4.old _ (by have := hget_lt hk; omega)).trans ((n4.old _ (hget_lt hk)).trans hk)
  have tr : ∀ a b c d e f g h i j k m n : AV, let l := lc_pairs_ok a b c d e f g h i j; trim ((5,n)::(12,m)::(11,k)::l) l = [(0,a),(2,b),(3,c),(5,n),(6,e),(7,f),(8,g),(9,h),(10,i),(18,j)] := by intros; rfl
  refine R_nil (tr ..) ?_; clear tr
  refine then_n ?_
  refine at_seq rfl ?_
  refine rg rfl ?_
  refine R_q rfl (by simp (disch := first | omega | (simp only [List.length_map, List.length_append, List.length_set, List.length_cons, List.length_nil]; omega)) only [go_sem, ↓reduceIte, Nat.reduceEqDiff, reduceCtorEq, qx, qp] <;> rfl) ?_
  refine Rcall ?_
  refine ACall_eq (pair_ok _ _ _) ?_
  have hO1 := hO
  refine A_alloc rfl ?_
  intro HE n5
  have en5 := n5.len
  have qx := (n5.old _ (hget_lt qx)).trans qx
  have qp := n5.new
  have lqx := hget_lt qx
  have lqp := hget_lt qp
  refine A_store ty33 (by simp (disch := first | omega | (simp only [List.length_map, List.length_append, List.length_set, List.length_cons, List.length_nil]; omega)) only [go_sem, ↓reduceIte, Nat.reduceEqDiff, reduceCtorEq] <;> rfl) (by simp (disch := first | omega | (simp only [List.length_map, List.length_append, List.length_set, List.length_cons, List.length_nil]; omega)) only [go_sem, ↓reduceIte, Nat.reduceEqDiff, reduceCtorEq, qp] <;> rfl) qp ⟨by omega, rfl, by first | exact Nat.le_refl _ | simp⟩ (show _ = prC (norm (gt L u)) from rfl) ?_
  intro HF w5
  have ew5 := w5.len
  have qx := (w5.old _ (by omega)).trans qx
  have qp := w5.new
  have hO := hO1.mono fun b hb k hk => (w5.old _ (by have := hget_lt hk; omega)).trans ((n5.old _ (hget_lt hk)).trans hk)
  have tr : ∀ a b c d e f g h i j k m n : AV, let l := lc_pairs_ok a b c d e f g h i j; trim ((6,n)::(14,m)::(13,k)::l) l = [(0,a),(2,b),(3,c),(5,d),(6,n),(7,f),(8,g),(9,h),(10,i),(18,j)] := by intros; rfl
  refine R_nil (tr ..) ?_; clear tr
  refine then_n ?_
  refine at_seq rfl ?_
  refine rg rfl ?_
  refine Rq ?_
  refine R_q rfl (by simp (disch := first | omega | (simp only [List.length_map, List.length_append, List.length_set, List.length_cons, List.length_nil]; omega)) only [go_sem, ↓reduceIte, Nat.reduceEqDiff, reduceCtorEq, qx, qp] <;> rfl) ?_
  refine Rcall ?_
  refine ACall_eq (contains_ok _ H.length _ o _ _ hO (by omega)) ?_
  refine Rq ?_
  have tr : ∀ a b c d e f g h i j k m n o : AV, let l := lc_pairs_ok a b c d e f g h i j; trim ((18,o)::(17,n)::(16,m)::(15,k)::l) l = [(0,a),(2,b),(3,c),(5,d),(6,e),(7,f),(8,g),(9,h),(10,i),(18,o)] := by intros; rfl
  refine R_nil (tr ..) ?_; clear tr
  refine then_n ?_
  refine cdd (fun h2 => ?_) (fun h2 => ?_)
  ·
   try simp only [decide_eq_true_eq, decide_eq_false_iff_not, Bool.not_eq_true', Bool.not_eq_false', beq_iff_eq, beq_eq_false_iff_ne, ne_eq] at h2
   refine rg rfl ?_
   refine Rq ?_
   refine R_q rfl (by simp (disch := first | omega | (simp only [List.length_map, List.length_append, List.length_set, List.length_cons, List.length_nil]; omega)) only [go_sem, ↓reduceIte, Nat.reduceEqDiff, reduceCtorEq, qx, qp] <;> rfl) ?_
   have hob := fun b hb => hO.lt (b := b) hb
   refine A_buildSlice (bs41 _ _ _ _ (norm (gt L u)) (by simp (disch := first | omega | (simp only [List.length_map, List.length_append, List.length_set, List.length_cons, List.length_nil]; omega)) only [go_sem, ↓reduceIte, Nat.reduceEqDiff, reduceCtorEq, qx, qp])) ?_
   intro HG n7
   have en7 := n7.len
   have qx := (n7.old _ (hget_lt qx)).trans qx
   have qp := (n7.old _ (hget_lt qp)).trans qp
   have qn := n7.new
   have hO := hO.mono fun b hb k hk => (n7.old _ (hget_lt hk)).trans hk
   obtain ⟨b, hbl, hbl2, hap⟩ := outP_append (lim := H.length) hO hob qn (Nat.le_refl _) (by omega) (by omega)
   refine A_append (by simp (disch := first | omega | (simp only [List.length_map, List.length_append, List.length_set, List.length_cons, List.length_nil]; omega)) only [go_sem, ↓reduceIte, Nat.reduceEqDiff, reduceCtorEq]; exact hap) ?_
   intro HK g7
   have eg7 := g7.len
   refine Rq ?_
   have tr : ∀ a b c d e f g h i j k m n o p : AV, let l := lc_pairs_ok a b c d e f g h i j; trim ((3,p)::(22,o)::(21,n)::(20,m)::(19,k)::l) l = [(0,a),(2,b),(3,p),(5,d),(6,e),(7,f),(8,g),(9,h),(10,i),(18,j)] := by intros; rfl
   refine R_nil (tr ..) ?_; clear tr
   refine blk_n ?_
   refine then_n ?_
   refine rg rfl ?_
   refine Rq ?_
   refine Rq ?_
   have tr : ∀ a b c d e f g h i j k m : AV, let l := lc_pairs_ok a b c d e f g h i j; trim ((9,m)::(23,k)::l) l = [(0,a),(2,b),(3,c),(5,d),(6,e),(7,f),(8,g),(9,m),(10,i),(18,j)] := by intros; rfl
   refine R_nil (tr ..) ?_; clear tr
   refine then_n ?_
   exact ⟨_, _, ⟨u + 1, (.own 2 HG.length 0 ((pairsN L u).length + 1)), _, _, _, _, rfl, rfl, by first | (show H.length ≤ HK.length; omega) | (show H.length ≤ HF.length; omega), by omega, by first | exact pairs_new g7 (by omega) (by assumption) | exact pairs_old hO (by assumption)⟩, by rfl, by omega⟩
  ·
   try simp only [decide_eq_true_eq, decide_eq_false_iff_not, Bool.not_eq_true', Bool.not_eq_false', beq_iff_eq, beq_eq_false_iff_ne, ne_eq] at h2
   refine at_skip rfl ?_
   refine blk_n ?_
   refine then_n ?_
   refine rg rfl ?_
   refine Rq ?_
   refine Rq ?_
   have tr : ∀ a b c d e f g h i j k m : AV, let l := lc_pairs_ok a b c d e f g h i j; trim ((9,m)::(23,k)::l) l = [(0,a),(2,b),(3,c),(5,d),(6,e),(7,f),(8,g),(9,m),(10,i),(18,j)] := by intros; rfl
   refine R_nil (tr ..) ?_; clear tr
   refine then_n ?_
   exact ⟨_, _, ⟨u + 1, o, _, _, _, _, rfl, rfl, by first | (show H.length ≤ HK.length; omega) | (show H.length ≤ HF.length; omega), by omega, by first | exact pairs_new g7 (by omega) (by assumption) | exact pairs_old hO (by assumption)⟩, by rfl, by omega⟩
 ·
  try simp only [decide_eq_true_eq, decide_eq_false_iff_not, Bool.not_eq_true', Bool.not_eq_false', beq_iff_eq, beq_eq_false_iff_ne, ne_eq] at h1
  refine at_exit rfl ?_
  refine then_x ?_
  refine then_x ?_
  refine blk_x ?_
  refine then_n ?_
  refine at_seq rfl ?_
  refine rg rfl ?_
  refine Rq ?_
  refine Rq ?_
  have tr : ∀ a b c d e f g h i j k m : AV, let l := lc_pairs_ok a b c d e f g h i j; trim ((2,m)::(24,k)::l) l = [(0,a),(2,m),(3,c),(5,d),(6,e),(7,f),(8,g),(9,h),(10,i),(18,j)] := by intros; rfl
  refine R_nil (tr ..) ?_; clear tr
  refine then_n ?_
  refine at_ret rfl ?_
  obtain rfl : u = L.length := by omega
  refine fpure ?_
  exact ⟨hO.frz, rfl⟩

end Go.Proofs.Ytfnapmdedmbdbaa
end
section
set_option linter.unusedSimpArgs false
set_option linter.unusedVariables false
set_option maxHeartbeats 4000000
set_option maxRecDepth 20000
namespace Go.Proofs.Ytfnapmdedmbdbaa
open Go Go.Am
abbrev lc_rpairs_ok (a b c d e f g h i j k m n o p q r s t u : AV) : Env := [(0,a),(1,b),(2,c),(4,d),(5,e),(6,f),(7,g),(9,h),(10,i),(11,j),(13,k),(14,m),(15,n),(16,o),(28,p),(30,q),(31,r),(32,s),(39,t),(48,u)]
theorem rpairs_ok (lim : Nat) (H : Heap) (P : List Int) (L : List Pr) (hL : L.length ≤ 400) (hv : ∀ i, i < L.length → 0 ≤ (gt L i).a ∧ 0 ≤ (gt L i).b) :
    ACall sig lim 32 [.agg (raceC P L), AV.i (-1)] H fun r H' => (∃ x, r = .tup [refA L, x]) ∧ H' = H := by
 have q0 : True := trivial
 have qx : True := trivial
 have q1 : True := trivial
 have q2 : True := trivial
 refine ACall_pure (fa := fa32) rfl rfl rfl rfl ?_
 have tr : ∀ a0 a1 : AV, env0 fa32.keep [a0, a1] = [(0,a0),(1,a1),(2,.any),(4,.any),(5,.any),(6,.any),(7,.any),(9,.any),(10,.any),(11,.any),(13,.any),(14,.any),(15,.any),(16,.any),(28,.any),(30,.any),(31,.any),(32,.any),(39,.any),(48,.any)] := fun a0 a1 => rfl
 refine W_to (tr _ _) ?_; clear tr
 refine at_seq rfl ?_
 refine rg rfl ?_
 refine A_box rfl (by simp (disch := first | omega | (simp only [List.length_map, List.length_append, List.length_set, List.length_cons, List.length_nil]; omega)) only [go_sem, ↓reduceIte, Nat.reduceEqDiff, reduceCtorEq] <;> rfl) ?_
 intro H1 n0
 have en0 := n0.len
 have q0 := n0.new
 refine Rq ?_
 refine Rq ?_
 have tr : ∀ a b c d e f g h i j k m n o p q r s t u v w x : AV, let l := lc_rpairs_ok a b c d e f g h i j k m n o p q r s t u; trim ((5,x)::(4,w)::(2,v)::l) l = [(0,a),(1,b),(2,v),(4,w),(5,x),(6,f),(7,g),(9,h),(10,i),(11,j),(13,k),(14,m),(15,n),(16,o),(28,p),(30,q),(31,r),(32,s),(39,t),(48,u)] := by intros; rfl
 refine R_nil (tr ..) ?_; clear tr
 refine then_n ?_
 refine at_seq rfl ?_
 refine rg rfl ?_
 refine Rq ?_
 have tr : ∀ a b c d e f g h i j k m n o p q r s t u v : AV, let l := lc_rpairs_ok a b c d e f g h i j k m n o p q r s t u; trim ((6,v)::l) l = [(0,a),(1,b),(2,c),(4,d),(5,e),(6,v),(7,g),(9,h),(10,i),(11,j),(13,k),(14,m),(15,n),(16,o),(28,p),(30,q),(31,r),(32,s),(39,t),(48,u)] := by intros; rfl
 refine R_nil (tr ..) ?_; clear tr
 refine then_n ?_
 refine at_seq rfl ?_
 refine rg rfl ?_
 refine Rq ?_
 have tr : ∀ a b c d e f g h i j k m n o p q r s t u v : AV, let l := lc_rpairs_ok a b c d e f g h i j k m n o p q r s t u; trim ((7,v)::l) l = [(0,a),(1,b),(2,c),(4,d),(5,e),(6,f),(7,v),(9,h),(10,i),(11,j),(13,k),(14,m),(15,n),(16,o),(28,p),(30,q),(31,r),(32,s),(39,t),(48,u)] := by intros; rfl
 refine R_nil (tr ..) ?_; clear tr
 refine then_n ?_
 refine at_seq rfl ?_
 refine at_seq rfl ?_
 refine rg rfl ?_
 refine Rq ?_
 refine R_q rfl (by simp (disch := first | omega | (simp only [List.length_map, List.length_append, List.length_set, List.length_cons, List.length_nil]; omega)) only [go_sem, ↓reduceIte, Nat.reduceEqDiff, reduceCtorEq, q0, qx, q1, q2] <;> rfl) ?_
 refine Rq ?_
 refine Rq ?_
 have tr : ∀ a b c d e f g h i j k m n o p q r s t u v w x y : AV, let l := lc_rpairs_ok a b c d e f g h i j k m n o p q r s t u; trim ((15,y)::(14,x)::(13,w)::(12,v)::l) l = [(0,a),(1,b),(2,c),(4,d),(5,e),(6,f),(7,g),(9,h),(10,i),(11,j),(13,w),(14,x),(15,y),(16,o),(28,p),(30,q),(31,r),(32,s),(39,t),(48,u)] := by intros; rfl
 refine R_nil (tr ..) ?_; clear tr
 refine then_n ?_
 refine at_block rfl ?_
 refine loop_n rfl (fun mm kv H' => ∃ u : Nat, ∃ o1 : AV, ∃ o2 : AV, ∃ N : List Int, ∃ x9 x10 x11 x16 x28 x30 x31 x32 x39 x48 : AV, (kv = [(6, o1), (7, o2), (9, x9), (10, x10), (11, x11), (15, AV.i u), (16, x16), (28, x28), (30, x30), (31, x31), (32, x32), (39, x39), (48, x48)]) ∧ (mm = L.length - u) ∧ (hget H' H.length = some (raceC P L)) ∧ (H1.length ≤ H'.length) ∧ (u ≤ L.length) ∧ (OutPN H1.length H' o1 o2 (refN L u) N) ∧ (∀ i, 0 ≤ gt N i ∧ gt N i ≤ u)) ⟨0, _, _, [], _, _, _, _, _, _, _, _, _, _, rfl, rfl, by exact q0, by exact Nat.le_refl _, by omega, by exact .inl ⟨rfl, rfl, rfl, rfl⟩, by intro i; exact ⟨Int.le_refl _, Int.le_refl _⟩⟩ (by rfl) ?_
 rintro mm kv HB ⟨u, o1, o2, N, x9, x10, x11, x16, x28, x30, x31, x32, x39, x48, rfl, rfl, q0, hHB, hu, hO, hNr0⟩
 have tr : ∀ a b c d e f g h i j k m n o p q r s t u v w x y z A B C D E F G H : AV, upd [(0,a),(1,b),(2,c),(4,d),(5,e),(6,f),(7,g),(9,h),(10,i),(11,j),(13,k),(14,m),(15,n),(16,o),(28,p),(30,q),(31,r),(32,s),(39,t),(48,u)] [(6,v),(7,w),(9,x),(10,y),(11,z),(15,A),(16,B),(28,C),(30,D),(31,E),(32,F),(39,G),(48,H)] = [(0,a),(1,b),(2,c),(4,d),(5,e),(6,v),(7,w),(9,x),(10,y),(11,z),(13,k),(14,m),(15,A),(16,B),(28,C),(30,D),(31,E),(32,F),(39,G),(48,H)] := by intros; rfl
 refine W_to (tr ..) ?_; clear tr
 have hpl := ref_len L u
 have hpl2 := pairs_len L u
 refine at_seq rfl ?_
 refine rg rfl ?_
 refine Rq ?_
 have tr : ∀ a b c d e f g h i j k m n o p q r s t u v : AV, let l := lc_rpairs_ok a b c d e f g h i j k m n o p q r s t u; trim ((16,v)::l) l = [(0,a),(1,b),(2,c),(4,d),(5,e),(6,f),(7,g),(9,h),(10,i),(11,j),(13,k),(14,m),(15,n),(16,v),(28,p),(30,q),(31,r),(32,s),(39,t),(48,u)] := by intros; rfl
 refine R_nil (tr ..) ?_; clear tr
 refine then_n ?_
 refine at_seq rfl ?_
 refine cdd (fun h1 => ?_) (fun h1 => ?_)
 ·
  try simp only [decide_eq_true_eq, decide_eq_false_iff_not, Bool.not_eq_true', Bool.not_eq_false', beq_iff_eq, beq_eq_false_iff_ne, ne_eq] at h1
  refine at_skip rfl ?_
  refine then_n ?_
  refine at_seq rfl ?_
  refine at_block rfl ?_
  refine at_seq rfl ?_
  refine rg rfl ?_
  refine Rq ?_
  refine R_q rfl (by simp (disch := first | omega | (simp only [List.length_map, List.length_append, List.length_set, List.length_cons, List.length_nil]; omega)) only [go_sem, ↓reduceIte, Nat.reduceEqDiff, reduceCtorEq, q0, qx, q1, q2] <;> rfl) ?_
  have hO1 := hO
  have lq0 := hget_lt q0
  refine A_alloc rfl ?_
  intro HC n4
  have en4 := n4.len
  have q0 := (n4.old _ (hget_lt q0)).trans q0
  have qx := n4.new
  have lq0 := hget_lt q0
  have lqx := hget_lt qx
  refine A_store ty33 (by simp (disch := first | omega | (simp only [List.length_map, List.length_append, List.length_set, List.length_cons, List.length_nil]; omega)) only [go_sem, ↓reduceIte, Nat.reduceEqDiff, reduceCtorEq, q0, qx, q1, q2] <;> rfl) (by simp (disch := first | omega | (simp only [List.length_map, List.length_append, List.length_set, List.length_cons, List.length_nil]; omega)) only [go_sem, ↓reduceIte, Nat.reduceEqDiff, reduceCtorEq, q0, qx, q1, q2] <;> rfl) qx ⟨by omega, rfl, by first | exact Nat.le_refl _ | simp⟩ (show _ = prC (gt L u) from rfl) ?_
  intro HD w4
  have ew4 := w4.len
  have q0 := (w4.old _ (by omega)).trans q0
  have qx := w4.new
  have hO := hO1.mono fun b hb k hk => (w4.old _ (by have := hget_lt hk; omega)).trans ((n4.old _ (hget_lt hk)).trans hk)
  have tr : ∀ a b c d e f g h i j k m n o p q r s t u v w x : AV, let l := lc_rpairs_ok a b c d e f g h i j k m n o p q r s t u; trim ((9,x)::(18,w)::(17,v)::l) l = [(0,a),(1,b),(2,c),(4,d),(5,e),(6,f),(7,g),(9,x),(10,i),(11,j),(13,k),(14,m),(15,n),(16,o),(28,p),(30,q),(31,r),(32,s),(39,t),(48,u)] := by intros; rfl
  refine R_nil (tr ..) ?_; clear tr
  refine then_n ?_
  refine at_seq rfl ?_
  refine at_seq rfl ?_
  refine rg rfl ?_
  have hvu := hv u (by omega)
  refine Rq ?_
  refine R_q rfl (by simp (disch := first | omega | (simp only [List.length_map, List.length_append, List.length_set, List.length_cons, List.length_nil]; omega)) only [go_sem, ↓reduceIte, Nat.reduceEqDiff, reduceCtorEq, q0, qx, q1, q2] <;> rfl) ?_
  refine Rq ?_
  refine Rq ?_
  refine Rq ?_
  refine Rp_split (fun h2 => ?_) (fun h2 => ?_)
  ·
   try simp only [decide_eq_true_eq, decide_eq_false_iff_not, Bool.not_eq_true', Bool.not_eq_false', beq_iff_eq, beq_eq_false_iff_ne, ne_eq] at h2
   exfalso; omega
  ·
   try simp only [decide_eq_true_eq, decide_eq_false_iff_not, Bool.not_eq_true', Bool.not_eq_false', beq_iff_eq, beq_eq_false_iff_ne, ne_eq] at h2
   refine Ry ?_
   refine Rq ?_
   refine Ry ?_
   refine R_q rfl (by simp (disch := first | omega | (simp only [List.length_map, List.length_append, List.length_set, List.length_cons, List.length_nil]; omega)) only [go_sem, ↓reduceIte, Nat.reduceEqDiff, reduceCtorEq, q0, qx, q1, q2] <;> rfl) ?_
   refine Ry ?_
   refine Rq ?_
   refine Ry ?_
   refine Rq ?_
   refine Rq ?_
   have tr : ∀ a b c d e f g h i j k m n o p q r s t u v w x y z A B C D E : AV, let l := lc_rpairs_ok a b c d e f g h i j k m n o p q r s t u; trim ((28,E)::(27,D)::(26,C)::(25,B)::(24,A)::(23,z)::(22,y)::(21,x)::(20,w)::(19,v)::l) l = [(0,a),(1,b),(2,c),(4,d),(5,e),(6,f),(7,g),(9,h),(10,i),(11,j),(13,k),(14,m),(15,n),(16,o),(28,E),(30,q),(31,r),(32,s),(39,t),(48,u)] := by intros; rfl
   refine R_nil (tr ..) ?_; clear tr
   refine then_n ?_
   refine cdd (fun h3 => ?_) (fun h3 => ?_)
   ·
    try simp only [decide_eq_true_eq, decide_eq_false_iff_not, Bool.not_eq_true', Bool.not_eq_false', beq_iff_eq, beq_eq_false_iff_ne, ne_eq] at h3
    exfalso; omega
   ·
    try simp only [decide_eq_true_eq, decide_eq_false_iff_not, Bool.not_eq_true', Bool.not_eq_false', beq_iff_eq, beq_eq_false_iff_ne, ne_eq] at h3
    refine at_skip rfl ?_
    refine then_n ?_
    refine at_seq rfl ?_
    refine rg rfl ?_
    refine Rq ?_
    have tr : ∀ a b c d e f g h i j k m n o p q r s t u v : AV, let l := lc_rpairs_ok a b c d e f g h i j k m n o p q r s t u; trim ((10,v)::l) l = [(0,a),(1,b),(2,c),(4,d),(5,e),(6,f),(7,g),(9,h),(10,v),(11,j),(13,k),(14,m),(15,n),(16,o),(28,p),(30,q),(31,r),(32,s),(39,t),(48,u)] := by intros; rfl
    refine R_nil (tr ..) ?_; clear tr
    refine then_n ?_
    refine at_seq rfl ?_
    refine at_seq rfl ?_
    refine rg rfl ?_
    refine Rq ?_
    refine R_q rfl (by simp (disch := first | omega | (simp only [List.length_map, List.length_append, List.length_set, List.length_cons, List.length_nil]; omega)) only [go_sem, ↓reduceIte, Nat.reduceEqDiff, reduceCtorEq]; exact hO.len) ?_
    refine Rq ?_
    have tr : ∀ a b c d e f g h i j k m n o p q r s t u v w x : AV, let l := lc_rpairs_ok a b c d e f g h i j k m n o p q r s t u; trim ((31,x)::(30,w)::(29,v)::l) l = [(0,a),(1,b),(2,c),(4,d),(5,e),(6,f),(7,g),(9,h),(10,i),(11,j),(13,k),(14,m),(15,n),(16,o),(28,p),(30,w),(31,x),(32,s),(39,t),(48,u)] := by intros; rfl
    refine R_nil (tr ..) ?_; clear tr
    refine then_n ?_
    refine at_block rfl ?_
    refine loop_n rfl (fun mm kv H' => ∃ w : Nat, ∃ met : Bool, ∃ N2 : List Int, ∃ x11 x32 x39 : AV, (kv = [(10, AV.b met), (11, x11), (31, AV.i w), (32, x32), (39, x39)]) ∧ (mm = (refN L u).length - w) ∧ (hget H' H.length = some (raceC P L)) ∧ (hget H' HB.length = some (prC (gt L u))) ∧ (HB.length < H'.length) ∧ (OutPN H1.length H' o1 o2 (refN L u) N2) ∧ (w ≤ (refN L u).length) ∧ ((met = true ↔ ∃ i, i < w ∧ norm (gt (refN L u) i) = norm (gt L u))) ∧ (∀ i, 0 ≤ gt N2 i ∧ gt N2 i ≤ u + 1) ∧ (∀ i, w ≤ i → gt N2 i ≤ u)) ⟨0, false, N, _, _, _, rfl, rfl, by exact q0, by exact qx, by omega, by exact hO, by omega, by exact ⟨fun hh => (by cases hh), fun ⟨i, hi, _⟩ => (by omega)⟩, by intro i; have := hNr0 i; omega, by intro i _; exact (hNr0 i).2⟩ (by rfl) ?_
    rintro mm kv HF ⟨w, met, N2, x11, x32, x39, rfl, rfl, q0, qx, hHF, hO, hw, hmet, hNb, hNc⟩
    have tr : ∀ a b c d e f g h i j k m n o p q r s t u v w x y z : AV, upd [(0,a),(1,b),(2,c),(4,d),(5,e),(6,f),(7,g),(9,h),(10,i),(11,j),(13,k),(14,m),(15,n),(16,o),(28,p),(30,q),(31,r),(32,s),(39,t),(48,u)] [(10,v),(11,w),(31,x),(32,y),(39,z)] = [(0,a),(1,b),(2,c),(4,d),(5,e),(6,f),(7,g),(9,h),(10,v),(11,w),(13,k),(14,m),(15,n),(16,o),(28,p),(30,q),(31,x),(32,y),(39,z),(48,u)] := by intros; rfl
    refine W_to (tr ..) ?_; clear tr
    refine at_seq rfl ?_
    refine rg rfl ?_
    refine Rq ?_
    have tr : ∀ a b c d e f g h i j k m n o p q r s t u v : AV, let l := lc_rpairs_ok a b c d e f g h i j k m n o p q r s t u; trim ((32,v)::l) l = [(0,a),(1,b),(2,c),(4,d),(5,e),(6,f),(7,g),(9,h),(10,i),(11,j),(13,k),(14,m),(15,n),(16,o),(28,p),(30,q),(31,r),(32,v),(39,t),(48,u)] := by intros; rfl
    refine R_nil (tr ..) ?_; clear tr
    refine then_n ?_
    refine at_seq rfl ?_
    refine cdd (fun h4 => ?_) (fun h4 => ?_)
    ·
     try simp only [decide_eq_true_eq, decide_eq_false_iff_not, Bool.not_eq_true', Bool.not_eq_false', beq_iff_eq, beq_eq_false_iff_ne, ne_eq] at h4
     refine at_skip rfl ?_
     refine then_n ?_
     refine at_seq rfl ?_
     refine at_block rfl ?_
     refine at_seq rfl ?_
     refine rg rfl ?_
     refine Rq ?_
     refine Rq ?_
     have tr : ∀ a b c d e f g h i j k m n o p q r s t u v w : AV, let l := lc_rpairs_ok a b c d e f g h i j k m n o p q r s t u; trim ((11,w)::(33,v)::l) l = [(0,a),(1,b),(2,c),(4,d),(5,e),(6,f),(7,g),(9,h),(10,i),(11,w),(13,k),(14,m),(15,n),(16,o),(28,p),(30,q),(31,r),(32,s),(39,t),(48,u)] := by intros; rfl
     refine R_nil (tr ..) ?_; clear tr
     refine then_n ?_
     refine at_seq rfl ?_
     refine rd rfl rfl ?_
     obtain ⟨h0, hNl, b1, b2, e1, e2, hb1, hb2, hbb, q1, q2⟩ := hO.resolve_left (fun hh => by have h7 := congrArg List.length hh.1; simp only [List.length_nil] at h7; omega)
     subst e1 e2
     have hb12 : b1 < HB.length ∧ b2 < HB.length := by
       rcases hO1 with ⟨hh, _⟩ | ⟨_, _, c1, c2, h, h9, _, _, _, h7, h8⟩
       · exact absurd hh h0
       · cases h; cases h9; exact ⟨hget_lt h7, hget_lt h8⟩
     have hNr := hNb w
     have hNw := hNc w (Nat.le_refl _)
     refine Qq ?_
     refine Qq ?_
     refine Qq ?_
     refine Q_q rfl (by simp (disch := first | omega | (simp only [List.length_map, List.length_append, List.length_set, List.length_cons, List.length_nil]; omega)) only [go_sem, ↓reduceIte, Nat.reduceEqDiff, reduceCtorEq, q0, qx, q1, q2] <;> rfl) ?_
     refine Q_q rfl (by simp (disch := first | omega | (simp only [List.length_map, List.length_append, List.length_set, List.length_cons, List.length_nil]; omega)) only [go_sem, ↓reduceIte, Nat.reduceEqDiff, reduceCtorEq, q0, qx, q1, q2] <;> rfl) ?_
     refine Qcall ?_
     refine ACall_eq (same_ok _ _ _ _) ?_
     refine ⟨rfl, ?_⟩
     refine Q_nil ?_
     have tr : ∀ a b c d e f g h i j k m n o p q r s t u v w x y z A : AV, let l := lc_rpairs_ok a b c d e f g h i j k m n o p q r s t u; trim ((39,A)::(38,z)::(37,y)::(36,x)::(35,w)::(34,v)::l) l = [(0,a),(1,b),(2,c),(4,d),(5,e),(6,f),(7,g),(9,h),(10,i),(11,j),(13,k),(14,m),(15,n),(16,o),(28,p),(30,q),(31,r),(32,s),(39,A),(48,u)] := by intros; rfl
     refine R_nil (tr ..) ?_; clear tr
     refine then_n ?_
     refine cdd (fun h5 => ?_) (fun h5 => ?_)
     ·
      try simp only [decide_eq_true_eq, decide_eq_false_iff_not, Bool.not_eq_true', Bool.not_eq_false', beq_iff_eq, beq_eq_false_iff_ne, ne_eq] at h5
      refine at_seq rfl ?_
      refine rg rfl ?_
      refine Rq ?_
      refine Rq ?_
      refine Rq ?_
      refine R_q rfl (by simp (disch := first | omega | (simp only [List.length_map, List.length_append, List.length_set, List.length_cons, List.length_nil]; omega)) only [go_sem, ↓reduceIte, Nat.reduceEqDiff, reduceCtorEq, q0, qx, q1, q2] <;> rfl) ?_
      refine Rq ?_
      refine Rq ?_
      have lq0 := hget_lt q0
      have lqx := hget_lt qx
      have lq1 := hget_lt q1
      have lq2 := hget_lt q2
      refine A_store ty3 (by simp (disch := first | omega | (simp only [List.length_map, List.length_append, List.length_set, List.length_cons, List.length_nil]; omega)) only [go_sem, ↓reduceIte, Nat.reduceEqDiff, reduceCtorEq, q0, qx, q1, q2] <;> rfl) (by simp (disch := first | omega | (simp only [List.length_map, List.length_append, List.length_set, List.length_cons, List.length_nil]; omega)) only [go_sem, ↓reduceIte, Nat.reduceEqDiff, reduceCtorEq, q0, qx, q1, q2] <;> rfl) q2 ⟨by omega, rfl, by simp only [List.length_map]; omega⟩ (setL_map _ _ _) ?_
      intro HE w5
      have ew5 := w5.len
      have q0 := (w5.old _ (by omega)).trans q0
      have qx := (w5.old _ (by omega)).trans qx
      have q1 := (w5.old _ (by omega)).trans q1
      have q2 := w5.new
      have tr : ∀ a b c d e f g h i j k m n o p q r s t u v w x y z A : AV, let l := lc_rpairs_ok a b c d e f g h i j k m n o p q r s t u; trim ((45,A)::(44,z)::(43,y)::(42,x)::(41,w)::(40,v)::l) l = [(0,a),(1,b),(2,c),(4,d),(5,e),(6,f),(7,g),(9,h),(10,i),(11,j),(13,k),(14,m),(15,n),(16,o),(28,p),(30,q),(31,r),(32,s),(39,t),(48,u)] := by intros; rfl
      refine R_nil (tr ..) ?_; clear tr
      refine then_n ?_
      refine rg rfl ?_
      refine Rq ?_
      have tr : ∀ a b c d e f g h i j k m n o p q r s t u v : AV, let l := lc_rpairs_ok a b c d e f g h i j k m n o p q r s t u; trim ((10,v)::l) l = [(0,a),(1,b),(2,c),(4,d),(5,e),(6,f),(7,g),(9,h),(10,v),(11,j),(13,k),(14,m),(15,n),(16,o),(28,p),(30,q),(31,r),(32,s),(39,t),(48,u)] := by intros; rfl
      refine R_nil (tr ..) ?_; clear tr
      refine blk_n ?_
      refine then_n ?_
      refine rg rfl ?_
      refine Rq ?_
      refine Rq ?_
      have tr : ∀ a b c d e f g h i j k m n o p q r s t u v w : AV, let l := lc_rpairs_ok a b c d e f g h i j k m n o p q r s t u; trim ((31,w)::(46,v)::l) l = [(0,a),(1,b),(2,c),(4,d),(5,e),(6,f),(7,g),(9,h),(10,i),(11,j),(13,k),(14,m),(15,n),(16,o),(28,p),(30,q),(31,w),(32,s),(39,t),(48,u)] := by intros; rfl
      refine R_nil (tr ..) ?_; clear tr
      refine then_n ?_
      exact ⟨_, _, ⟨w + 1, true, (N2.set w (gt N2 w + 1)), _, _, _, rfl, rfl, by exact q0, by exact qx, by first | (show HB.length < HE.length; omega) | omega, by first | exact .inr ⟨h0, by rw [List.length_set]; exact hNl, b1, b2, rfl, rfl, hb1, hb2, hbb, q1, q2⟩ | exact .inr ⟨h0, hNl, b1, b2, rfl, rfl, hb1, hb2, hbb, q1, q2⟩, by omega, by first | exact ⟨fun _ => ⟨w, by omega, by assumption⟩, fun _ => rfl⟩ | exact ⟨fun hh => by obtain ⟨i, hi, he⟩ := hmet.1 hh; exact ⟨i, by omega, he⟩, fun ⟨i, hi, he⟩ => hmet.2 ⟨i, (by by_cases hiw : i = w; (subst hiw; exact absurd he (by assumption)); (omega)), he⟩⟩, by first | exact hNb | (intro i; rw [gt_set _ _ _ _ (by omega)]; split; (omega); (exact hNb i)), by first | (intro i hi; exact hNc i (by omega)) | (intro i hi; rw [gt_set _ _ _ _ (by omega), if_neg (by omega)]; exact hNc i (by omega))⟩, by rfl, by omega⟩
     ·
      try simp only [decide_eq_true_eq, decide_eq_false_iff_not, Bool.not_eq_true', Bool.not_eq_false', beq_iff_eq, beq_eq_false_iff_ne, ne_eq] at h5
      refine at_skip rfl ?_
      refine blk_n ?_
      refine then_n ?_
      refine rg rfl ?_
      refine Rq ?_
      refine Rq ?_
      have tr : ∀ a b c d e f g h i j k m n o p q r s t u v w : AV, let l := lc_rpairs_ok a b c d e f g h i j k m n o p q r s t u; trim ((31,w)::(46,v)::l) l = [(0,a),(1,b),(2,c),(4,d),(5,e),(6,f),(7,g),(9,h),(10,i),(11,j),(13,k),(14,m),(15,n),(16,o),(28,p),(30,q),(31,w),(32,s),(39,t),(48,u)] := by intros; rfl
      refine R_nil (tr ..) ?_; clear tr
      refine then_n ?_
      exact ⟨_, _, ⟨w + 1, met, N2, _, _, _, rfl, rfl, by exact q0, by exact qx, by first | (show HB.length < HE.length; omega) | omega, by first | exact .inr ⟨h0, by rw [List.length_set]; exact hNl, b1, b2, rfl, rfl, hb1, hb2, hbb, q1, q2⟩ | exact .inr ⟨h0, hNl, b1, b2, rfl, rfl, hb1, hb2, hbb, q1, q2⟩, by omega, by first | exact ⟨fun _ => ⟨w, by omega, by assumption⟩, fun _ => rfl⟩ | exact ⟨fun hh => by obtain ⟨i, hi, he⟩ := hmet.1 hh; exact ⟨i, by omega, he⟩, fun ⟨i, hi, he⟩ => hmet.2 ⟨i, (by by_cases hiw : i = w; (subst hiw; exact absurd he (by assumption)); (omega)), he⟩⟩, by first | exact hNb | (intro i; rw [gt_set _ _ _ _ (by omega)]; split; (omega); (exact hNb i)), by first | (intro i hi; exact hNc i (by omega)) | (intro i hi; rw [gt_set _ _ _ _ (by omega), if_neg (by omega)]; exact hNc i (by omega))⟩, by rfl, by omega⟩
    ·
     try simp only [decide_eq_true_eq, decide_eq_false_iff_not, Bool.not_eq_true', Bool.not_eq_false', beq_iff_eq, beq_eq_false_iff_ne, ne_eq] at h4
     refine at_exit rfl ?_
     refine then_x ?_
     refine then_x ?_
     refine blk_x ?_
     refine then_n ?_
     refine at_seq rfl ?_
     refine rg rfl ?_
     refine Rq ?_
     refine Rq ?_
     have tr : ∀ a b c d e f g h i j k m n o p q r s t u v w : AV, let l := lc_rpairs_ok a b c d e f g h i j k m n o p q r s t u; trim ((48,w)::(47,v)::l) l = [(0,a),(1,b),(2,c),(4,d),(5,e),(6,f),(7,g),(9,h),(10,i),(11,j),(13,k),(14,m),(15,n),(16,o),(28,p),(30,q),(31,r),(32,s),(39,t),(48,w)] := by intros; rfl
     refine R_nil (tr ..) ?_; clear tr
     refine then_n ?_
     refine cdd (fun h6 => ?_) (fun h6 => ?_)
     ·
      try simp only [decide_eq_true_eq, decide_eq_false_iff_not, Bool.not_eq_true', Bool.not_eq_false', beq_iff_eq, beq_eq_false_iff_ne, ne_eq] at h6
      refine at_seq rfl ?_
      refine rg rfl ?_
      have hbnd : ∀ c2, o2 = .own 1 c2 0 (refN L u).length → c2 < HF.length := fun c2 e => by
        rcases hO with ⟨_, _, _, h⟩ | ⟨_, _, c1, c3, _, h, _, _, _, _, h8⟩
        · rw [h] at e; cases e
        · rw [h] at e; cases e; exact hget_lt h8
      have hmn : ¬ norm (gt L u) ∈ (refN L u).map norm := fun hh => by have := hmet.2 (by obtain ⟨i, hi, he⟩ := mem_norm.1 hh; exact ⟨i, by omega, he⟩); simp_all
      refine Rq ?_
      refine R_q rfl (by simp (disch := first | omega | (simp only [List.length_map, List.length_append, List.length_set, List.length_cons, List.length_nil]; omega)) only [go_sem, ↓reduceIte, Nat.reduceEqDiff, reduceCtorEq, q0, qx, q1, q2] <;> rfl) ?_
      refine A_buildSlice (bs41 _ _ _ _ (gt L u) (by simp (disch := first | omega | (simp only [List.length_map, List.length_append, List.length_set, List.length_cons, List.length_nil]; omega)) only [go_sem, ↓reduceIte, Nat.reduceEqDiff, reduceCtorEq, q0, qx, q1, q2])) ?_
      intro HG n7
      have en7 := n7.len
      have q0 := (n7.old _ (hget_lt q0)).trans q0
      have qx := (n7.old _ (hget_lt qx)).trans qx
      have qn := n7.new
      have hO := hO.mono fun b hb k hk => (n7.old _ (hget_lt hk)).trans hk
      have lq0 := hget_lt q0
      have lqx := hget_lt qx
      have lqn := hget_lt qn
      obtain ⟨b, hbl, hbn, hap⟩ := pn_append1 (lim := H.length) hO qn (by omega) (by omega) (by omega)
      have hN := hO.num
      refine A_append (by simp (disch := first | omega | (simp only [List.length_map, List.length_append, List.length_set, List.length_cons, List.length_nil]; omega)) only [go_sem, ↓reduceIte, Nat.reduceEqDiff, reduceCtorEq, q0, qx, q1, q2]; exact hap) ?_
      intro HK g7
      have eg7 := g7.len
      have q0 := (g7.old _ (by omega) lq0).trans q0
      have qq := g7.new
      have hN := hN.keep fun b2 k e hk => (g7.old _ (fun hh => hbn b2 e hh.symm) (hget_lt hk)).trans hk
      refine Rq ?_
      have tr : ∀ a b c d e f g h i j k m n o p q r s t u v w x y z : AV, let l := lc_rpairs_ok a b c d e f g h i j k m n o p q r s t u; trim ((6,z)::(52,y)::(51,x)::(50,w)::(49,v)::l) l = [(0,a),(1,b),(2,c),(4,d),(5,e),(6,z),(7,g),(9,h),(10,i),(11,j),(13,k),(14,m),(15,n),(16,o),(28,p),(30,q),(31,r),(32,s),(39,t),(48,u)] := by intros; rfl
      refine R_nil (tr ..) ?_; clear tr
      refine then_n ?_
      refine rg rfl ?_
      refine Rq ?_
      have hNd : ∀ b2, o2 = .own 1 b2 0 (refN L u).length → HG.length ≠ b2 := fun b2 e hh => by have := hbnd b2 e; omega
      refine A_buildSlice (bs40' _ _ _ _ 1 (by simp (disch := first | omega | (simp only [List.length_map, List.length_append, List.length_set, List.length_cons, List.length_nil]; omega)) only [go_sem, ↓reduceIte, Nat.reduceEqDiff, reduceCtorEq, q0, qx, q1, q2])) ?_
      intro HM n9
      have en9 := n9.len
      have q0 := (n9.old _ (hget_lt q0)).trans q0
      have qq := (n9.old _ (hget_lt qq)).trans qq
      have qn := n9.new
      have hN := hN.keep fun b2 k e hk => (n9.old _ (hget_lt hk)).trans hk
      have lq0 := hget_lt q0
      have lqq := hget_lt qq
      have lqn := hget_lt qn
      obtain ⟨b3, hb3, hp3, hap2⟩ := pn_append2 (lim := H.length) (p := HG.length) hN hNd (by omega) qn (by omega) (by omega) (by omega)
      refine A_append (by simp (disch := first | omega | (simp only [List.length_map, List.length_append, List.length_set, List.length_cons, List.length_nil]; omega)) only [go_sem, ↓reduceIte, Nat.reduceEqDiff, reduceCtorEq, q0, qx, q1, q2]; exact hap2) ?_
      intro HQ g9
      have eg9 := g9.len
      have q0 := (g9.old _ (by omega) lq0).trans q0
      have qq := (g9.old _ (by omega) lqq).trans qq
      have qz := g9.new
      refine Rq ?_
      have tr : ∀ a b c d e f g h i j k m n o p q r s t u v w x y : AV, let l := lc_rpairs_ok a b c d e f g h i j k m n o p q r s t u; trim ((7,y)::(55,x)::(54,w)::(53,v)::l) l = [(0,a),(1,b),(2,c),(4,d),(5,e),(6,f),(7,y),(9,h),(10,i),(11,j),(13,k),(14,m),(15,n),(16,o),(28,p),(30,q),(31,r),(32,s),(39,t),(48,u)] := by intros; rfl
      refine R_nil (tr ..) ?_; clear tr
      refine blk_n ?_
      refine then_n ?_
      refine rg rfl ?_
      refine Rq ?_
      refine Rq ?_
      have tr : ∀ a b c d e f g h i j k m n o p q r s t u v w : AV, let l := lc_rpairs_ok a b c d e f g h i j k m n o p q r s t u; trim ((15,w)::(56,v)::l) l = [(0,a),(1,b),(2,c),(4,d),(5,e),(6,f),(7,g),(9,h),(10,i),(11,j),(13,k),(14,m),(15,w),(16,o),(28,p),(30,q),(31,r),(32,s),(39,t),(48,u)] := by intros; rfl
      refine R_nil (tr ..) ?_; clear tr
      refine then_n ?_
      exact ⟨_, _, ⟨u + 1, (.own 2 HG.length 0 ((refN L u).length + 1)), (.own 1 HM.length 0 ((refN L u).length + 1)), N2 ++ [1], _, _, _, _, _, _, _, _, _, _, rfl, rfl, by exact q0, by first | (show H1.length ≤ HQ.length; omega) | (show H1.length ≤ HF.length; omega), by omega, by first | exact pn_new hmn qq g9.new hN hp3 (by omega) (by omega) rfl rfl | exact pn_old hO (mem_norm.2 (by obtain ⟨i, hi, he⟩ := hmet.1 (by simp_all); exact ⟨i, by omega, he⟩)), by first | (intro i; rw [gt_app']; split; (exact ⟨(hNb i).1, by have := (hNb i).2; omega⟩); (split; (omega); (exact ⟨Int.le_refl _, by show (0 : Int) ≤ _; omega⟩))) | (intro i; exact ⟨(hNb i).1, by have := (hNb i).2; omega⟩)⟩, by rfl, by omega⟩
     ·
      try simp only [decide_eq_true_eq, decide_eq_false_iff_not, Bool.not_eq_true', Bool.not_eq_false', beq_iff_eq, beq_eq_false_iff_ne, ne_eq] at h6
      refine at_skip rfl ?_
      refine blk_n ?_
      refine then_n ?_
      refine rg rfl ?_
      refine Rq ?_
      refine Rq ?_
      have tr : ∀ a b c d e f g h i j k m n o p q r s t u v w : AV, let l := lc_rpairs_ok a b c d e f g h i j k m n o p q r s t u; trim ((15,w)::(56,v)::l) l = [(0,a),(1,b),(2,c),(4,d),(5,e),(6,f),(7,g),(9,h),(10,i),(11,j),(13,k),(14,m),(15,w),(16,o),(28,p),(30,q),(31,r),(32,s),(39,t),(48,u)] := by intros; rfl
      refine R_nil (tr ..) ?_; clear tr
      refine then_n ?_
      exact ⟨_, _, ⟨u + 1, o1, o2, N2, _, _, _, _, _, _, _, _, _, _, rfl, rfl, by exact q0, by first | (show H1.length ≤ HQ.length; omega) | (show H1.length ≤ HF.length; omega), by omega, by first | exact pn_new hmn qq g9.new hN hp3 (by omega) (by omega) rfl rfl | exact pn_old hO (mem_norm.2 (by obtain ⟨i, hi, he⟩ := hmet.1 (by simp_all); exact ⟨i, by omega, he⟩)), by first | (intro i; rw [gt_app']; split; (exact ⟨(hNb i).1, by have := (hNb i).2; omega⟩); (split; (omega); (exact ⟨Int.le_refl _, by show (0 : Int) ≤ _; omega⟩))) | (intro i; exact ⟨(hNb i).1, by have := (hNb i).2; omega⟩)⟩, by rfl, by omega⟩
 ·
  try simp only [decide_eq_true_eq, decide_eq_false_iff_not, Bool.not_eq_true', Bool.not_eq_false', beq_iff_eq, beq_eq_false_iff_ne, ne_eq] at h1
  refine at_exit rfl ?_
  refine then_x ?_
  refine then_x ?_
  refine blk_x ?_
  refine then_n ?_
  refine at_seq rfl ?_
  refine rg rfl ?_
  refine Rq ?_
  refine Rq ?_
  refine Rq ?_
  refine Rq ?_
  have tr : ∀ a b c d e f g h i j k m n o p q r s t u v w x y : AV, let l := lc_rpairs_ok a b c d e f g h i j k m n o p q r s t u; trim ((5,y)::(4,x)::(58,w)::(57,v)::l) l = [(0,a),(1,b),(2,c),(4,x),(5,y),(6,f),(7,g),(9,h),(10,i),(11,j),(13,k),(14,m),(15,n),(16,o),(28,p),(30,q),(31,r),(32,s),(39,t),(48,u)] := by intros; rfl
  refine R_nil (tr ..) ?_; clear tr
  refine then_n ?_
  refine at_ret rfl ?_
  obtain rfl : u = L.length := by omega
  have hfz := (hO.lo (by omega : H.length ≤ H1.length)).frz (base := H.length) (d := 5)
  refine fpure ?_
  exact ⟨⟨_, congrArg AV.tup (by rw [hfz.1]; rfl)⟩, rfl⟩

end Go.Proofs.Ytfnapmdedmbdbaa
end
section
set_option linter.unusedSimpArgs false
set_option linter.unusedVariables false
set_option maxHeartbeats 4000000
set_option maxRecDepth 20000
namespace Go.Proofs.Ytfnapmdedmbdbaa
open Go Go.Am
abbrev lc_chk53_ok (a b c d e f g h i j k m n o p q r s t : AV) : Env := [(0,a),(1,b),(2,c),(3,d),(5,e),(7,f),(16,g),(18,h),(19,i),(20,j),(21,k),(29,m),(34,n),(36,o),(37,p),(38,q),(39,r),(68,s),(74,t)]
theorem chk53_x (lim : Nat) (H : Heap) (P : List Int) (L : List Pr) (x : AV) (hx : frz H 0 8 x = .agg (raceC P L)) :
    ACall sig lim 14 [x] H fun r H' => r = AV.i (rchkS P L) ∧ H' = H := by
 have hargs : [x].map (frz H 0 8) = [.agg (raceC P L)] := by
  show [frz H 0 8 x] = _
  rw [hx]
 refine ACall_data (fa := fa14) rfl rfl rfl rfl hargs ?_
 have tr : ∀ a0 : AV, env0 fa14.keep [a0] = [(0,a0),(1,.any),(2,.any),(3,.any),(5,.any),(7,.any),(16,.any),(18,.any),(19,.any),(20,.any),(21,.any),(29,.any),(34,.any),(36,.any),(37,.any),(38,.any),(39,.any),(68,.any),(74,.any)] := fun a0 => rfl
 refine W_to (tr _) ?_; clear tr
 refine at_seq rfl ?_
 refine rg rfl ?_
 refine R_box rfl (by simp (disch := omega) only [go_sem, ↓reduceIte, Nat.reduceEqDiff, reduceCtorEq] <;> rfl) rfl rfl ?_
 refine Rq ?_
 have tr : ∀ a b c d e f g h i j k m n o p q r s t u v : AV, let l := lc_chk53_ok a b c d e f g h i j k m n o p q r s t; trim ((2,v)::(1,u)::l) l = [(0,a),(1,u),(2,v),(3,d),(5,e),(7,f),(16,g),(18,h),(19,i),(20,j),(21,k),(29,m),(34,n),(36,o),(37,p),(38,q),(39,r),(68,s),(74,t)] := by intros; rfl
 refine R_nil (tr ..) ?_; clear tr
 refine then_n ?_
 refine at_seq rfl ?_
 refine rg rfl ?_
 refine Rq ?_
 refine Rq ?_
 refine Rq ?_
 refine Rq ?_
 have tr : ∀ a b c d e f g h i j k m n o p q r s t u v w x : AV, let l := lc_chk53_ok a b c d e f g h i j k m n o p q r s t; trim ((3,x)::(10,w)::(9,v)::(8,u)::l) l = [(0,a),(1,b),(2,c),(3,x),(5,e),(7,f),(16,g),(18,h),(19,i),(20,j),(21,k),(29,m),(34,n),(36,o),(37,p),(38,q),(39,r),(68,s),(74,t)] := by intros; rfl
 refine R_nil (tr ..) ?_; clear tr
 refine then_n ?_
 refine at_seq rfl ?_
 refine at_seq rfl ?_
 refine rg rfl ?_
 refine Rq ?_
 refine Rq ?_
 refine Rq ?_
 refine Rp_split (fun h1 => ?_) (fun h1 => ?_)
 ·
  try simp only [decide_eq_true_eq, decide_eq_false_iff_not, Bool.not_eq_true', Bool.not_eq_false', beq_iff_eq, beq_eq_false_iff_ne, ne_eq] at h1
  refine Rn ?_
  refine Rn ?_
  refine Rq ?_
  have tr : ∀ a b c d e f g h i j k m n o p q r s t u v w x y z : AV, let l := lc_chk53_ok a b c d e f g h i j k m n o p q r s t; trim ((16,z)::(15,y)::(14,x)::(13,w)::(12,v)::(11,u)::l) l = [(0,a),(1,b),(2,c),(3,d),(5,e),(7,f),(16,z),(18,h),(19,i),(20,j),(21,k),(29,m),(34,n),(36,o),(37,p),(38,q),(39,r),(68,s),(74,t)] := by intros; rfl
  refine R_nil (tr ..) ?_; clear tr
  refine then_n ?_
  refine cdt ?_
  refine at_seq rfl ?_
  refine rg rfl ?_
  refine Rq ?_
  have tr : ∀ a b c d e f g h i j k m n o p q r s t u : AV, let l := lc_chk53_ok a b c d e f g h i j k m n o p q r s t; trim ((2,u)::l) l = [(0,a),(1,b),(2,u),(3,d),(5,e),(7,f),(16,g),(18,h),(19,i),(20,j),(21,k),(29,m),(34,n),(36,o),(37,p),(38,q),(39,r),(68,s),(74,t)] := by intros; rfl
  refine R_nil (tr ..) ?_; clear tr
  refine then_n ?_
  refine at_ret rfl ?_
  refine then_r ?_
  refine fpure ?_
  refine ⟨rfl, ?_, rfl⟩
  rw [rchkS, if_pos (by omega)]
 ·
  try simp only [decide_eq_true_eq, decide_eq_false_iff_not, Bool.not_eq_true', Bool.not_eq_false', beq_iff_eq, beq_eq_false_iff_ne, ne_eq] at h1
  refine Ry ?_
  refine Rq ?_
  refine Ry ?_
  refine Rq ?_
  refine Rq ?_
  have tr : ∀ a b c d e f g h i j k m n o p q r s t u v w x y z : AV, let l := lc_chk53_ok a b c d e f g h i j k m n o p q r s t; trim ((16,z)::(15,y)::(14,x)::(13,w)::(12,v)::(11,u)::l) l = [(0,a),(1,b),(2,c),(3,d),(5,e),(7,f),(16,z),(18,h),(19,i),(20,j),(21,k),(29,m),(34,n),(36,o),(37,p),(38,q),(39,r),(68,s),(74,t)] := by intros; rfl
  refine R_nil (tr ..) ?_; clear tr
  refine then_n ?_
  refine cdd (fun h2 => ?_) (fun h2 => ?_)
  ·
   try simp only [decide_eq_true_eq, decide_eq_false_iff_not, Bool.not_eq_true', Bool.not_eq_false', beq_iff_eq, beq_eq_false_iff_ne, ne_eq] at h2
   refine at_seq rfl ?_
   refine rg rfl ?_
   refine Rq ?_
   have tr : ∀ a b c d e f g h i j k m n o p q r s t u : AV, let l := lc_chk53_ok a b c d e f g h i j k m n o p q r s t; trim ((2,u)::l) l = [(0,a),(1,b),(2,u),(3,d),(5,e),(7,f),(16,g),(18,h),(19,i),(20,j),(21,k),(29,m),(34,n),(36,o),(37,p),(38,q),(39,r),(68,s),(74,t)] := by intros; rfl
   refine R_nil (tr ..) ?_; clear tr
   refine then_n ?_
   refine at_ret rfl ?_
   refine then_r ?_
   refine fpure ?_
   refine ⟨rfl, ?_, rfl⟩
   rw [rchkS, if_pos (by omega)]
  ·
   try simp only [decide_eq_true_eq, decide_eq_false_iff_not, Bool.not_eq_true', Bool.not_eq_false', beq_iff_eq, beq_eq_false_iff_ne, ne_eq] at h2
   refine at_skip rfl ?_
   refine then_n ?_
   refine at_seq rfl ?_
   refine at_seq rfl ?_
   refine rg rfl ?_
   refine Rq ?_
   refine Rq ?_
   refine Rq ?_
   refine Rq ?_
   have tr : ∀ a b c d e f g h i j k m n o p q r s t u v w x : AV, let l := lc_chk53_ok a b c d e f g h i j k m n o p q r s t; trim ((20,x)::(19,w)::(18,v)::(17,u)::l) l = [(0,a),(1,b),(2,c),(3,d),(5,e),(7,f),(16,g),(18,v),(19,w),(20,x),(21,k),(29,m),(34,n),(36,o),(37,p),(38,q),(39,r),(68,s),(74,t)] := by intros; rfl
   refine R_nil (tr ..) ?_; clear tr
   refine then_n ?_
   refine at_block rfl ?_
   refine loop_n rfl (fun mm kv H' => ∃ u : Nat, ∃ x2 x5 x21 x29 : AV, (kv = [(2, x2), (5, x5), (20, AV.i u), (21, x21), (29, x29)]) ∧ (mm = P.length - u) ∧ (H' = [] ++ [some (raceC P L)]) ∧ (u ≤ P.length) ∧ (ferr (fun i => ptErr (gt P i)) u = 0)) ⟨0, _, _, _, _, rfl, rfl, rfl, by omega, by rfl⟩ (by rfl) ?_
   rintro mm kv H' ⟨u, x2, x5, x21, x29, rfl, rfl, rfl, hu, hz⟩
   have tr : ∀ a b c d e f g h i j k m n o p q r s t u v w x y : AV, upd [(0,a),(1,b),(2,c),(3,d),(5,e),(7,f),(16,g),(18,h),(19,i),(20,j),(21,k),(29,m),(34,n),(36,o),(37,p),(38,q),(39,r),(68,s),(74,t)] [(2,u),(5,v),(20,w),(21,x),(29,y)] = [(0,a),(1,b),(2,u),(3,d),(5,v),(7,f),(16,g),(18,h),(19,i),(20,w),(21,x),(29,y),(34,n),(36,o),(37,p),(38,q),(39,r),(68,s),(74,t)] := by intros; rfl
   refine W_to (tr ..) ?_; clear tr
   refine at_seq rfl ?_
   refine rg rfl ?_
   refine Rq ?_
   have tr : ∀ a b c d e f g h i j k m n o p q r s t u : AV, let l := lc_chk53_ok a b c d e f g h i j k m n o p q r s t; trim ((21,u)::l) l = [(0,a),(1,b),(2,c),(3,d),(5,e),(7,f),(16,g),(18,h),(19,i),(20,j),(21,u),(29,m),(34,n),(36,o),(37,p),(38,q),(39,r),(68,s),(74,t)] := by intros; rfl
   refine R_nil (tr ..) ?_; clear tr
   refine then_n ?_
   refine at_seq rfl ?_
   refine cdd (fun h3 => ?_) (fun h3 => ?_)
   ·
    try simp only [decide_eq_true_eq, decide_eq_false_iff_not, Bool.not_eq_true', Bool.not_eq_false', beq_iff_eq, beq_eq_false_iff_ne, ne_eq] at h3
    refine at_skip rfl ?_
    refine then_n ?_
    refine at_seq rfl ?_
    refine at_block rfl ?_
    refine at_seq rfl ?_
    refine rg rfl ?_
    refine Rq ?_
    refine Rq ?_
    refine Rq ?_
    have tr : ∀ a b c d e f g h i j k m n o p q r s t u v w : AV, let l := lc_chk53_ok a b c d e f g h i j k m n o p q r s t; trim ((5,w)::(23,v)::(22,u)::l) l = [(0,a),(1,b),(2,c),(3,d),(5,w),(7,f),(16,g),(18,h),(19,i),(20,j),(21,k),(29,m),(34,n),(36,o),(37,p),(38,q),(39,r),(68,s),(74,t)] := by intros; rfl
    refine R_nil (tr ..) ?_; clear tr
    refine then_n ?_
    refine at_seq rfl ?_
    refine rg rfl ?_
    refine Rq ?_
    refine Rq ?_
    refine Rq ?_
    refine Rp_split (fun h4 => ?_) (fun h4 => ?_)
    ·
     try simp only [decide_eq_true_eq, decide_eq_false_iff_not, Bool.not_eq_true', Bool.not_eq_false', beq_iff_eq, beq_eq_false_iff_ne, ne_eq] at h4
     refine Rn ?_
     refine Rn ?_
     refine Rq ?_
     have tr : ∀ a b c d e f g h i j k m n o p q r s t u v w x y z : AV, let l := lc_chk53_ok a b c d e f g h i j k m n o p q r s t; trim ((29,z)::(28,y)::(27,x)::(26,w)::(25,v)::(24,u)::l) l = [(0,a),(1,b),(2,c),(3,d),(5,e),(7,f),(16,g),(18,h),(19,i),(20,j),(21,k),(29,z),(34,n),(36,o),(37,p),(38,q),(39,r),(68,s),(74,t)] := by intros; rfl
     refine R_nil (tr ..) ?_; clear tr
     refine then_n ?_
     refine cdt ?_
     refine at_seq rfl ?_
     refine rg rfl ?_
     refine Rq ?_
     have tr : ∀ a b c d e f g h i j k m n o p q r s t u : AV, let l := lc_chk53_ok a b c d e f g h i j k m n o p q r s t; trim ((2,u)::l) l = [(0,a),(1,b),(2,u),(3,d),(5,e),(7,f),(16,g),(18,h),(19,i),(20,j),(21,k),(29,m),(34,n),(36,o),(37,p),(38,q),(39,r),(68,s),(74,t)] := by intros; rfl
     refine R_nil (tr ..) ?_; clear tr
     refine then_n ?_
     refine at_ret rfl ?_
     refine blk_r ?_
     refine then_r ?_
     refine then_r ?_
     refine blk_r ?_
     refine then_r ?_
     refine fpure ?_
     refine ⟨rfl, ?_, rfl⟩
     have hse : ptErr (gt P u) = 2 := by unfold ptErr; rw [if_pos (by omega)]
     have hfe : ferr (fun i => ptErr (gt P i)) P.length = 2 := by rw [ferr_at hz (by omega) _ (by omega), hse]
     rw [rchkS, if_neg (by omega), if_pos (by omega), hfe]
    ·
     try simp only [decide_eq_true_eq, decide_eq_false_iff_not, Bool.not_eq_true', Bool.not_eq_false', beq_iff_eq, beq_eq_false_iff_ne, ne_eq] at h4
     refine Ry ?_
     refine Rq ?_
     refine Ry ?_
     refine Rq ?_
     refine Rq ?_
     have tr : ∀ a b c d e f g h i j k m n o p q r s t u v w x y z : AV, let l := lc_chk53_ok a b c d e f g h i j k m n o p q r s t; trim ((29,z)::(28,y)::(27,x)::(26,w)::(25,v)::(24,u)::l) l = [(0,a),(1,b),(2,c),(3,d),(5,e),(7,f),(16,g),(18,h),(19,i),(20,j),(21,k),(29,z),(34,n),(36,o),(37,p),(38,q),(39,r),(68,s),(74,t)] := by intros; rfl
     refine R_nil (tr ..) ?_; clear tr
     refine then_n ?_
     refine cdd (fun h5 => ?_) (fun h5 => ?_)
     ·
      try simp only [decide_eq_true_eq, decide_eq_false_iff_not, Bool.not_eq_true', Bool.not_eq_false', beq_iff_eq, beq_eq_false_iff_ne, ne_eq] at h5
      refine at_seq rfl ?_
      refine rg rfl ?_
      refine Rq ?_
      have tr : ∀ a b c d e f g h i j k m n o p q r s t u : AV, let l := lc_chk53_ok a b c d e f g h i j k m n o p q r s t; trim ((2,u)::l) l = [(0,a),(1,b),(2,u),(3,d),(5,e),(7,f),(16,g),(18,h),(19,i),(20,j),(21,k),(29,m),(34,n),(36,o),(37,p),(38,q),(39,r),(68,s),(74,t)] := by intros; rfl
      refine R_nil (tr ..) ?_; clear tr
      refine then_n ?_
      refine at_ret rfl ?_
      refine blk_r ?_
      refine then_r ?_
      refine then_r ?_
      refine blk_r ?_
      refine then_r ?_
      refine fpure ?_
      refine ⟨rfl, ?_, rfl⟩
      have hse : ptErr (gt P u) = 2 := by unfold ptErr; rw [if_pos (by omega)]
      have hfe : ferr (fun i => ptErr (gt P i)) P.length = 2 := by rw [ferr_at hz (by omega) _ (by omega), hse]
      rw [rchkS, if_neg (by omega), if_pos (by omega), hfe]
     ·
      try simp only [decide_eq_true_eq, decide_eq_false_iff_not, Bool.not_eq_true', Bool.not_eq_false', beq_iff_eq, beq_eq_false_iff_ne, ne_eq] at h5
      refine at_skip rfl ?_
      refine blk_n ?_
      refine then_n ?_
      refine rg rfl ?_
      refine Rq ?_
      refine Rq ?_
      have tr : ∀ a b c d e f g h i j k m n o p q r s t u v : AV, let l := lc_chk53_ok a b c d e f g h i j k m n o p q r s t; trim ((20,v)::(30,u)::l) l = [(0,a),(1,b),(2,c),(3,d),(5,e),(7,f),(16,g),(18,h),(19,i),(20,v),(21,k),(29,m),(34,n),(36,o),(37,p),(38,q),(39,r),(68,s),(74,t)] := by intros; rfl
      refine R_nil (tr ..) ?_; clear tr
      refine then_n ?_
      exact ⟨_, _, ⟨u + 1, _, _, _, _, rfl, rfl, rfl, by omega, by exact ferr_ok hz (by show ptErr (gt P u) = 0; unfold ptErr; rw [if_neg (by omega)])⟩, by rfl, by omega⟩
   ·
    try simp only [decide_eq_true_eq, decide_eq_false_iff_not, Bool.not_eq_true', Bool.not_eq_false', beq_iff_eq, beq_eq_false_iff_ne, ne_eq] at h3
    refine at_exit rfl ?_
    refine then_x ?_
    refine then_x ?_
    refine blk_x ?_
    refine then_n ?_
    refine at_seq rfl ?_
    refine at_seq rfl ?_
    refine rg rfl ?_
    have hze : ferr (fun i => ptErr (gt P i)) P.length = 0 := by rw [show P.length = u by omega]; exact hz
    refine Rq ?_
    refine Rq ?_
    refine Rq ?_
    refine Rq ?_
    have tr : ∀ a b c d e f g h i j k m n o p q r s t u v w x : AV, let l := lc_chk53_ok a b c d e f g h i j k m n o p q r s t; trim ((34,x)::(33,w)::(32,v)::(31,u)::l) l = [(0,a),(1,b),(2,c),(3,d),(5,e),(7,f),(16,g),(18,h),(19,i),(20,j),(21,k),(29,m),(34,x),(36,o),(37,p),(38,q),(39,r),(68,s),(74,t)] := by intros; rfl
    refine R_nil (tr ..) ?_; clear tr
    refine then_n ?_
    refine cdd (fun h6 => ?_) (fun h6 => ?_)
    ·
     try simp only [decide_eq_true_eq, decide_eq_false_iff_not, Bool.not_eq_true', Bool.not_eq_false', beq_iff_eq, beq_eq_false_iff_ne, ne_eq] at h6
     refine at_seq rfl ?_
     refine rg rfl ?_
     refine Rq ?_
     have tr : ∀ a b c d e f g h i j k m n o p q r s t u : AV, let l := lc_chk53_ok a b c d e f g h i j k m n o p q r s t; trim ((2,u)::l) l = [(0,a),(1,b),(2,u),(3,d),(5,e),(7,f),(16,g),(18,h),(19,i),(20,j),(21,k),(29,m),(34,n),(36,o),(37,p),(38,q),(39,r),(68,s),(74,t)] := by intros; rfl
     refine R_nil (tr ..) ?_; clear tr
     refine then_n ?_
     refine at_ret rfl ?_
     refine then_r ?_
     refine fpure ?_
     refine ⟨rfl, ?_, rfl⟩
     rw [rchkS, if_neg (by omega), if_neg (by omega), if_pos (by omega)]
    ·
     try simp only [decide_eq_true_eq, decide_eq_false_iff_not, Bool.not_eq_true', Bool.not_eq_false', beq_iff_eq, beq_eq_false_iff_ne, ne_eq] at h6
     refine at_skip rfl ?_
     refine then_n ?_
     refine at_seq rfl ?_
     refine at_seq rfl ?_
     refine rg rfl ?_
     refine Rq ?_
     refine Rq ?_
     refine Rq ?_
     refine Rq ?_
     have tr : ∀ a b c d e f g h i j k m n o p q r s t u v w x : AV, let l := lc_chk53_ok a b c d e f g h i j k m n o p q r s t; trim ((38,x)::(37,w)::(36,v)::(35,u)::l) l = [(0,a),(1,b),(2,c),(3,d),(5,e),(7,f),(16,g),(18,h),(19,i),(20,j),(21,k),(29,m),(34,n),(36,v),(37,w),(38,x),(39,r),(68,s),(74,t)] := by intros; rfl
     refine R_nil (tr ..) ?_; clear tr
     refine then_n ?_
     refine at_block rfl ?_
     refine loop_n rfl (fun mm kv H' => ∃ v : Nat, ∃ X : Heap, ∃ x2 x7 x39 x68 : AV, (kv = [(2, x2), (7, x7), (38, AV.i v), (39, x39), (68, x68)]) ∧ (mm = L.length - v) ∧ (H' = [] ++ [some (raceC P L)] ++ X) ∧ (v ≤ L.length) ∧ (ferr (fun i => prErr P.length (gt L i)) v = 0)) ⟨0, [], _, _, _, _, rfl, rfl, by simp, by omega, by rfl⟩ (by rfl) ?_
     rintro mm kv H1 ⟨v, X, x2, x7, x39, x68, rfl, rfl, hX, hv, hy⟩
     have tr : ∀ a b c d e f g h i j k m n o p q r s t u v w x y : AV, upd [(0,a),(1,b),(2,c),(3,d),(5,e),(7,f),(16,g),(18,h),(19,i),(20,j),(21,k),(29,m),(34,n),(36,o),(37,p),(38,q),(39,r),(68,s),(74,t)] [(2,u),(7,v),(38,w),(39,x),(68,y)] = [(0,a),(1,b),(2,u),(3,d),(5,e),(7,v),(16,g),(18,h),(19,i),(20,j),(21,k),(29,m),(34,n),(36,o),(37,p),(38,w),(39,x),(68,y),(74,t)] := by intros; rfl
     refine W_to (tr ..) ?_; clear tr
     subst hX
     refine at_seq rfl ?_
     refine rg rfl ?_
     refine Rq ?_
     have tr : ∀ a b c d e f g h i j k m n o p q r s t u : AV, let l := lc_chk53_ok a b c d e f g h i j k m n o p q r s t; trim ((39,u)::l) l = [(0,a),(1,b),(2,c),(3,d),(5,e),(7,f),(16,g),(18,h),(19,i),(20,j),(21,k),(29,m),(34,n),(36,o),(37,p),(38,q),(39,u),(68,s),(74,t)] := by intros; rfl
     refine R_nil (tr ..) ?_; clear tr
     refine then_n ?_
     refine at_seq rfl ?_
     refine cdd (fun h7 => ?_) (fun h7 => ?_)
     ·
      try simp only [decide_eq_true_eq, decide_eq_false_iff_not, Bool.not_eq_true', Bool.not_eq_false', beq_iff_eq, beq_eq_false_iff_ne, ne_eq] at h7
      refine at_skip rfl ?_
      refine then_n ?_
      refine at_seq rfl ?_
      refine at_block rfl ?_
      refine at_seq rfl ?_
      refine rg rfl ?_
      refine Rq ?_
      refine Rq ?_
      refine R_alloc (by simp (disch := omega) only [go_sem, ↓reduceIte, Nat.reduceEqDiff, reduceCtorEq] <;> rfl) rfl (by simp only [List.map_cons, List.map_nil]; rfl) ?_
      refine R_store ty33 (by simp (disch := omega) only [go_sem, ↓reduceIte, Nat.reduceEqDiff, reduceCtorEq] <;> rfl) (by simp (disch := omega) only [go_sem, ↓reduceIte, Nat.reduceEqDiff, reduceCtorEq] <;> rfl) (by simp (disch := omega) only [go_sem, ↓reduceIte, Nat.reduceEqDiff, reduceCtorEq] <;> rfl) (by simp) (by rfl) (by simp (disch := omega) only [go_sem, ↓reduceIte, Nat.reduceEqDiff, reduceCtorEq] <;> rfl) ?_
      have tr : ∀ a b c d e f g h i j k m n o p q r s t u v w : AV, let l := lc_chk53_ok a b c d e f g h i j k m n o p q r s t; trim ((7,w)::(41,v)::(40,u)::l) l = [(0,a),(1,b),(2,c),(3,d),(5,e),(7,w),(16,g),(18,h),(19,i),(20,j),(21,k),(29,m),(34,n),(36,o),(37,p),(38,q),(39,r),(68,s),(74,t)] := by intros; rfl
      refine R_nil (tr ..) ?_; clear tr
      refine then_n ?_
      refine at_seq rfl ?_
      refine rg rfl ?_
      refine Rq ?_
      refine Rq ?_
      refine Rq ?_
      refine Rq ?_
      refine Rp_split (fun h8 => ?_) (fun h8 => ?_)
      ·
       try simp only [decide_eq_true_eq, decide_eq_false_iff_not, Bool.not_eq_true', Bool.not_eq_false', beq_iff_eq, beq_eq_false_iff_ne, ne_eq] at h8
       refine Rn ?_
       refine Rn ?_
       refine Rn ?_
       refine Rn ?_
       refine Rq ?_
       refine Rq ?_
       refine Rn ?_
       refine Rn ?_
       refine Rn ?_
       refine Rq ?_
       refine Rq ?_
       refine Rn ?_
       refine Rn ?_
       refine Rn ?_
       refine Rn ?_
       refine Rq ?_
       refine Rq ?_
       refine Rn ?_
       refine Rn ?_
       refine Rn ?_
       refine Rn ?_
       refine Rn ?_
       refine Rq ?_
       have tr : ∀ a b c d e f g h i j k m n o p q r s t u v w x y z A B C D E F G H I J K L M N O P Q R S T U : AV, let l := lc_chk53_ok a b c d e f g h i j k m n o p q r s t; trim ((68,U)::(67,T)::(66,S)::(65,R)::(64,Q)::(63,P)::(62,O)::(61,N)::(60,M)::(59,L)::(58,K)::(57,J)::(56,I)::(55,H)::(54,G)::(53,F)::(52,E)::(51,D)::(50,C)::(49,B)::(48,A)::(47,z)::(46,y)::(45,x)::(44,w)::(43,v)::(42,u)::l) l = [(0,a),(1,b),(2,c),(3,d),(5,e),(7,f),(16,g),(18,h),(19,i),(20,j),(21,k),(29,m),(34,n),(36,o),(37,p),(38,q),(39,r),(68,U),(74,t)] := by intros; rfl
       refine R_nil (tr ..) ?_; clear tr
       refine then_n ?_
       refine cdt ?_
       refine at_seq rfl ?_
       refine rg rfl ?_
       refine Rq ?_
       have tr : ∀ a b c d e f g h i j k m n o p q r s t u : AV, let l := lc_chk53_ok a b c d e f g h i j k m n o p q r s t; trim ((2,u)::l) l = [(0,a),(1,b),(2,u),(3,d),(5,e),(7,f),(16,g),(18,h),(19,i),(20,j),(21,k),(29,m),(34,n),(36,o),(37,p),(38,q),(39,r),(68,s),(74,t)] := by intros; rfl
       refine R_nil (tr ..) ?_; clear tr
       refine then_n ?_
       refine at_ret rfl ?_
       refine blk_r ?_
       refine then_r ?_
       refine then_r ?_
       refine blk_r ?_
       refine then_r ?_
       refine fpure ?_
       refine ⟨rfl, ?_, rfl⟩
       have hse : prErr P.length (gt L v) = 1 := by unfold prErr; rw [if_pos (by omega)]
       have hfe : ferr (fun i => prErr P.length (gt L i)) L.length = 1 := by rw [ferr_at hy (by omega) _ (by omega), hse]
       rw [rchkS, if_neg (by omega), if_neg (by omega), if_neg (by omega), if_pos (by omega), hfe]
      ·
       try simp only [decide_eq_true_eq, decide_eq_false_iff_not, Bool.not_eq_true', Bool.not_eq_false', beq_iff_eq, beq_eq_false_iff_ne, ne_eq] at h8
       refine Ry ?_
       refine Rq ?_
       refine Ry ?_
       refine Rq ?_
       refine Ry ?_
       refine Rq ?_
       refine Ry ?_
       refine Rq ?_
       refine Rq ?_
       refine Rq ?_
       refine Rp_split (fun h9 => ?_) (fun h9 => ?_)
       ·
        try simp only [decide_eq_true_eq, decide_eq_false_iff_not, Bool.not_eq_true', Bool.not_eq_false', beq_iff_eq, beq_eq_false_iff_ne, ne_eq] at h9
        refine Rn ?_
        refine Rn ?_
        refine Rn ?_
        refine Rq ?_
        refine Rq ?_
        refine Rn ?_
        refine Rn ?_
        refine Rn ?_
        refine Rn ?_
        refine Rq ?_
        refine Rq ?_
        refine Rn ?_
        refine Rn ?_
        refine Rn ?_
        refine Rn ?_
        refine Rn ?_
        refine Rq ?_
        have tr : ∀ a b c d e f g h i j k m n o p q r s t u v w x y z A B C D E F G H I J K L M N O P Q R S T U : AV, let l := lc_chk53_ok a b c d e f g h i j k m n o p q r s t; trim ((68,U)::(67,T)::(66,S)::(65,R)::(64,Q)::(63,P)::(62,O)::(61,N)::(60,M)::(59,L)::(58,K)::(57,J)::(56,I)::(55,H)::(54,G)::(53,F)::(52,E)::(51,D)::(50,C)::(49,B)::(48,A)::(47,z)::(46,y)::(45,x)::(44,w)::(43,v)::(42,u)::l) l = [(0,a),(1,b),(2,c),(3,d),(5,e),(7,f),(16,g),(18,h),(19,i),(20,j),(21,k),(29,m),(34,n),(36,o),(37,p),(38,q),(39,r),(68,U),(74,t)] := by intros; rfl
        refine R_nil (tr ..) ?_; clear tr
        refine then_n ?_
        refine cdt ?_
        refine at_seq rfl ?_
        refine rg rfl ?_
        refine Rq ?_
        have tr : ∀ a b c d e f g h i j k m n o p q r s t u : AV, let l := lc_chk53_ok a b c d e f g h i j k m n o p q r s t; trim ((2,u)::l) l = [(0,a),(1,b),(2,u),(3,d),(5,e),(7,f),(16,g),(18,h),(19,i),(20,j),(21,k),(29,m),(34,n),(36,o),(37,p),(38,q),(39,r),(68,s),(74,t)] := by intros; rfl
        refine R_nil (tr ..) ?_; clear tr
        refine then_n ?_
        refine at_ret rfl ?_
        refine blk_r ?_
        refine then_r ?_
        refine then_r ?_
        refine blk_r ?_
        refine then_r ?_
        refine fpure ?_
        refine ⟨rfl, ?_, rfl⟩
        have hse : prErr P.length (gt L v) = 1 := by unfold prErr; rw [if_pos (by omega)]
        have hfe : ferr (fun i => prErr P.length (gt L i)) L.length = 1 := by rw [ferr_at hy (by omega) _ (by omega), hse]
        rw [rchkS, if_neg (by omega), if_neg (by omega), if_neg (by omega), if_pos (by omega), hfe]
       ·
        try simp only [decide_eq_true_eq, decide_eq_false_iff_not, Bool.not_eq_true', Bool.not_eq_false', beq_iff_eq, beq_eq_false_iff_ne, ne_eq] at h9
        refine Ry ?_
        refine Rq ?_
        refine Ry ?_
        refine Rq ?_
        refine Ry ?_
        refine Rq ?_
        refine Rq ?_
        refine Rq ?_
        refine Rp_split (fun h10 => ?_) (fun h10 => ?_)
        ·
         try simp only [decide_eq_true_eq, decide_eq_false_iff_not, Bool.not_eq_true', Bool.not_eq_false', beq_iff_eq, beq_eq_false_iff_ne, ne_eq] at h10
         refine Rn ?_
         refine Rn ?_
         refine Rn ?_
         refine Rn ?_
         refine Rq ?_
         refine Rq ?_
         refine Rn ?_
         refine Rn ?_
         refine Rn ?_
         refine Rn ?_
         refine Rn ?_
         refine Rq ?_
         have tr : ∀ a b c d e f g h i j k m n o p q r s t u v w x y z A B C D E F G H I J K L M N O P Q R S T U : AV, let l := lc_chk53_ok a b c d e f g h i j k m n o p q r s t; trim ((68,U)::(67,T)::(66,S)::(65,R)::(64,Q)::(63,P)::(62,O)::(61,N)::(60,M)::(59,L)::(58,K)::(57,J)::(56,I)::(55,H)::(54,G)::(53,F)::(52,E)::(51,D)::(50,C)::(49,B)::(48,A)::(47,z)::(46,y)::(45,x)::(44,w)::(43,v)::(42,u)::l) l = [(0,a),(1,b),(2,c),(3,d),(5,e),(7,f),(16,g),(18,h),(19,i),(20,j),(21,k),(29,m),(34,n),(36,o),(37,p),(38,q),(39,r),(68,U),(74,t)] := by intros; rfl
         refine R_nil (tr ..) ?_; clear tr
         refine then_n ?_
         refine cdt ?_
         refine at_seq rfl ?_
         refine rg rfl ?_
         refine Rq ?_
         have tr : ∀ a b c d e f g h i j k m n o p q r s t u : AV, let l := lc_chk53_ok a b c d e f g h i j k m n o p q r s t; trim ((2,u)::l) l = [(0,a),(1,b),(2,u),(3,d),(5,e),(7,f),(16,g),(18,h),(19,i),(20,j),(21,k),(29,m),(34,n),(36,o),(37,p),(38,q),(39,r),(68,s),(74,t)] := by intros; rfl
         refine R_nil (tr ..) ?_; clear tr
         refine then_n ?_
         refine at_ret rfl ?_
         refine blk_r ?_
         refine then_r ?_
         refine then_r ?_
         refine blk_r ?_
         refine then_r ?_
         refine fpure ?_
         refine ⟨rfl, ?_, rfl⟩
         have hse : prErr P.length (gt L v) = 1 := by unfold prErr; rw [if_pos (by omega)]
         have hfe : ferr (fun i => prErr P.length (gt L i)) L.length = 1 := by rw [ferr_at hy (by omega) _ (by omega), hse]
         rw [rchkS, if_neg (by omega), if_neg (by omega), if_neg (by omega), if_pos (by omega), hfe]
        ·
         try simp only [decide_eq_true_eq, decide_eq_false_iff_not, Bool.not_eq_true', Bool.not_eq_false', beq_iff_eq, beq_eq_false_iff_ne, ne_eq] at h10
         refine Ry ?_
         refine Rq ?_
         refine Ry ?_
         refine Rq ?_
         refine Ry ?_
         refine Rq ?_
         refine Ry ?_
         refine Rq ?_
         refine Rq ?_
         refine Rq ?_
         refine Rp_split (fun h11 => ?_) (fun h11 => ?_)
         ·
          try simp only [decide_eq_true_eq, decide_eq_false_iff_not, Bool.not_eq_true', Bool.not_eq_false', beq_iff_eq, beq_eq_false_iff_ne, ne_eq] at h11
          refine Rn ?_
          refine Rn ?_
          refine Rn ?_
          refine Rn ?_
          refine Rn ?_
          refine Rq ?_
          have tr : ∀ a b c d e f g h i j k m n o p q r s t u v w x y z A B C D E F G H I J K L M N O P Q R S T U : AV, let l := lc_chk53_ok a b c d e f g h i j k m n o p q r s t; trim ((68,U)::(67,T)::(66,S)::(65,R)::(64,Q)::(63,P)::(62,O)::(61,N)::(60,M)::(59,L)::(58,K)::(57,J)::(56,I)::(55,H)::(54,G)::(53,F)::(52,E)::(51,D)::(50,C)::(49,B)::(48,A)::(47,z)::(46,y)::(45,x)::(44,w)::(43,v)::(42,u)::l) l = [(0,a),(1,b),(2,c),(3,d),(5,e),(7,f),(16,g),(18,h),(19,i),(20,j),(21,k),(29,m),(34,n),(36,o),(37,p),(38,q),(39,r),(68,U),(74,t)] := by intros; rfl
          refine R_nil (tr ..) ?_; clear tr
          refine then_n ?_
          refine cdt ?_
          refine at_seq rfl ?_
          refine rg rfl ?_
          refine Rq ?_
          have tr : ∀ a b c d e f g h i j k m n o p q r s t u : AV, let l := lc_chk53_ok a b c d e f g h i j k m n o p q r s t; trim ((2,u)::l) l = [(0,a),(1,b),(2,u),(3,d),(5,e),(7,f),(16,g),(18,h),(19,i),(20,j),(21,k),(29,m),(34,n),(36,o),(37,p),(38,q),(39,r),(68,s),(74,t)] := by intros; rfl
          refine R_nil (tr ..) ?_; clear tr
          refine then_n ?_
          refine at_ret rfl ?_
          refine blk_r ?_
          refine then_r ?_
          refine then_r ?_
          refine blk_r ?_
          refine then_r ?_
          refine fpure ?_
          refine ⟨rfl, ?_, rfl⟩
          have hse : prErr P.length (gt L v) = 1 := by unfold prErr; rw [if_pos (by omega)]
          have hfe : ferr (fun i => prErr P.length (gt L i)) L.length = 1 := by rw [ferr_at hy (by omega) _ (by omega), hse]
          rw [rchkS, if_neg (by omega), if_neg (by omega), if_neg (by omega), if_pos (by omega), hfe]
         ·
          try simp only [decide_eq_true_eq, decide_eq_false_iff_not, Bool.not_eq_true', Bool.not_eq_false', beq_iff_eq, beq_eq_false_iff_ne, ne_eq] at h11
          refine Ry ?_
          refine Rq ?_
          refine Ry ?_
          refine Rq ?_
          refine Ry ?_
          refine Rq ?_
          refine Ry ?_
          refine Rq ?_
          refine Ry ?_
          refine Rq ?_
          refine Rq ?_
          have tr : ∀ a b c d e f g h i j k m n o p q r s t u v w x y z A B C D E F G H I J K L M N O P Q R S T U : AV, let l := lc_chk53_ok a b c d e f g h i j k m n o p q r s t; trim ((68,U)::(67,T)::(66,S)::(65,R)::(64,Q)::(63,P)::(62,O)::(61,N)::(60,M)::(59,L)::(58,K)::(57,J)::(56,I)::(55,H)::(54,G)::(53,F)::(52,E)::(51,D)::(50,C)::(49,B)::(48,A)::(47,z)::(46,y)::(45,x)::(44,w)::(43,v)::(42,u)::l) l = [(0,a),(1,b),(2,c),(3,d),(5,e),(7,f),(16,g),(18,h),(19,i),(20,j),(21,k),(29,m),(34,n),(36,o),(37,p),(38,q),(39,r),(68,U),(74,t)] := by intros; rfl
          refine R_nil (tr ..) ?_; clear tr
          refine then_n ?_
          refine cdd (fun h12 => ?_) (fun h12 => ?_)
          ·
           try simp only [decide_eq_true_eq, decide_eq_false_iff_not, Bool.not_eq_true', Bool.not_eq_false', beq_iff_eq, beq_eq_false_iff_ne, ne_eq] at h12
           refine at_seq rfl ?_
           refine rg rfl ?_
           refine Rq ?_
           have tr : ∀ a b c d e f g h i j k m n o p q r s t u : AV, let l := lc_chk53_ok a b c d e f g h i j k m n o p q r s t; trim ((2,u)::l) l = [(0,a),(1,b),(2,u),(3,d),(5,e),(7,f),(16,g),(18,h),(19,i),(20,j),(21,k),(29,m),(34,n),(36,o),(37,p),(38,q),(39,r),(68,s),(74,t)] := by intros; rfl
           refine R_nil (tr ..) ?_; clear tr
           refine then_n ?_
           refine at_ret rfl ?_
           refine blk_r ?_
           refine then_r ?_
           refine then_r ?_
           refine blk_r ?_
           refine then_r ?_
           refine fpure ?_
           refine ⟨rfl, ?_, rfl⟩
           have hse : prErr P.length (gt L v) = 1 := by unfold prErr; rw [if_pos (by omega)]
           have hfe : ferr (fun i => prErr P.length (gt L i)) L.length = 1 := by rw [ferr_at hy (by omega) _ (by omega), hse]
           rw [rchkS, if_neg (by omega), if_neg (by omega), if_neg (by omega), if_pos (by omega), hfe]
          ·
           try simp only [decide_eq_true_eq, decide_eq_false_iff_not, Bool.not_eq_true', Bool.not_eq_false', beq_iff_eq, beq_eq_false_iff_ne, ne_eq] at h12
           refine at_skip rfl ?_
           refine blk_n ?_
           refine then_n ?_
           refine rg rfl ?_
           refine Rq ?_
           refine Rq ?_
           have tr : ∀ a b c d e f g h i j k m n o p q r s t u v : AV, let l := lc_chk53_ok a b c d e f g h i j k m n o p q r s t; trim ((38,v)::(69,u)::l) l = [(0,a),(1,b),(2,c),(3,d),(5,e),(7,f),(16,g),(18,h),(19,i),(20,j),(21,k),(29,m),(34,n),(36,o),(37,p),(38,v),(39,r),(68,s),(74,t)] := by intros; rfl
           refine R_nil (tr ..) ?_; clear tr
           refine then_n ?_
           exact ⟨_, _, ⟨v + 1, X ++ [some (prC (gt L v))], _, _, _, _, rfl, rfl, by simp <;> rfl, by omega, by exact ferr_ok hy (by show prErr P.length (gt L v) = 0; unfold prErr; rw [if_neg (by omega)])⟩, by rfl, by omega⟩
     ·
      try simp only [decide_eq_true_eq, decide_eq_false_iff_not, Bool.not_eq_true', Bool.not_eq_false', beq_iff_eq, beq_eq_false_iff_ne, ne_eq] at h7
      refine at_exit rfl ?_
      refine then_x ?_
      refine then_x ?_
      refine blk_x ?_
      refine then_n ?_
      refine at_seq rfl ?_
      refine at_seq rfl ?_
      refine rg rfl ?_
      have hye : ferr (fun i => prErr P.length (gt L i)) L.length = 0 := by rw [show L.length = v by omega]; exact hy
      refine Rq ?_
      refine Rq ?_
      refine Rcall ?_
      refine ACall_eq (pairs_ok _ _ L (by omega)) ?_
      refine R_q rfl (by simp (disch := omega) only [go_sem, ↓reduceIte, Nat.reduceEqDiff, reduceCtorEq]; exact pairsA_len L) ?_
      refine Rq ?_
      have tr : ∀ a b c d e f g h i j k m n o p q r s t u v w x y : AV, let l := lc_chk53_ok a b c d e f g h i j k m n o p q r s t; trim ((74,y)::(73,x)::(72,w)::(71,v)::(70,u)::l) l = [(0,a),(1,b),(2,c),(3,d),(5,e),(7,f),(16,g),(18,h),(19,i),(20,j),(21,k),(29,m),(34,n),(36,o),(37,p),(38,q),(39,r),(68,s),(74,y)] := by intros; rfl
      refine R_nil (tr ..) ?_; clear tr
      refine then_n ?_
      refine cdd (fun h13 => ?_) (fun h13 => ?_)
      ·
       try simp only [decide_eq_true_eq, decide_eq_false_iff_not, Bool.not_eq_true', Bool.not_eq_false', beq_iff_eq, beq_eq_false_iff_ne, ne_eq] at h13
       refine at_seq rfl ?_
       refine rg rfl ?_
       refine Rq ?_
       have tr : ∀ a b c d e f g h i j k m n o p q r s t u : AV, let l := lc_chk53_ok a b c d e f g h i j k m n o p q r s t; trim ((2,u)::l) l = [(0,a),(1,b),(2,u),(3,d),(5,e),(7,f),(16,g),(18,h),(19,i),(20,j),(21,k),(29,m),(34,n),(36,o),(37,p),(38,q),(39,r),(68,s),(74,t)] := by intros; rfl
       refine R_nil (tr ..) ?_; clear tr
       refine then_n ?_
       refine at_ret rfl ?_
       refine then_r ?_
       refine fpure ?_
       refine ⟨rfl, ?_, rfl⟩
       rw [rchkS, if_neg (by omega), if_neg (by omega), if_neg (by omega), if_neg (by omega), if_pos (by omega)]
      ·
       try simp only [decide_eq_true_eq, decide_eq_false_iff_not, Bool.not_eq_true', Bool.not_eq_false', beq_iff_eq, beq_eq_false_iff_ne, ne_eq] at h13
       refine at_skip rfl ?_
       refine then_n ?_
       refine at_seq rfl ?_
       refine rg rfl ?_
       refine Rq ?_
       have tr : ∀ a b c d e f g h i j k m n o p q r s t u : AV, let l := lc_chk53_ok a b c d e f g h i j k m n o p q r s t; trim ((2,u)::l) l = [(0,a),(1,b),(2,u),(3,d),(5,e),(7,f),(16,g),(18,h),(19,i),(20,j),(21,k),(29,m),(34,n),(36,o),(37,p),(38,q),(39,r),(68,s),(74,t)] := by intros; rfl
       refine R_nil (tr ..) ?_; clear tr
       refine then_n ?_
       refine at_ret rfl ?_
       refine fpure ?_
       refine ⟨rfl, ?_, rfl⟩
       rw [rchkS, if_neg (by omega), if_neg (by omega), if_neg (by omega), if_neg (by omega), if_neg (by omega)]

abbrev lc_rchk53_ok (a b c d e f g h i j k m n o p q r s t u : AV) : Env := [(0,a),(1,b),(2,c),(3,d),(5,e),(7,f),(8,g),(18,h),(20,i),(21,j),(22,k),(23,m),(31,n),(36,o),(38,p),(39,q),(40,r),(41,s),(70,t),(79,u)]
theorem rchk53_x (lim : Nat) (H : Heap) (P : List Int) (L : List Pr) (x : AV) (hx : frz H 0 8 x = .agg (raceC P L)) :
    ACall sig lim 16 [x] H fun r H' => r = AV.i (rchkS P L) ∧ H' = H := by
 have hargs : [x].map (frz H 0 8) = [.agg (raceC P L)] := by
  show [frz H 0 8 x] = _
  rw [hx]
 refine ACall_data (fa := fa16) rfl rfl rfl rfl hargs ?_
 have tr : ∀ a0 : AV, env0 fa16.keep [a0] = [(0,a0),(1,.any),(2,.any),(3,.any),(5,.any),(7,.any),(8,.any),(18,.any),(20,.any),(21,.any),(22,.any),(23,.any),(31,.any),(36,.any),(38,.any),(39,.any),(40,.any),(41,.any),(70,.any),(79,.any)] := fun a0 => rfl
 refine W_to (tr _) ?_; clear tr
 refine at_seq rfl ?_
 refine rg rfl ?_
 refine R_box rfl (by simp (disch := omega) only [go_sem, ↓reduceIte, Nat.reduceEqDiff, reduceCtorEq] <;> rfl) rfl rfl ?_
 refine Rq ?_
 have tr : ∀ a b c d e f g h i j k m n o p q r s t u v w : AV, let l := lc_rchk53_ok a b c d e f g h i j k m n o p q r s t u; trim ((2,w)::(1,v)::l) l = [(0,a),(1,v),(2,w),(3,d),(5,e),(7,f),(8,g),(18,h),(20,i),(21,j),(22,k),(23,m),(31,n),(36,o),(38,p),(39,q),(40,r),(41,s),(70,t),(79,u)] := by intros; rfl
 refine R_nil (tr ..) ?_; clear tr
 refine then_n ?_
 refine at_seq rfl ?_
 refine rg rfl ?_
 refine Rq ?_
 refine Rq ?_
 refine Rq ?_
 refine Rq ?_
 have tr : ∀ a b c d e f g h i j k m n o p q r s t u v w x y : AV, let l := lc_rchk53_ok a b c d e f g h i j k m n o p q r s t u; trim ((3,y)::(12,x)::(11,w)::(10,v)::l) l = [(0,a),(1,b),(2,c),(3,y),(5,e),(7,f),(8,g),(18,h),(20,i),(21,j),(22,k),(23,m),(31,n),(36,o),(38,p),(39,q),(40,r),(41,s),(70,t),(79,u)] := by intros; rfl
 refine R_nil (tr ..) ?_; clear tr
 refine then_n ?_
 refine at_seq rfl ?_
 refine at_seq rfl ?_
 refine rg rfl ?_
 refine Rq ?_
 refine Rq ?_
 refine Rq ?_
 refine Rp_split (fun h1 => ?_) (fun h1 => ?_)
 ·
  try simp only [decide_eq_true_eq, decide_eq_false_iff_not, Bool.not_eq_true', Bool.not_eq_false', beq_iff_eq, beq_eq_false_iff_ne, ne_eq] at h1
  refine Rn ?_
  refine Rn ?_
  refine Rq ?_
  have tr : ∀ a b c d e f g h i j k m n o p q r s t u v w x y z A : AV, let l := lc_rchk53_ok a b c d e f g h i j k m n o p q r s t u; trim ((18,A)::(17,z)::(16,y)::(15,x)::(14,w)::(13,v)::l) l = [(0,a),(1,b),(2,c),(3,d),(5,e),(7,f),(8,g),(18,A),(20,i),(21,j),(22,k),(23,m),(31,n),(36,o),(38,p),(39,q),(40,r),(41,s),(70,t),(79,u)] := by intros; rfl
  refine R_nil (tr ..) ?_; clear tr
  refine then_n ?_
  refine cdt ?_
  refine at_seq rfl ?_
  refine rg rfl ?_
  refine Rq ?_
  have tr : ∀ a b c d e f g h i j k m n o p q r s t u v : AV, let l := lc_rchk53_ok a b c d e f g h i j k m n o p q r s t u; trim ((2,v)::l) l = [(0,a),(1,b),(2,v),(3,d),(5,e),(7,f),(8,g),(18,h),(20,i),(21,j),(22,k),(23,m),(31,n),(36,o),(38,p),(39,q),(40,r),(41,s),(70,t),(79,u)] := by intros; rfl
  refine R_nil (tr ..) ?_; clear tr
  refine then_n ?_
  refine at_ret rfl ?_
  refine then_r ?_
  refine fpure ?_
  refine ⟨rfl, ?_, rfl⟩
  rw [rchkS, if_pos (by omega)]
 ·
  try simp only [decide_eq_true_eq, decide_eq_false_iff_not, Bool.not_eq_true', Bool.not_eq_false', beq_iff_eq, beq_eq_false_iff_ne, ne_eq] at h1
  refine Ry ?_
  refine Rq ?_
  refine Ry ?_
  refine Rq ?_
  refine Rq ?_
  have tr : ∀ a b c d e f g h i j k m n o p q r s t u v w x y z A : AV, let l := lc_rchk53_ok a b c d e f g h i j k m n o p q r s t u; trim ((18,A)::(17,z)::(16,y)::(15,x)::(14,w)::(13,v)::l) l = [(0,a),(1,b),(2,c),(3,d),(5,e),(7,f),(8,g),(18,A),(20,i),(21,j),(22,k),(23,m),(31,n),(36,o),(38,p),(39,q),(40,r),(41,s),(70,t),(79,u)] := by intros; rfl
  refine R_nil (tr ..) ?_; clear tr
  refine then_n ?_
  refine cdd (fun h2 => ?_) (fun h2 => ?_)
  ·
   try simp only [decide_eq_true_eq, decide_eq_false_iff_not, Bool.not_eq_true', Bool.not_eq_false', beq_iff_eq, beq_eq_false_iff_ne, ne_eq] at h2
   refine at_seq rfl ?_
   refine rg rfl ?_
   refine Rq ?_
   have tr : ∀ a b c d e f g h i j k m n o p q r s t u v : AV, let l := lc_rchk53_ok a b c d e f g h i j k m n o p q r s t u; trim ((2,v)::l) l = [(0,a),(1,b),(2,v),(3,d),(5,e),(7,f),(8,g),(18,h),(20,i),(21,j),(22,k),(23,m),(31,n),(36,o),(38,p),(39,q),(40,r),(41,s),(70,t),(79,u)] := by intros; rfl
   refine R_nil (tr ..) ?_; clear tr
   refine then_n ?_
   refine at_ret rfl ?_
   refine then_r ?_
   refine fpure ?_
   refine ⟨rfl, ?_, rfl⟩
   rw [rchkS, if_pos (by omega)]
  ·
   try simp only [decide_eq_true_eq, decide_eq_false_iff_not, Bool.not_eq_true', Bool.not_eq_false', beq_iff_eq, beq_eq_false_iff_ne, ne_eq] at h2
   refine at_skip rfl ?_
   refine then_n ?_
   refine at_seq rfl ?_
   refine at_seq rfl ?_
   refine rg rfl ?_
   refine Rq ?_
   refine Rq ?_
   refine Rq ?_
   refine Rq ?_
   have tr : ∀ a b c d e f g h i j k m n o p q r s t u v w x y : AV, let l := lc_rchk53_ok a b c d e f g h i j k m n o p q r s t u; trim ((22,y)::(21,x)::(20,w)::(19,v)::l) l = [(0,a),(1,b),(2,c),(3,d),(5,e),(7,f),(8,g),(18,h),(20,w),(21,x),(22,y),(23,m),(31,n),(36,o),(38,p),(39,q),(40,r),(41,s),(70,t),(79,u)] := by intros; rfl
   refine R_nil (tr ..) ?_; clear tr
   refine then_n ?_
   refine at_block rfl ?_
   refine loop_n rfl (fun mm kv H' => ∃ u : Nat, ∃ x2 x5 x23 x31 : AV, (kv = [(2, x2), (5, x5), (22, AV.i u), (23, x23), (31, x31)]) ∧ (mm = P.length - u) ∧ (H' = [] ++ [some (raceC P L)]) ∧ (u ≤ P.length) ∧ (ferr (fun i => ptErr (gt P i)) u = 0)) ⟨0, _, _, _, _, rfl, rfl, rfl, by omega, by rfl⟩ (by rfl) ?_
   rintro mm kv H' ⟨u, x2, x5, x23, x31, rfl, rfl, rfl, hu, hz⟩
   have tr : ∀ a b c d e f g h i j k m n o p q r s t u v w x y z : AV, upd [(0,a),(1,b),(2,c),(3,d),(5,e),(7,f),(8,g),(18,h),(20,i),(21,j),(22,k),(23,m),(31,n),(36,o),(38,p),(39,q),(40,r),(41,s),(70,t),(79,u)] [(2,v),(5,w),(22,x),(23,y),(31,z)] = [(0,a),(1,b),(2,v),(3,d),(5,w),(7,f),(8,g),(18,h),(20,i),(21,j),(22,x),(23,y),(31,z),(36,o),(38,p),(39,q),(40,r),(41,s),(70,t),(79,u)] := by intros; rfl
   refine W_to (tr ..) ?_; clear tr
   refine at_seq rfl ?_
   refine rg rfl ?_
   refine Rq ?_
   have tr : ∀ a b c d e f g h i j k m n o p q r s t u v : AV, let l := lc_rchk53_ok a b c d e f g h i j k m n o p q r s t u; trim ((23,v)::l) l = [(0,a),(1,b),(2,c),(3,d),(5,e),(7,f),(8,g),(18,h),(20,i),(21,j),(22,k),(23,v),(31,n),(36,o),(38,p),(39,q),(40,r),(41,s),(70,t),(79,u)] := by intros; rfl
   refine R_nil (tr ..) ?_; clear tr
   refine then_n ?_
   refine at_seq rfl ?_
   refine cdd (fun h3 => ?_) (fun h3 => ?_)
   ·
    try simp only [decide_eq_true_eq, decide_eq_false_iff_not, Bool.not_eq_true', Bool.not_eq_false', beq_iff_eq, beq_eq_false_iff_ne, ne_eq] at h3
    refine at_skip rfl ?_
    refine then_n ?_
    refine at_seq rfl ?_
    refine at_block rfl ?_
    refine at_seq rfl ?_
    refine rg rfl ?_
    refine Rq ?_
    refine Rq ?_
    refine Rq ?_
    have tr : ∀ a b c d e f g h i j k m n o p q r s t u v w x : AV, let l := lc_rchk53_ok a b c d e f g h i j k m n o p q r s t u; trim ((5,x)::(25,w)::(24,v)::l) l = [(0,a),(1,b),(2,c),(3,d),(5,x),(7,f),(8,g),(18,h),(20,i),(21,j),(22,k),(23,m),(31,n),(36,o),(38,p),(39,q),(40,r),(41,s),(70,t),(79,u)] := by intros; rfl
    refine R_nil (tr ..) ?_; clear tr
    refine then_n ?_
    refine at_seq rfl ?_
    refine rg rfl ?_
    refine Rq ?_
    refine Rq ?_
    refine Rq ?_
    refine Rp_split (fun h4 => ?_) (fun h4 => ?_)
    ·
     try simp only [decide_eq_true_eq, decide_eq_false_iff_not, Bool.not_eq_true', Bool.not_eq_false', beq_iff_eq, beq_eq_false_iff_ne, ne_eq] at h4
     refine Rn ?_
     refine Rn ?_
     refine Rq ?_
     have tr : ∀ a b c d e f g h i j k m n o p q r s t u v w x y z A : AV, let l := lc_rchk53_ok a b c d e f g h i j k m n o p q r s t u; trim ((31,A)::(30,z)::(29,y)::(28,x)::(27,w)::(26,v)::l) l = [(0,a),(1,b),(2,c),(3,d),(5,e),(7,f),(8,g),(18,h),(20,i),(21,j),(22,k),(23,m),(31,A),(36,o),(38,p),(39,q),(40,r),(41,s),(70,t),(79,u)] := by intros; rfl
     refine R_nil (tr ..) ?_; clear tr
     refine then_n ?_
     refine cdt ?_
     refine at_seq rfl ?_
     refine rg rfl ?_
     refine Rq ?_
     have tr : ∀ a b c d e f g h i j k m n o p q r s t u v : AV, let l := lc_rchk53_ok a b c d e f g h i j k m n o p q r s t u; trim ((2,v)::l) l = [(0,a),(1,b),(2,v),(3,d),(5,e),(7,f),(8,g),(18,h),(20,i),(21,j),(22,k),(23,m),(31,n),(36,o),(38,p),(39,q),(40,r),(41,s),(70,t),(79,u)] := by intros; rfl
     refine R_nil (tr ..) ?_; clear tr
     refine then_n ?_
     refine at_ret rfl ?_
     refine blk_r ?_
     refine then_r ?_
     refine then_r ?_
     refine blk_r ?_
     refine then_r ?_
     refine fpure ?_
     refine ⟨rfl, ?_, rfl⟩
     have hse : ptErr (gt P u) = 2 := by unfold ptErr; rw [if_pos (by omega)]
     have hfe : ferr (fun i => ptErr (gt P i)) P.length = 2 := by rw [ferr_at hz (by omega) _ (by omega), hse]
     rw [rchkS, if_neg (by omega), if_pos (by omega), hfe]
    ·
     try simp only [decide_eq_true_eq, decide_eq_false_iff_not, Bool.not_eq_true', Bool.not_eq_false', beq_iff_eq, beq_eq_false_iff_ne, ne_eq] at h4
     refine Ry ?_
     refine Rq ?_
     refine Ry ?_
     refine Rq ?_
     refine Rq ?_
     have tr : ∀ a b c d e f g h i j k m n o p q r s t u v w x y z A : AV, let l := lc_rchk53_ok a b c d e f g h i j k m n o p q r s t u; trim ((31,A)::(30,z)::(29,y)::(28,x)::(27,w)::(26,v)::l) l = [(0,a),(1,b),(2,c),(3,d),(5,e),(7,f),(8,g),(18,h),(20,i),(21,j),(22,k),(23,m),(31,A),(36,o),(38,p),(39,q),(40,r),(41,s),(70,t),(79,u)] := by intros; rfl
     refine R_nil (tr ..) ?_; clear tr
     refine then_n ?_
     refine cdd (fun h5 => ?_) (fun h5 => ?_)
     ·
      try simp only [decide_eq_true_eq, decide_eq_false_iff_not, Bool.not_eq_true', Bool.not_eq_false', beq_iff_eq, beq_eq_false_iff_ne, ne_eq] at h5
      refine at_seq rfl ?_
      refine rg rfl ?_
      refine Rq ?_
      have tr : ∀ a b c d e f g h i j k m n o p q r s t u v : AV, let l := lc_rchk53_ok a b c d e f g h i j k m n o p q r s t u; trim ((2,v)::l) l = [(0,a),(1,b),(2,v),(3,d),(5,e),(7,f),(8,g),(18,h),(20,i),(21,j),(22,k),(23,m),(31,n),(36,o),(38,p),(39,q),(40,r),(41,s),(70,t),(79,u)] := by intros; rfl
      refine R_nil (tr ..) ?_; clear tr
      refine then_n ?_
      refine at_ret rfl ?_
      refine blk_r ?_
      refine then_r ?_
      refine then_r ?_
      refine blk_r ?_
      refine then_r ?_
      refine fpure ?_
      refine ⟨rfl, ?_, rfl⟩
      have hse : ptErr (gt P u) = 2 := by unfold ptErr; rw [if_pos (by omega)]
      have hfe : ferr (fun i => ptErr (gt P i)) P.length = 2 := by rw [ferr_at hz (by omega) _ (by omega), hse]
      rw [rchkS, if_neg (by omega), if_pos (by omega), hfe]
     ·
      try simp only [decide_eq_true_eq, decide_eq_false_iff_not, Bool.not_eq_true', Bool.not_eq_false', beq_iff_eq, beq_eq_false_iff_ne, ne_eq] at h5
      refine at_skip rfl ?_
      refine blk_n ?_
      refine then_n ?_
      refine rg rfl ?_
      refine Rq ?_
      refine Rq ?_
      have tr : ∀ a b c d e f g h i j k m n o p q r s t u v w : AV, let l := lc_rchk53_ok a b c d e f g h i j k m n o p q r s t u; trim ((22,w)::(32,v)::l) l = [(0,a),(1,b),(2,c),(3,d),(5,e),(7,f),(8,g),(18,h),(20,i),(21,j),(22,w),(23,m),(31,n),(36,o),(38,p),(39,q),(40,r),(41,s),(70,t),(79,u)] := by intros; rfl
      refine R_nil (tr ..) ?_; clear tr
      refine then_n ?_
      exact ⟨_, _, ⟨u + 1, _, _, _, _, rfl, rfl, rfl, by omega, by exact ferr_ok hz (by show ptErr (gt P u) = 0; unfold ptErr; rw [if_neg (by omega)])⟩, by rfl, by omega⟩
   ·
    try simp only [decide_eq_true_eq, decide_eq_false_iff_not, Bool.not_eq_true', Bool.not_eq_false', beq_iff_eq, beq_eq_false_iff_ne, ne_eq] at h3
    refine at_exit rfl ?_
    refine then_x ?_
    refine then_x ?_
    refine blk_x ?_
    refine then_n ?_
    refine at_seq rfl ?_
    refine at_seq rfl ?_
    refine rg rfl ?_
    have hze : ferr (fun i => ptErr (gt P i)) P.length = 0 := by rw [show P.length = u by omega]; exact hz
    refine Rq ?_
    refine Rq ?_
    refine Rq ?_
    refine Rq ?_
    have tr : ∀ a b c d e f g h i j k m n o p q r s t u v w x y : AV, let l := lc_rchk53_ok a b c d e f g h i j k m n o p q r s t u; trim ((36,y)::(35,x)::(34,w)::(33,v)::l) l = [(0,a),(1,b),(2,c),(3,d),(5,e),(7,f),(8,g),(18,h),(20,i),(21,j),(22,k),(23,m),(31,n),(36,y),(38,p),(39,q),(40,r),(41,s),(70,t),(79,u)] := by intros; rfl
    refine R_nil (tr ..) ?_; clear tr
    refine then_n ?_
    refine cdd (fun h6 => ?_) (fun h6 => ?_)
    ·
     try simp only [decide_eq_true_eq, decide_eq_false_iff_not, Bool.not_eq_true', Bool.not_eq_false', beq_iff_eq, beq_eq_false_iff_ne, ne_eq] at h6
     refine at_seq rfl ?_
     refine rg rfl ?_
     refine Rq ?_
     have tr : ∀ a b c d e f g h i j k m n o p q r s t u v : AV, let l := lc_rchk53_ok a b c d e f g h i j k m n o p q r s t u; trim ((2,v)::l) l = [(0,a),(1,b),(2,v),(3,d),(5,e),(7,f),(8,g),(18,h),(20,i),(21,j),(22,k),(23,m),(31,n),(36,o),(38,p),(39,q),(40,r),(41,s),(70,t),(79,u)] := by intros; rfl
     refine R_nil (tr ..) ?_; clear tr
     refine then_n ?_
     refine at_ret rfl ?_
     refine then_r ?_
     refine fpure ?_
     refine ⟨rfl, ?_, rfl⟩
     rw [rchkS, if_neg (by omega), if_neg (by omega), if_pos (by omega)]
    ·
     try simp only [decide_eq_true_eq, decide_eq_false_iff_not, Bool.not_eq_true', Bool.not_eq_false', beq_iff_eq, beq_eq_false_iff_ne, ne_eq] at h6
     refine at_skip rfl ?_
     refine then_n ?_
     refine at_seq rfl ?_
     refine at_seq rfl ?_
     refine rg rfl ?_
     refine Rq ?_
     refine Rq ?_
     refine Rq ?_
     refine Rq ?_
     have tr : ∀ a b c d e f g h i j k m n o p q r s t u v w x y : AV, let l := lc_rchk53_ok a b c d e f g h i j k m n o p q r s t u; trim ((40,y)::(39,x)::(38,w)::(37,v)::l) l = [(0,a),(1,b),(2,c),(3,d),(5,e),(7,f),(8,g),(18,h),(20,i),(21,j),(22,k),(23,m),(31,n),(36,o),(38,w),(39,x),(40,y),(41,s),(70,t),(79,u)] := by intros; rfl
     refine R_nil (tr ..) ?_; clear tr
     refine then_n ?_
     refine at_block rfl ?_
     refine loop_n rfl (fun mm kv H' => ∃ v : Nat, ∃ X : Heap, ∃ x2 x7 x41 x70 : AV, (kv = [(2, x2), (7, x7), (40, AV.i v), (41, x41), (70, x70)]) ∧ (mm = L.length - v) ∧ (H' = [] ++ [some (raceC P L)] ++ X) ∧ (v ≤ L.length) ∧ (ferr (fun i => prErr P.length (gt L i)) v = 0)) ⟨0, [], _, _, _, _, rfl, rfl, by simp, by omega, by rfl⟩ (by rfl) ?_
     rintro mm kv H1 ⟨v, X, x2, x7, x41, x70, rfl, rfl, hX, hv, hy⟩
     have tr : ∀ a b c d e f g h i j k m n o p q r s t u v w x y z : AV, upd [(0,a),(1,b),(2,c),(3,d),(5,e),(7,f),(8,g),(18,h),(20,i),(21,j),(22,k),(23,m),(31,n),(36,o),(38,p),(39,q),(40,r),(41,s),(70,t),(79,u)] [(2,v),(7,w),(40,x),(41,y),(70,z)] = [(0,a),(1,b),(2,v),(3,d),(5,e),(7,w),(8,g),(18,h),(20,i),(21,j),(22,k),(23,m),(31,n),(36,o),(38,p),(39,q),(40,x),(41,y),(70,z),(79,u)] := by intros; rfl
     refine W_to (tr ..) ?_; clear tr
     subst hX
     refine at_seq rfl ?_
     refine rg rfl ?_
     refine Rq ?_
     have tr : ∀ a b c d e f g h i j k m n o p q r s t u v : AV, let l := lc_rchk53_ok a b c d e f g h i j k m n o p q r s t u; trim ((41,v)::l) l = [(0,a),(1,b),(2,c),(3,d),(5,e),(7,f),(8,g),(18,h),(20,i),(21,j),(22,k),(23,m),(31,n),(36,o),(38,p),(39,q),(40,r),(41,v),(70,t),(79,u)] := by intros; rfl
     refine R_nil (tr ..) ?_; clear tr
     refine then_n ?_
     refine at_seq rfl ?_
     refine cdd (fun h7 => ?_) (fun h7 => ?_)
     ·
      try simp only [decide_eq_true_eq, decide_eq_false_iff_not, Bool.not_eq_true', Bool.not_eq_false', beq_iff_eq, beq_eq_false_iff_ne, ne_eq] at h7
      refine at_skip rfl ?_
      refine then_n ?_
      refine at_seq rfl ?_
      refine at_block rfl ?_
      refine at_seq rfl ?_
      refine rg rfl ?_
      refine Rq ?_
      refine Rq ?_
      refine R_alloc (by simp (disch := omega) only [go_sem, ↓reduceIte, Nat.reduceEqDiff, reduceCtorEq] <;> rfl) rfl (by simp only [List.map_cons, List.map_nil]; rfl) ?_
      refine R_store ty33 (by simp (disch := omega) only [go_sem, ↓reduceIte, Nat.reduceEqDiff, reduceCtorEq] <;> rfl) (by simp (disch := omega) only [go_sem, ↓reduceIte, Nat.reduceEqDiff, reduceCtorEq] <;> rfl) (by simp (disch := omega) only [go_sem, ↓reduceIte, Nat.reduceEqDiff, reduceCtorEq] <;> rfl) (by simp) (by rfl) (by simp (disch := omega) only [go_sem, ↓reduceIte, Nat.reduceEqDiff, reduceCtorEq] <;> rfl) ?_
      have tr : ∀ a b c d e f g h i j k m n o p q r s t u v w x : AV, let l := lc_rchk53_ok a b c d e f g h i j k m n o p q r s t u; trim ((7,x)::(43,w)::(42,v)::l) l = [(0,a),(1,b),(2,c),(3,d),(5,e),(7,x),(8,g),(18,h),(20,i),(21,j),(22,k),(23,m),(31,n),(36,o),(38,p),(39,q),(40,r),(41,s),(70,t),(79,u)] := by intros; rfl
      refine R_nil (tr ..) ?_; clear tr
      refine then_n ?_
      refine at_seq rfl ?_
      refine rg rfl ?_
      refine Rq ?_
      refine Rq ?_
      refine Rq ?_
      refine Rq ?_
      refine Rp_split (fun h8 => ?_) (fun h8 => ?_)
      ·
       try simp only [decide_eq_true_eq, decide_eq_false_iff_not, Bool.not_eq_true', Bool.not_eq_false', beq_iff_eq, beq_eq_false_iff_ne, ne_eq] at h8
       refine Rn ?_
       refine Rn ?_
       refine Rn ?_
       refine Rn ?_
       refine Rq ?_
       refine Rq ?_
       refine Rn ?_
       refine Rn ?_
       refine Rn ?_
       refine Rq ?_
       refine Rq ?_
       refine Rn ?_
       refine Rn ?_
       refine Rn ?_
       refine Rn ?_
       refine Rq ?_
       refine Rq ?_
       refine Rn ?_
       refine Rn ?_
       refine Rn ?_
       refine Rn ?_
       refine Rn ?_
       refine Rq ?_
       have tr : ∀ a b c d e f g h i j k m n o p q r s t u v w x y z A B C D E F G H I J K L M N O P Q R S T U V : AV, let l := lc_rchk53_ok a b c d e f g h i j k m n o p q r s t u; trim ((70,V)::(69,U)::(68,T)::(67,S)::(66,R)::(65,Q)::(64,P)::(63,O)::(62,N)::(61,M)::(60,L)::(59,K)::(58,J)::(57,I)::(56,H)::(55,G)::(54,F)::(53,E)::(52,D)::(51,C)::(50,B)::(49,A)::(48,z)::(47,y)::(46,x)::(45,w)::(44,v)::l) l = [(0,a),(1,b),(2,c),(3,d),(5,e),(7,f),(8,g),(18,h),(20,i),(21,j),(22,k),(23,m),(31,n),(36,o),(38,p),(39,q),(40,r),(41,s),(70,V),(79,u)] := by intros; rfl
       refine R_nil (tr ..) ?_; clear tr
       refine then_n ?_
       refine cdt ?_
       refine at_seq rfl ?_
       refine rg rfl ?_
       refine Rq ?_
       have tr : ∀ a b c d e f g h i j k m n o p q r s t u v : AV, let l := lc_rchk53_ok a b c d e f g h i j k m n o p q r s t u; trim ((2,v)::l) l = [(0,a),(1,b),(2,v),(3,d),(5,e),(7,f),(8,g),(18,h),(20,i),(21,j),(22,k),(23,m),(31,n),(36,o),(38,p),(39,q),(40,r),(41,s),(70,t),(79,u)] := by intros; rfl
       refine R_nil (tr ..) ?_; clear tr
       refine then_n ?_
       refine at_ret rfl ?_
       refine blk_r ?_
       refine then_r ?_
       refine then_r ?_
       refine blk_r ?_
       refine then_r ?_
       refine fpure ?_
       refine ⟨rfl, ?_, rfl⟩
       have hse : prErr P.length (gt L v) = 1 := by unfold prErr; rw [if_pos (by omega)]
       have hfe : ferr (fun i => prErr P.length (gt L i)) L.length = 1 := by rw [ferr_at hy (by omega) _ (by omega), hse]
       rw [rchkS, if_neg (by omega), if_neg (by omega), if_neg (by omega), if_pos (by omega), hfe]
      ·
       try simp only [decide_eq_true_eq, decide_eq_false_iff_not, Bool.not_eq_true', Bool.not_eq_false', beq_iff_eq, beq_eq_false_iff_ne, ne_eq] at h8
       refine Ry ?_
       refine Rq ?_
       refine Ry ?_
       refine Rq ?_
       refine Ry ?_
       refine Rq ?_
       refine Ry ?_
       refine Rq ?_
       refine Rq ?_
       refine Rq ?_
       refine Rp_split (fun h9 => ?_) (fun h9 => ?_)
       ·
        try simp only [decide_eq_true_eq, decide_eq_false_iff_not, Bool.not_eq_true', Bool.not_eq_false', beq_iff_eq, beq_eq_false_iff_ne, ne_eq] at h9
        refine Rn ?_
        refine Rn ?_
        refine Rn ?_
        refine Rq ?_
        refine Rq ?_
        refine Rn ?_
        refine Rn ?_
        refine Rn ?_
        refine Rn ?_
        refine Rq ?_
        refine Rq ?_
        refine Rn ?_
        refine Rn ?_
        refine Rn ?_
        refine Rn ?_
        refine Rn ?_
        refine Rq ?_
        have tr : ∀ a b c d e f g h i j k m n o p q r s t u v w x y z A B C D E F G H I J K L M N O P Q R S T U V : AV, let l := lc_rchk53_ok a b c d e f g h i j k m n o p q r s t u; trim ((70,V)::(69,U)::(68,T)::(67,S)::(66,R)::(65,Q)::(64,P)::(63,O)::(62,N)::(61,M)::(60,L)::(59,K)::(58,J)::(57,I)::(56,H)::(55,G)::(54,F)::(53,E)::(52,D)::(51,C)::(50,B)::(49,A)::(48,z)::(47,y)::(46,x)::(45,w)::(44,v)::l) l = [(0,a),(1,b),(2,c),(3,d),(5,e),(7,f),(8,g),(18,h),(20,i),(21,j),(22,k),(23,m),(31,n),(36,o),(38,p),(39,q),(40,r),(41,s),(70,V),(79,u)] := by intros; rfl
        refine R_nil (tr ..) ?_; clear tr
        refine then_n ?_
        refine cdt ?_
        refine at_seq rfl ?_
        refine rg rfl ?_
        refine Rq ?_
        have tr : ∀ a b c d e f g h i j k m n o p q r s t u v : AV, let l := lc_rchk53_ok a b c d e f g h i j k m n o p q r s t u; trim ((2,v)::l) l = [(0,a),(1,b),(2,v),(3,d),(5,e),(7,f),(8,g),(18,h),(20,i),(21,j),(22,k),(23,m),(31,n),(36,o),(38,p),(39,q),(40,r),(41,s),(70,t),(79,u)] := by intros; rfl
        refine R_nil (tr ..) ?_; clear tr
        refine then_n ?_
        refine at_ret rfl ?_
        refine blk_r ?_
        refine then_r ?_
        refine then_r ?_
        refine blk_r ?_
        refine then_r ?_
        refine fpure ?_
        refine ⟨rfl, ?_, rfl⟩
        have hse : prErr P.length (gt L v) = 1 := by unfold prErr; rw [if_pos (by omega)]
        have hfe : ferr (fun i => prErr P.length (gt L i)) L.length = 1 := by rw [ferr_at hy (by omega) _ (by omega), hse]
        rw [rchkS, if_neg (by omega), if_neg (by omega), if_neg (by omega), if_pos (by omega), hfe]
       ·
        try simp only [decide_eq_true_eq, decide_eq_false_iff_not, Bool.not_eq_true', Bool.not_eq_false', beq_iff_eq, beq_eq_false_iff_ne, ne_eq] at h9
        refine Ry ?_
        refine Rq ?_
        refine Ry ?_
        refine Rq ?_
        refine Ry ?_
        refine Rq ?_
        refine Rq ?_
        refine Rq ?_
        refine Rp_split (fun h10 => ?_) (fun h10 => ?_)
        ·
         try simp only [decide_eq_true_eq, decide_eq_false_iff_not, Bool.not_eq_true', Bool.not_eq_false', beq_iff_eq, beq_eq_false_iff_ne, ne_eq] at h10
         refine Rn ?_
         refine Rn ?_
         refine Rn ?_
         refine Rn ?_
         refine Rq ?_
         refine Rq ?_
         refine Rn ?_
         refine Rn ?_
         refine Rn ?_
         refine Rn ?_
         refine Rn ?_
         refine Rq ?_
         have tr : ∀ a b c d e f g h i j k m n o p q r s t u v w x y z A B C D E F G H I J K L M N O P Q R S T U V : AV, let l := lc_rchk53_ok a b c d e f g h i j k m n o p q r s t u; trim ((70,V)::(69,U)::(68,T)::(67,S)::(66,R)::(65,Q)::(64,P)::(63,O)::(62,N)::(61,M)::(60,L)::(59,K)::(58,J)::(57,I)::(56,H)::(55,G)::(54,F)::(53,E)::(52,D)::(51,C)::(50,B)::(49,A)::(48,z)::(47,y)::(46,x)::(45,w)::(44,v)::l) l = [(0,a),(1,b),(2,c),(3,d),(5,e),(7,f),(8,g),(18,h),(20,i),(21,j),(22,k),(23,m),(31,n),(36,o),(38,p),(39,q),(40,r),(41,s),(70,V),(79,u)] := by intros; rfl
         refine R_nil (tr ..) ?_; clear tr
         refine then_n ?_
         refine cdt ?_
         refine at_seq rfl ?_
         refine rg rfl ?_
         refine Rq ?_
         have tr : ∀ a b c d e f g h i j k m n o p q r s t u v : AV, let l := lc_rchk53_ok a b c d e f g h i j k m n o p q r s t u; trim ((2,v)::l) l = [(0,a),(1,b),(2,v),(3,d),(5,e),(7,f),(8,g),(18,h),(20,i),(21,j),(22,k),(23,m),(31,n),(36,o),(38,p),(39,q),(40,r),(41,s),(70,t),(79,u)] := by intros; rfl
         refine R_nil (tr ..) ?_; clear tr
         refine then_n ?_
         refine at_ret rfl ?_
         refine blk_r ?_
         refine then_r ?_
         refine then_r ?_
         refine blk_r ?_
         refine then_r ?_
         refine fpure ?_
         refine ⟨rfl, ?_, rfl⟩
         have hse : prErr P.length (gt L v) = 1 := by unfold prErr; rw [if_pos (by omega)]
         have hfe : ferr (fun i => prErr P.length (gt L i)) L.length = 1 := by rw [ferr_at hy (by omega) _ (by omega), hse]
         rw [rchkS, if_neg (by omega), if_neg (by omega), if_neg (by omega), if_pos (by omega), hfe]
        ·
         try simp only [decide_eq_true_eq, decide_eq_false_iff_not, Bool.not_eq_true', Bool.not_eq_false', beq_iff_eq, beq_eq_false_iff_ne, ne_eq] at h10
         refine Ry ?_
         refine Rq ?_
         refine Ry ?_
         refine Rq ?_
         refine Ry ?_
         refine Rq ?_
         refine Ry ?_
         refine Rq ?_
         refine Rq ?_
         refine Rq ?_
         refine Rp_split (fun h11 => ?_) (fun h11 => ?_)
         ·
          try simp only [decide_eq_true_eq, decide_eq_false_iff_not, Bool.not_eq_true', Bool.not_eq_false', beq_iff_eq, beq_eq_false_iff_ne, ne_eq] at h11
          refine Rn ?_
          refine Rn ?_
          refine Rn ?_
          refine Rn ?_
          refine Rn ?_
          refine Rq ?_
          have tr : ∀ a b c d e f g h i j k m n o p q r s t u v w x y z A B C D E F G H I J K L M N O P Q R S T U V : AV, let l := lc_rchk53_ok a b c d e f g h i j k m n o p q r s t u; trim ((70,V)::(69,U)::(68,T)::(67,S)::(66,R)::(65,Q)::(64,P)::(63,O)::(62,N)::(61,M)::(60,L)::(59,K)::(58,J)::(57,I)::(56,H)::(55,G)::(54,F)::(53,E)::(52,D)::(51,C)::(50,B)::(49,A)::(48,z)::(47,y)::(46,x)::(45,w)::(44,v)::l) l = [(0,a),(1,b),(2,c),(3,d),(5,e),(7,f),(8,g),(18,h),(20,i),(21,j),(22,k),(23,m),(31,n),(36,o),(38,p),(39,q),(40,r),(41,s),(70,V),(79,u)] := by intros; rfl
          refine R_nil (tr ..) ?_; clear tr
          refine then_n ?_
          refine cdt ?_
          refine at_seq rfl ?_
          refine rg rfl ?_
          refine Rq ?_
          have tr : ∀ a b c d e f g h i j k m n o p q r s t u v : AV, let l := lc_rchk53_ok a b c d e f g h i j k m n o p q r s t u; trim ((2,v)::l) l = [(0,a),(1,b),(2,v),(3,d),(5,e),(7,f),(8,g),(18,h),(20,i),(21,j),(22,k),(23,m),(31,n),(36,o),(38,p),(39,q),(40,r),(41,s),(70,t),(79,u)] := by intros; rfl
          refine R_nil (tr ..) ?_; clear tr
          refine then_n ?_
          refine at_ret rfl ?_
          refine blk_r ?_
          refine then_r ?_
          refine then_r ?_
          refine blk_r ?_
          refine then_r ?_
          refine fpure ?_
          refine ⟨rfl, ?_, rfl⟩
          have hse : prErr P.length (gt L v) = 1 := by unfold prErr; rw [if_pos (by omega)]
          have hfe : ferr (fun i => prErr P.length (gt L i)) L.length = 1 := by rw [ferr_at hy (by omega) _ (by omega), hse]
          rw [rchkS, if_neg (by omega), if_neg (by omega), if_neg (by omega), if_pos (by omega), hfe]
         ·
          try simp only [decide_eq_true_eq, decide_eq_false_iff_not, Bool.not_eq_true', Bool.not_eq_false', beq_iff_eq, beq_eq_false_iff_ne, ne_eq] at h11
          refine Ry ?_
          refine Rq ?_
          refine Ry ?_
          refine Rq ?_
          refine Ry ?_
          refine Rq ?_
          refine Ry ?_
          refine Rq ?_
          refine Ry ?_
          refine Rq ?_
          refine Rq ?_
          have tr : ∀ a b c d e f g h i j k m n o p q r s t u v w x y z A B C D E F G H I J K L M N O P Q R S T U V : AV, let l := lc_rchk53_ok a b c d e f g h i j k m n o p q r s t u; trim ((70,V)::(69,U)::(68,T)::(67,S)::(66,R)::(65,Q)::(64,P)::(63,O)::(62,N)::(61,M)::(60,L)::(59,K)::(58,J)::(57,I)::(56,H)::(55,G)::(54,F)::(53,E)::(52,D)::(51,C)::(50,B)::(49,A)::(48,z)::(47,y)::(46,x)::(45,w)::(44,v)::l) l = [(0,a),(1,b),(2,c),(3,d),(5,e),(7,f),(8,g),(18,h),(20,i),(21,j),(22,k),(23,m),(31,n),(36,o),(38,p),(39,q),(40,r),(41,s),(70,V),(79,u)] := by intros; rfl
          refine R_nil (tr ..) ?_; clear tr
          refine then_n ?_
          refine cdd (fun h12 => ?_) (fun h12 => ?_)
          ·
           try simp only [decide_eq_true_eq, decide_eq_false_iff_not, Bool.not_eq_true', Bool.not_eq_false', beq_iff_eq, beq_eq_false_iff_ne, ne_eq] at h12
           refine at_seq rfl ?_
           refine rg rfl ?_
           refine Rq ?_
           have tr : ∀ a b c d e f g h i j k m n o p q r s t u v : AV, let l := lc_rchk53_ok a b c d e f g h i j k m n o p q r s t u; trim ((2,v)::l) l = [(0,a),(1,b),(2,v),(3,d),(5,e),(7,f),(8,g),(18,h),(20,i),(21,j),(22,k),(23,m),(31,n),(36,o),(38,p),(39,q),(40,r),(41,s),(70,t),(79,u)] := by intros; rfl
           refine R_nil (tr ..) ?_; clear tr
           refine then_n ?_
           refine at_ret rfl ?_
           refine blk_r ?_
           refine then_r ?_
           refine then_r ?_
           refine blk_r ?_
           refine then_r ?_
           refine fpure ?_
           refine ⟨rfl, ?_, rfl⟩
           have hse : prErr P.length (gt L v) = 1 := by unfold prErr; rw [if_pos (by omega)]
           have hfe : ferr (fun i => prErr P.length (gt L i)) L.length = 1 := by rw [ferr_at hy (by omega) _ (by omega), hse]
           rw [rchkS, if_neg (by omega), if_neg (by omega), if_neg (by omega), if_pos (by omega), hfe]
          ·
           try simp only [decide_eq_true_eq, decide_eq_false_iff_not, Bool.not_eq_true', Bool.not_eq_false', beq_iff_eq, beq_eq_false_iff_ne, ne_eq] at h12
           refine at_skip rfl ?_
           refine blk_n ?_
           refine then_n ?_
           refine rg rfl ?_
           refine Rq ?_
           refine Rq ?_
           have tr : ∀ a b c d e f g h i j k m n o p q r s t u v w : AV, let l := lc_rchk53_ok a b c d e f g h i j k m n o p q r s t u; trim ((40,w)::(71,v)::l) l = [(0,a),(1,b),(2,c),(3,d),(5,e),(7,f),(8,g),(18,h),(20,i),(21,j),(22,k),(23,m),(31,n),(36,o),(38,p),(39,q),(40,w),(41,s),(70,t),(79,u)] := by intros; rfl
           refine R_nil (tr ..) ?_; clear tr
           refine then_n ?_
           exact ⟨_, _, ⟨v + 1, X ++ [some (prC (gt L v))], _, _, _, _, rfl, rfl, by simp <;> rfl, by omega, by exact ferr_ok hy (by show prErr P.length (gt L v) = 0; unfold prErr; rw [if_neg (by omega)])⟩, by rfl, by omega⟩
     ·
      try simp only [decide_eq_true_eq, decide_eq_false_iff_not, Bool.not_eq_true', Bool.not_eq_false', beq_iff_eq, beq_eq_false_iff_ne, ne_eq] at h7
      refine at_exit rfl ?_
      refine then_x ?_
      refine then_x ?_
      refine blk_x ?_
      refine then_n ?_
      refine at_seq rfl ?_
      refine at_seq rfl ?_
      refine rg rfl ?_
      have hye : ferr (fun i => prErr P.length (gt L i)) L.length = 0 := by rw [show L.length = v by omega]; exact hy
      refine Rq ?_
      refine Rcall ?_
      refine ACall_mono (rpairs_ok _ _ P L (by omega) (fun i hi => (pr_of (ferr_all hye i hi)))) ?_
      rintro r H6 ⟨⟨N, rfl⟩, rfl⟩
      refine Rq ?_
      refine Rq ?_
      refine Rq ?_
      refine Rq ?_
      refine Rq ?_
      have tr : ∀ a b c d e f g h i j k m n o p q r s t u v w x y z A B : AV, let l := lc_rchk53_ok a b c d e f g h i j k m n o p q r s t u; trim ((9,B)::(8,A)::(76,z)::(75,y)::(72,x)::(74,w)::(73,v)::l) l = [(0,a),(1,b),(2,c),(3,d),(5,e),(7,f),(8,A),(18,h),(20,i),(21,j),(22,k),(23,m),(31,n),(36,o),(38,p),(39,q),(40,r),(41,s),(70,t),(79,u)] := by intros; rfl
      refine R_nil (tr ..) ?_; clear tr
      refine then_n ?_
      refine at_seq rfl ?_
      refine rg rfl ?_
      refine Rq ?_
      refine R_q rfl (by simp (disch := omega) only [go_sem, ↓reduceIte, Nat.reduceEqDiff, reduceCtorEq]; exact refA_len L) ?_
      refine Rq ?_
      have tr : ∀ a b c d e f g h i j k m n o p q r s t u v w x : AV, let l := lc_rchk53_ok a b c d e f g h i j k m n o p q r s t u; trim ((79,x)::(78,w)::(77,v)::l) l = [(0,a),(1,b),(2,c),(3,d),(5,e),(7,f),(8,g),(18,h),(20,i),(21,j),(22,k),(23,m),(31,n),(36,o),(38,p),(39,q),(40,r),(41,s),(70,t),(79,x)] := by intros; rfl
      refine R_nil (tr ..) ?_; clear tr
      refine then_n ?_
      refine cdd (fun h13 => ?_) (fun h13 => ?_)
      ·
       try simp only [decide_eq_true_eq, decide_eq_false_iff_not, Bool.not_eq_true', Bool.not_eq_false', beq_iff_eq, beq_eq_false_iff_ne, ne_eq] at h13
       refine at_seq rfl ?_
       refine rg rfl ?_
       refine Rq ?_
       have tr : ∀ a b c d e f g h i j k m n o p q r s t u v : AV, let l := lc_rchk53_ok a b c d e f g h i j k m n o p q r s t u; trim ((2,v)::l) l = [(0,a),(1,b),(2,v),(3,d),(5,e),(7,f),(8,g),(18,h),(20,i),(21,j),(22,k),(23,m),(31,n),(36,o),(38,p),(39,q),(40,r),(41,s),(70,t),(79,u)] := by intros; rfl
       refine R_nil (tr ..) ?_; clear tr
       refine then_n ?_
       refine at_ret rfl ?_
       refine then_r ?_
       refine fpure ?_
       refine ⟨rfl, ?_, rfl⟩
       rw [rchkS, if_neg (by omega), if_neg (by omega), if_neg (by omega), if_neg (by omega), if_pos (by omega)]
      ·
       try simp only [decide_eq_true_eq, decide_eq_false_iff_not, Bool.not_eq_true', Bool.not_eq_false', beq_iff_eq, beq_eq_false_iff_ne, ne_eq] at h13
       refine at_skip rfl ?_
       refine then_n ?_
       refine at_seq rfl ?_
       refine rg rfl ?_
       refine Rq ?_
       have tr : ∀ a b c d e f g h i j k m n o p q r s t u v : AV, let l := lc_rchk53_ok a b c d e f g h i j k m n o p q r s t u; trim ((2,v)::l) l = [(0,a),(1,b),(2,v),(3,d),(5,e),(7,f),(8,g),(18,h),(20,i),(21,j),(22,k),(23,m),(31,n),(36,o),(38,p),(39,q),(40,r),(41,s),(70,t),(79,u)] := by intros; rfl
       refine R_nil (tr ..) ?_; clear tr
       refine then_n ?_
       refine at_ret rfl ?_
       refine fpure ?_
       refine ⟨rfl, ?_, rfl⟩
       rw [rchkS, if_neg (by omega), if_neg (by omega), if_neg (by omega), if_neg (by omega), if_neg (by omega)]

end Go.Proofs.Ytfnapmdedmbdbaa
end
