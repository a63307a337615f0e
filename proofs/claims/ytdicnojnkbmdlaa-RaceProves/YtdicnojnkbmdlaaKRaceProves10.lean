/-
  Texts of RaceProves, part 11 of 15. Walks of chapters 52 and 53. The steps are written by program (walk.py).
-/
import Derived.Test.YtdicnojnkbmdlaaKRaceProves9
import Derived.Test.YtdicnojnkbmdlaaKRaceProves8
import Derived.Test.YtdicnojnkbmdlaaKRaceProves6
import Derived.Test.YtdicnojnkbmdlaaKRaceProves7
section
set_option linter.unusedSimpArgs false
set_option linter.unusedVariables false
set_option maxHeartbeats 40000000
set_option maxRecDepth 4000
namespace Go.Proofs.Ytdicnojnkbmdlaa
open Go Go.Am

abbrev lc_acceptT_ok (a b c d e f g h i j : AV) : Env := [(0,a),(1,b),(2,c),(3,d),(5,e),(6,f),(7,g),(8,h),(15,i),(19,j)]
theorem acceptT_ok (lim : Nat) (H : Heap) (P : List Int) (L : List Pr) (t : Int) (S R : List Int) (sa : AV) (hsa : IsA sa S) (hR : R.length ≤ 1000) (hS : S.length ≤ 1000) :
    ACall sig lim 32 [.agg (raceC P L), AV.i t, .agg [.v (.bool true), sa, intsAV R]] H fun r H' => r = AV.i (accS P L t true S R) ∧ H' = H := by
 have q0 : True := trivial
 have q5 : True := trivial
 refine ACall_pure (fa := fa32) rfl rfl rfl rfl ?_
 have tr : ∀ a0 a1 a2 : AV, env0 fa32.keep [a0, a1, a2] = [(0,a0),(1,a1),(2,a2),(3,.any),(5,.any),(6,.any),(7,.any),(8,.any),(15,.any),(19,.any)] := fun a0 a1 a2 => rfl
 refine W_to (tr _ _ _) ?_; clear tr
 refine at_seq rfl ?_
 refine rg rfl ?_
 refine A_box rfl (by simp (disch := first | omega | (simp only [List.length_map, List.length_append, List.length_set, List.length_cons, List.length_nil]; omega)) only [go_sem, ↓reduceIte, Nat.reduceEqDiff, reduceCtorEq] <;> rfl) ?_
 intro H1 n0
 have en0 := n0.len
 have q0 := n0.new
 refine A_box rfl (by simp (disch := first | omega | (simp only [List.length_map, List.length_append, List.length_set, List.length_cons, List.length_nil]; omega)) only [go_sem, ↓reduceIte, Nat.reduceEqDiff, reduceCtorEq, hsa.stor, Bool.and_self] <;> rfl) ?_
 intro H2 n1
 have en1 := n1.len
 have q0 := (n1.old _ (hget_lt q0)).trans q0
 have q5 := n1.new
 refine Rq ?_
 have tr : ∀ a b c d e f g h i j k m n : AV, let l := lc_acceptT_ok a b c d e f g h i j; trim ((6,n)::(5,m)::(3,k)::l) l = [(0,a),(1,b),(2,c),(3,k),(5,m),(6,n),(7,g),(8,h),(15,i),(19,j)] := by intros; rfl
 refine R_nil (tr ..) ?_; clear tr
 refine then_n ?_
 refine at_seq rfl ?_
 refine rg rfl ?_
 refine R_q rfl (by simp (disch := first | omega | (simp only [List.length_map, List.length_append, List.length_set, List.length_cons, List.length_nil]; omega)) only [go_sem, ↓reduceIte, Nat.reduceEqDiff, reduceCtorEq, q0, q5] <;> rfl) ?_
 refine Rq ?_
 refine Rcall ?_
 refine ACall_eq (mst_ok _ _ P L t) ?_
 refine Rq ?_
 refine Rq ?_
 refine Rq ?_
 refine Rq ?_
 refine Rq ?_
 have tr : ∀ a b c d e f g h i j k m n o p q r s : AV, let l := lc_acceptT_ok a b c d e f g h i j; trim ((8,s)::(7,r)::(14,q)::(13,p)::(9,o)::(12,n)::(11,m)::(10,k)::l) l = [(0,a),(1,b),(2,c),(3,d),(5,e),(6,f),(7,r),(8,s),(15,i),(19,j)] := by intros; rfl
 refine R_nil (tr ..) ?_; clear tr
 refine then_n ?_
 refine at_seq rfl ?_
 refine at_block rfl ?_
 refine at_seq rfl ?_
 refine rg rfl ?_
 refine Rq ?_
 refine Rq ?_
 refine Rq ?_
 have tr : ∀ a b c d e f g h i j k m n : AV, let l := lc_acceptT_ok a b c d e f g h i j; trim ((15,n)::(17,m)::(16,k)::l) l = [(0,a),(1,b),(2,c),(3,d),(5,e),(6,f),(7,g),(8,h),(15,n),(19,j)] := by intros; rfl
 refine R_nil (tr ..) ?_; clear tr
 refine then_n ?_
 refine cdd (fun h1 => ?_) (fun h1 => ?_)
 ·
  try simp only [decide_eq_true_eq, decide_eq_false_iff_not, Bool.not_eq_true', Bool.not_eq_false', beq_iff_eq, beq_eq_false_iff_ne, ne_eq] at h1
  refine at_seq rfl ?_
  refine rg rfl ?_
  refine Rq ?_
  refine Rq ?_
  have tr : ∀ a b c d e f g h i j k m : AV, let l := lc_acceptT_ok a b c d e f g h i j; trim ((6,m)::(18,k)::l) l = [(0,a),(1,b),(2,c),(3,d),(5,e),(6,m),(7,g),(8,h),(15,i),(19,j)] := by intros; rfl
  refine R_nil (tr ..) ?_; clear tr
  refine then_n ?_
  refine at_ret rfl ?_
  refine blk_r ?_
  refine then_r ?_
  refine fpure ?_
  refine ⟨?_, rfl⟩
  rw [accS_e (by assumption)]
 ·
  try simp only [decide_eq_true_eq, decide_eq_false_iff_not, Bool.not_eq_true', Bool.not_eq_false', beq_iff_eq, beq_eq_false_iff_ne, ne_eq] at h1
  refine at_seq rfl ?_
  refine rg rfl ?_
  have hm0 : (mostS P L t).2 = 0 := by assumption
  obtain ⟨g, t0, t1⟩ := most_of hm0
  have hme := most_eq hm0
  have gel := g.el
  have hmr := most_rng (L := L) (g.pt t.toNat (by omega)).1 (g.pt t.toNat (by omega)).2 L.length
  rw [← hme] at hmr
  refine Rq ?_
  refine R_q rfl (by simp (disch := first | omega | (simp only [List.length_map, List.length_append, List.length_set, List.length_cons, List.length_nil]; omega)) only [go_sem, ↓reduceIte, Nat.reduceEqDiff, reduceCtorEq, q0, q5] <;> rfl) ?_
  refine Rq ?_
  have tr : ∀ a b c d e f g h i j k m n : AV, let l := lc_acceptT_ok a b c d e f g h i j; trim ((19,n)::(21,m)::(20,k)::l) l = [(0,a),(1,b),(2,c),(3,d),(5,e),(6,f),(7,g),(8,h),(15,i),(19,n)] := by intros; rfl
  refine R_nil (tr ..) ?_; clear tr
  refine then_n ?_
  refine cdd (fun h2 => ?_) (fun h2 => ?_)
  ·
   try simp only [decide_eq_true_eq, decide_eq_false_iff_not, Bool.not_eq_true', Bool.not_eq_false', beq_iff_eq, beq_eq_false_iff_ne, ne_eq] at h2
   refine at_seq rfl ?_
   refine rg rfl ?_
   refine R_q rfl (by simp (disch := first | omega | (simp only [List.length_map, List.length_append, List.length_set, List.length_cons, List.length_nil]; omega)) only [go_sem, ↓reduceIte, Nat.reduceEqDiff, reduceCtorEq, q0, q5] <;> rfl) ?_
   refine Rq ?_
   refine R_q rfl (by simp (disch := first | omega | (simp only [List.length_map, List.length_append, List.length_set, List.length_cons, List.length_nil]; omega)) only [go_sem, ↓reduceIte, Nat.reduceEqDiff, reduceCtorEq, q0, q5, hsa.stor, Bool.and_self] <;> rfl) ?_
   refine Rcall ?_
   refine ACall_eq (possible_ok _ _ P L t S R sa hsa g t0 t1 (by omega) (by omega)) ?_
   refine Rq ?_
   have tr : ∀ a b c d e f g h i j k m n o p : AV, let l := lc_acceptT_ok a b c d e f g h i j; trim ((6,p)::(25,o)::(24,n)::(23,m)::(22,k)::l) l = [(0,a),(1,b),(2,c),(3,d),(5,e),(6,p),(7,g),(8,h),(15,i),(19,j)] := by intros; rfl
   refine R_nil (tr ..) ?_; clear tr
   refine then_n ?_
   refine at_ret rfl ?_
   refine blk_r ?_
   refine then_r ?_
   refine fpure ?_
   refine ⟨?_, rfl⟩
   rw [accS_t hm0]
  ·
   try simp only [decide_eq_true_eq, decide_eq_false_iff_not, Bool.not_eq_true', Bool.not_eq_false', beq_iff_eq, beq_eq_false_iff_ne, ne_eq] at h2
   first | exact absurd rfl (by assumption) | simp_all

abbrev lc_acceptF_ok (a b c d e f g h i j : AV) : Env := [(0,a),(1,b),(2,c),(3,d),(5,e),(6,f),(7,g),(8,h),(15,i),(19,j)]
theorem acceptF_ok (lim : Nat) (H : Heap) (P : List Int) (L : List Pr) (t : Int) (S R : List Int) (ra : AV) (hra : IsA ra R) (hR : R.length ≤ 1000) (hS : S.length ≤ 1000) :
    ACall sig lim 32 [.agg (raceC P L), AV.i t, .agg [.v (.bool false), intsAV S, ra]] H fun r H' => r = AV.i (accS P L t false S R) ∧ H' = H := by
 have q0 : True := trivial
 have q5 : True := trivial
 refine ACall_pure (fa := fa32) rfl rfl rfl rfl ?_
 have tr : ∀ a0 a1 a2 : AV, env0 fa32.keep [a0, a1, a2] = [(0,a0),(1,a1),(2,a2),(3,.any),(5,.any),(6,.any),(7,.any),(8,.any),(15,.any),(19,.any)] := fun a0 a1 a2 => rfl
 refine W_to (tr _ _ _) ?_; clear tr
 refine at_seq rfl ?_
 refine rg rfl ?_
 refine A_box rfl (by simp (disch := first | omega | (simp only [List.length_map, List.length_append, List.length_set, List.length_cons, List.length_nil]; omega)) only [go_sem, ↓reduceIte, Nat.reduceEqDiff, reduceCtorEq] <;> rfl) ?_
 intro H1 n0
 have en0 := n0.len
 have q0 := n0.new
 refine A_box rfl (by simp (disch := first | omega | (simp only [List.length_map, List.length_append, List.length_set, List.length_cons, List.length_nil]; omega)) only [go_sem, ↓reduceIte, Nat.reduceEqDiff, reduceCtorEq, hra.stor, Bool.and_self] <;> rfl) ?_
 intro H2 n1
 have en1 := n1.len
 have q0 := (n1.old _ (hget_lt q0)).trans q0
 have q5 := n1.new
 refine Rq ?_
 have tr : ∀ a b c d e f g h i j k m n : AV, let l := lc_acceptF_ok a b c d e f g h i j; trim ((6,n)::(5,m)::(3,k)::l) l = [(0,a),(1,b),(2,c),(3,k),(5,m),(6,n),(7,g),(8,h),(15,i),(19,j)] := by intros; rfl
 refine R_nil (tr ..) ?_; clear tr
 refine then_n ?_
 refine at_seq rfl ?_
 refine rg rfl ?_
 refine R_q rfl (by simp (disch := first | omega | (simp only [List.length_map, List.length_append, List.length_set, List.length_cons, List.length_nil]; omega)) only [go_sem, ↓reduceIte, Nat.reduceEqDiff, reduceCtorEq, q0, q5] <;> rfl) ?_
 refine Rq ?_
 refine Rcall ?_
 refine ACall_eq (mst_ok _ _ P L t) ?_
 refine Rq ?_
 refine Rq ?_
 refine Rq ?_
 refine Rq ?_
 refine Rq ?_
 have tr : ∀ a b c d e f g h i j k m n o p q r s : AV, let l := lc_acceptF_ok a b c d e f g h i j; trim ((8,s)::(7,r)::(14,q)::(13,p)::(9,o)::(12,n)::(11,m)::(10,k)::l) l = [(0,a),(1,b),(2,c),(3,d),(5,e),(6,f),(7,r),(8,s),(15,i),(19,j)] := by intros; rfl
 refine R_nil (tr ..) ?_; clear tr
 refine then_n ?_
 refine at_seq rfl ?_
 refine at_block rfl ?_
 refine at_seq rfl ?_
 refine rg rfl ?_
 refine Rq ?_
 refine Rq ?_
 refine Rq ?_
 have tr : ∀ a b c d e f g h i j k m n : AV, let l := lc_acceptF_ok a b c d e f g h i j; trim ((15,n)::(17,m)::(16,k)::l) l = [(0,a),(1,b),(2,c),(3,d),(5,e),(6,f),(7,g),(8,h),(15,n),(19,j)] := by intros; rfl
 refine R_nil (tr ..) ?_; clear tr
 refine then_n ?_
 refine cdd (fun h1 => ?_) (fun h1 => ?_)
 ·
  try simp only [decide_eq_true_eq, decide_eq_false_iff_not, Bool.not_eq_true', Bool.not_eq_false', beq_iff_eq, beq_eq_false_iff_ne, ne_eq] at h1
  refine at_seq rfl ?_
  refine rg rfl ?_
  refine Rq ?_
  refine Rq ?_
  have tr : ∀ a b c d e f g h i j k m : AV, let l := lc_acceptF_ok a b c d e f g h i j; trim ((6,m)::(18,k)::l) l = [(0,a),(1,b),(2,c),(3,d),(5,e),(6,m),(7,g),(8,h),(15,i),(19,j)] := by intros; rfl
  refine R_nil (tr ..) ?_; clear tr
  refine then_n ?_
  refine at_ret rfl ?_
  refine blk_r ?_
  refine then_r ?_
  refine fpure ?_
  refine ⟨?_, rfl⟩
  rw [accS_e (by assumption)]
 ·
  try simp only [decide_eq_true_eq, decide_eq_false_iff_not, Bool.not_eq_true', Bool.not_eq_false', beq_iff_eq, beq_eq_false_iff_ne, ne_eq] at h1
  refine at_seq rfl ?_
  refine rg rfl ?_
  have hm0 : (mostS P L t).2 = 0 := by assumption
  obtain ⟨g, t0, t1⟩ := most_of hm0
  have hme := most_eq hm0
  have gel := g.el
  have hmr := most_rng (L := L) (g.pt t.toNat (by omega)).1 (g.pt t.toNat (by omega)).2 L.length
  rw [← hme] at hmr
  refine Rq ?_
  refine R_q rfl (by simp (disch := first | omega | (simp only [List.length_map, List.length_append, List.length_set, List.length_cons, List.length_nil]; omega)) only [go_sem, ↓reduceIte, Nat.reduceEqDiff, reduceCtorEq, q0, q5] <;> rfl) ?_
  refine Rq ?_
  have tr : ∀ a b c d e f g h i j k m n : AV, let l := lc_acceptF_ok a b c d e f g h i j; trim ((19,n)::(21,m)::(20,k)::l) l = [(0,a),(1,b),(2,c),(3,d),(5,e),(6,f),(7,g),(8,h),(15,i),(19,n)] := by intros; rfl
  refine R_nil (tr ..) ?_; clear tr
  refine then_n ?_
  refine cdd (fun h2 => ?_) (fun h2 => ?_)
  ·
   try simp only [decide_eq_true_eq, decide_eq_false_iff_not, Bool.not_eq_true', Bool.not_eq_false', beq_iff_eq, beq_eq_false_iff_ne, ne_eq] at h2
   first | exact absurd rfl (by assumption) | simp_all
  ·
   try simp only [decide_eq_true_eq, decide_eq_false_iff_not, Bool.not_eq_true', Bool.not_eq_false', beq_iff_eq, beq_eq_false_iff_ne, ne_eq] at h2
   refine at_skip rfl ?_
   refine blk_n ?_
   refine then_n ?_
   refine at_seq rfl ?_
   refine rg rfl ?_
   refine R_q rfl (by simp (disch := first | omega | (simp only [List.length_map, List.length_append, List.length_set, List.length_cons, List.length_nil]; omega)) only [go_sem, ↓reduceIte, Nat.reduceEqDiff, reduceCtorEq, q0, q5] <;> rfl) ?_
   refine Rq ?_
   refine Rq ?_
   refine R_q rfl (by simp (disch := first | omega | (simp only [List.length_map, List.length_append, List.length_set, List.length_cons, List.length_nil]; omega)) only [go_sem, ↓reduceIte, Nat.reduceEqDiff, reduceCtorEq, q0, q5, hra.stor, Bool.and_self] <;> rfl) ?_
   refine Rcall ?_
   refine ACall_eq (elim_ok _ _ P L t _ S R ra hra g t0 t1 (by omega) (by omega) (by omega) (by omega)) ?_
   refine Rq ?_
   have tr : ∀ a b c d e f g h i j k m n o p q : AV, let l := lc_acceptF_ok a b c d e f g h i j; trim ((6,q)::(30,p)::(29,o)::(28,n)::(27,m)::(26,k)::l) l = [(0,a),(1,b),(2,c),(3,d),(5,e),(6,q),(7,g),(8,h),(15,i),(19,j)] := by intros; rfl
   refine R_nil (tr ..) ?_; clear tr
   refine then_n ?_
   refine at_ret rfl ?_
   refine fpure ?_
   refine ⟨?_, rfl⟩
   rw [accS_f hm0]

end Go.Proofs.Ytdicnojnkbmdlaa
end
section
set_option linter.unusedVariables false
namespace Go.Proofs.Ytdicnojnkbmdlaa
open Go Go.Am
theorem accept_first (lim : Nat) (H : Heap) (P : List Int) (L : List Pr) (t : Int) (hm : (mostS P L t).2 = 0) {R : List Int} {o : AV} (h : (firstB P L t = false ∧ R = [] ∧ o = nilP) ∨ (firstB P L t = true ∧ o = intsAV R ∧ VR P L t R)) :
    ACall sig lim 32 [.agg (raceC P L), AV.i t, .agg [.v (.bool (firstB P L t)), outA (firstS P L t), o]] H fun r H' => r = AV.i 0 ∧ H' = H := by
  obtain ⟨g, t0, t1⟩ := most_of hm
  have g20 := g.n20
  have gel := g.el
  have hS := firstS_len P L t (by omega)
  rcases h with ⟨h1, rfl, rfl⟩ | ⟨h1, rfl, h2⟩
  · have h3 := first_acc_f hm h1
    have h4 : 0 < (firstS P L t).length := by
      rw [accS_f hm, elimS] at h3
      split at h3
      · cases h3
      · rename_i h5
        exact Nat.pos_of_ne_zero fun hh => h5 (.inr (.inl hh))
    have := acceptF_ok lim H P L t (firstS P L t) [] nilP (.inr ⟨rfl, rfl⟩) (by simp) (by omega)
    rw [h3] at this
    rw [h1, outA_at h4]
    exact this
  · have h3 := first_acc_t hm h1 h2
    have h4 := h2.2.1
    have := acceptT_ok lim H P L t (firstS P L t) R _ (isA_out _) (by omega) (by omega)
    rw [h3] at this
    rw [h1]
    exact this
theorem accept_firstb (lim : Nat) (H : Heap) (P : List Int) (L : List Pr) (t : Int) (b : Bool) (hb : firstB P L t = b) (hm : (mostS P L t).2 = 0) {R : List Int} {o : AV} (h : (firstB P L t = false ∧ R = [] ∧ o = nilP) ∨ (firstB P L t = true ∧ o = intsAV R ∧ VR P L t R)) :
    ACall sig lim 32 [.agg (raceC P L), AV.i t, .agg [.v (.bool b), outA (firstS P L t), o]] H fun r H' => r = AV.i 0 ∧ H' = H := by
  subst hb
  exact accept_first lim H P L t hm h
theorem most_chk {P : List Int} {L : List Pr} {t : Int} (h : (mostS P L t).2 = 0) : rchkS P L = 0 := by
  unfold mostS at h
  split at h
  · rename_i h8; exact absurd h h8
  · rename_i h8; exact Decidable.not_not.mp h8
theorem playE_0 {P : List Int} {L : List Pr} {R : List Int} (h : playE P L R = 0) : rchkS P L = 0 ∧ R.length = L.length ∧ resOK R := by
  rw [playE] at h
  split at h
  · rename_i h1; exact absurd h h1
  split at h
  · cases h
  split at h
  · cases h
  rename_i h1 h2 h3
  exact ⟨Decidable.not_not.mp h1, Decidable.not_not.mp h2, Classical.not_not.mp h3⟩
theorem le_on {o : List Int} {x : Int} {i : Nat} {full : Bool} (hf : full = true ↔ ∀ k, k < i → gt o k ≤ x) (h : full = true) : decide (gt o i ≤ x) = true ↔ ∀ k, k < i + 1 → gt o k ≤ x := by
  rw [decide_eq_true_eq]
  refine ⟨fun he k hk => ?_, fun hh => hh i (by omega)⟩
  by_cases hki : k = i
  · subst hki; exact he
  · exact hf.1 h k (by omega)
theorem le_off {o : List Int} {x : Int} {i : Nat} {full : Bool} (hf : full = true ↔ ∀ k, k < i → gt o k ≤ x) (h : full = false) : (false = true) ↔ ∀ k, k < i + 1 → gt o k ≤ x := by
  constructor
  · intro hh; cases hh
  · intro hh; rw [← h]; exact hf.2 fun k hk => hh k (by omega)
theorem play_true {P : List Int} {L : List Pr} {t : Int} {R : List Int} (hV : VR P L t R) {first : Bool} (hf : first = true ↔ ∀ k, k < P.length → gt (playN P L R L.length) k ≤ gt (playN P L R L.length) t.toNat) : first = true := hf.2 hV.2.2.1
theorem play_false {P : List Int} {L : List Pr} {t : Int} {R X : List Int} {o : AV} (hm : (mostS P L t).2 = 0) (hv : (firstB P L t = false ∧ R = [] ∧ o = nilP) ∨ (firstB P L t = true ∧ o = intsAV R ∧ VR P L t R)) (hfb : firstB P L t = false) (h1 : X.length = L.length) (h2 : resOK X) {first : Bool} (hf : first = true ↔ ∀ k, k < P.length → gt (playN P L X L.length) k ≤ gt (playN P L X L.length) t.toNat) : first = false := by
  cases hfi : first with
  | false => rfl
  | true =>
    have h3 : canBe P L t := ⟨X, h1, h2, hf.1 hfi⟩
    rw [← first_can hm hv, hfb] at h3
    cases h3
end Go.Proofs.Ytdicnojnkbmdlaa
end
section
set_option linter.unusedSimpArgs false
set_option linter.unusedVariables false
set_option maxHeartbeats 40000000
set_option maxRecDepth 4000
namespace Go.Proofs.Ytdicnojnkbmdlaa
open Go Go.Am

abbrev lc_pairsown_ok (a b c d e f g h i j : AV) : Env := [(0,a),(2,b),(3,c),(5,d),(6,e),(7,f),(8,g),(9,h),(10,i),(18,j)]
theorem pairsown_ok (lim : Nat) (H : Heap) (bo : Nat) (L : List Pr) (qo : hget H bo = some (flatP L)) (hL : L.length ≤ 400) :
    ACall sig lim 53 [.own 2 bo 0 L.length] H fun r H' => r = pairsA L ∧ H' = H := by
 have qx : True := trivial
 have qp : True := trivial
 have lo0 := hget_lt qo
 refine ACall_pure (fa := fa53) rfl rfl rfl rfl ?_
 have tr : ∀ a0 : AV, env0 fa53.keep [a0] = [(0,a0),(2,.any),(3,.any),(5,.any),(6,.any),(7,.any),(8,.any),(9,.any),(10,.any),(18,.any)] := fun a0 => rfl
 refine W_to (tr _) ?_; clear tr
 refine at_seq rfl ?_
 refine rg rfl ?_
 refine Rq ?_
 have tr : ∀ a b c d e f g h i j k : AV, let l := lc_pairsown_ok a b c d e f g h i j; trim ((2,k)::l) l = [(0,a),(2,k),(3,c),(5,d),(6,e),(7,f),(8,g),(9,h),(10,i),(18,j)] := by intros; rfl
 refine R_nil (tr ..) ?_; clear tr
 refine then_n ?_
 refine at_seq rfl ?_
 refine rg rfl ?_
 refine Rq ?_
 have tr : ∀ a b c d e f g h i j k : AV, let l := lc_pairsown_ok a b c d e f g h i j; trim ((3,k)::l) l = [(0,a),(2,b),(3,k),(5,d),(6,e),(7,f),(8,g),(9,h),(10,i),(18,j)] := by intros; rfl
 refine R_nil (tr ..) ?_; clear tr
 refine then_n ?_
 refine at_seq rfl ?_
 refine at_seq rfl ?_
 refine rg rfl ?_
 refine Rq ?_
 refine Rq ?_
 refine Rq ?_
 have tr : ∀ a b c d e f g h i j k m n : AV, let l := lc_pairsown_ok a b c d e f g h i j; trim ((9,n)::(8,m)::(7,k)::l) l = [(0,a),(2,b),(3,c),(5,d),(6,e),(7,k),(8,m),(9,n),(10,i),(18,j)] := by intros; rfl
 refine R_nil (tr ..) ?_; clear tr
 refine then_n ?_
 refine at_block rfl ?_
 refine loop_n rfl (fun mm kv H' => ∃ u : Nat, ∃ o : AV, ∃ x5 x6 x10 x18 : AV, (kv = [(3, o), (5, x5), (6, x6), (9, AV.i u), (10, x10), (18, x18)]) ∧ (mm = L.length - u) ∧ (H.length ≤ H'.length) ∧ (u ≤ L.length) ∧ (OutP H.length H' o (pairsN L u)) ∧ (hget H' bo = some (flatP L))) ⟨0, _, _, _, _, _, rfl, rfl, by exact Nat.le_refl _, by omega, by exact .inl ⟨rfl, rfl⟩, by exact qo⟩ (by rfl) ?_
 rintro mm kv HB ⟨u, o, x5, x6, x10, x18, rfl, rfl, hHB, hu, hO, qo⟩
 have tr : ∀ a b c d e f g h i j k m n o p q : AV, upd [(0,a),(2,b),(3,c),(5,d),(6,e),(7,f),(8,g),(9,h),(10,i),(18,j)] [(3,k),(5,m),(6,n),(9,o),(10,p),(18,q)] = [(0,a),(2,b),(3,k),(5,m),(6,n),(7,f),(8,g),(9,o),(10,p),(18,q)] := by intros; rfl
 refine W_to (tr ..) ?_; clear tr
 have hpl := pairs_len L u
 refine at_seq rfl ?_
 refine rg rfl ?_
 refine Rq ?_
 have tr : ∀ a b c d e f g h i j k : AV, let l := lc_pairsown_ok a b c d e f g h i j; trim ((10,k)::l) l = [(0,a),(2,b),(3,c),(5,d),(6,e),(7,f),(8,g),(9,h),(10,k),(18,j)] := by intros; rfl
 refine R_nil (tr ..) ?_; clear tr
 refine then_n ?_
 refine at_seq rfl ?_
 refine cdd (fun h1 => ?_) (fun h1 => ?_)
 ·
  try simp only [decide_eq_true_eq, decide_eq_false_iff_not, Bool.not_eq_true', Bool.not_eq_false', beq_iff_eq, beq_eq_false_iff_ne, ne_eq] at h1
  refine at_skip rfl ?_
  refine then_n ?_
  refine at_seq rfl ?_
  refine at_block rfl ?_
  refine at_seq rfl ?_
  refine rg rfl ?_
  have hO1 := hO
  refine Rq ?_
  refine R_q rfl (by simp (disch := first | omega | (simp only [List.length_map, List.length_append, List.length_set, List.length_cons, List.length_nil]; omega)) only [go_sem, ↓reduceIte, Nat.reduceEqDiff, reduceCtorEq, qx, qp, qo] <;> rfl) ?_
  refine A_alloc rfl ?_
  intro HC n4
  have en4 := n4.len
  have qo := (n4.old _ (hget_lt qo)).trans qo
  have qx := n4.new
  have hO := hO.mono fun b hb k hk => (n4.old _ (hget_lt hk)).trans hk
  have lqx := hget_lt qx
  refine A_store ty58 (by simp (disch := first | omega | (simp only [List.length_map, List.length_append, List.length_set, List.length_cons, List.length_nil]; omega)) only [go_sem, ↓reduceIte, Nat.reduceEqDiff, reduceCtorEq, qo] <;> rfl) (by simp (disch := first | omega | (simp only [List.length_map, List.length_append, List.length_set, List.length_cons, List.length_nil]; omega)) only [go_sem, ↓reduceIte, Nat.reduceEqDiff, reduceCtorEq, qx, qo] <;> rfl) qx ⟨by omega, rfl, by first | exact Nat.le_refl _ | simp⟩ (show _ = prC (gt L u) from rfl) ?_
  intro HD w4
  have ew4 := w4.len
  have qo := (w4.old _ (by omega)).trans qo
  have qx := w4.new
  have hO := hO1.mono fun b hb k hk => (w4.old _ (by have := hget_lt hk; omega)).trans ((n4.old _ (hget_lt hk)).trans hk)
  have tr : ∀ a b c d e f g h i j k m n : AV, let l := lc_pairsown_ok a b c d e f g h i j; trim ((5,n)::(12,m)::(11,k)::l) l = [(0,a),(2,b),(3,c),(5,n),(6,e),(7,f),(8,g),(9,h),(10,i),(18,j)] := by intros; rfl
  refine R_nil (tr ..) ?_; clear tr
  refine then_n ?_
  refine at_seq rfl ?_
  refine rg rfl ?_
  refine R_q rfl (by simp (disch := first | omega | (simp only [List.length_map, List.length_append, List.length_set, List.length_cons, List.length_nil]; omega)) only [go_sem, ↓reduceIte, Nat.reduceEqDiff, reduceCtorEq, qx, qp, qo] <;> rfl) ?_
  refine Rcall ?_
  refine ACall_eq (pair_ok _ _ _) ?_
  have hO1 := hO
  refine A_alloc rfl ?_
  intro HE n5
  have en5 := n5.len
  have qx := (n5.old _ (hget_lt qx)).trans qx
  have qo := (n5.old _ (hget_lt qo)).trans qo
  have qp := n5.new
  have lqx := hget_lt qx
  have lqp := hget_lt qp
  refine A_store ty58 (by simp (disch := first | omega | (simp only [List.length_map, List.length_append, List.length_set, List.length_cons, List.length_nil]; omega)) only [go_sem, ↓reduceIte, Nat.reduceEqDiff, reduceCtorEq] <;> rfl) (by simp (disch := first | omega | (simp only [List.length_map, List.length_append, List.length_set, List.length_cons, List.length_nil]; omega)) only [go_sem, ↓reduceIte, Nat.reduceEqDiff, reduceCtorEq, qp] <;> rfl) qp ⟨by omega, rfl, by first | exact Nat.le_refl _ | simp⟩ (show _ = prC (norm (gt L u)) from rfl) ?_
  intro HF w5
  have ew5 := w5.len
  have qo := (w5.old _ (by omega)).trans qo
  have qx := (w5.old _ (by omega)).trans qx
  have qp := w5.new
  have hO := hO1.mono fun b hb k hk => (w5.old _ (by have := hget_lt hk; omega)).trans ((n5.old _ (hget_lt hk)).trans hk)
  have tr : ∀ a b c d e f g h i j k m n : AV, let l := lc_pairsown_ok a b c d e f g h i j; trim ((6,n)::(14,m)::(13,k)::l) l = [(0,a),(2,b),(3,c),(5,d),(6,n),(7,f),(8,g),(9,h),(10,i),(18,j)] := by intros; rfl
  refine R_nil (tr ..) ?_; clear tr
  refine then_n ?_
  refine at_seq rfl ?_
  refine rg rfl ?_
  refine Rq ?_
  refine R_q rfl (by simp (disch := first | omega | (simp only [List.length_map, List.length_append, List.length_set, List.length_cons, List.length_nil]; omega)) only [go_sem, ↓reduceIte, Nat.reduceEqDiff, reduceCtorEq, qx, qp, qo] <;> rfl) ?_
  refine Rcall ?_
  refine ACall_eq (contains_ok _ H.length _ o _ _ hO (by omega)) ?_
  refine Rq ?_
  have tr : ∀ a b c d e f g h i j k m n o : AV, let l := lc_pairsown_ok a b c d e f g h i j; trim ((18,o)::(17,n)::(16,m)::(15,k)::l) l = [(0,a),(2,b),(3,c),(5,d),(6,e),(7,f),(8,g),(9,h),(10,i),(18,o)] := by intros; rfl
  refine R_nil (tr ..) ?_; clear tr
  refine then_n ?_
  refine cdd (fun h2 => ?_) (fun h2 => ?_)
  ·
   try simp only [decide_eq_true_eq, decide_eq_false_iff_not, Bool.not_eq_true', Bool.not_eq_false', beq_iff_eq, beq_eq_false_iff_ne, ne_eq] at h2
   refine rg rfl ?_
   refine Rq ?_
   refine R_q rfl (by simp (disch := first | omega | (simp only [List.length_map, List.length_append, List.length_set, List.length_cons, List.length_nil]; omega)) only [go_sem, ↓reduceIte, Nat.reduceEqDiff, reduceCtorEq, qx, qp, qo] <;> rfl) ?_
   have hob := fun b hb => hO.lt (b := b) hb
   refine A_buildSlice (bs41 _ _ _ _ (norm (gt L u)) (by simp (disch := first | omega | (simp only [List.length_map, List.length_append, List.length_set, List.length_cons, List.length_nil]; omega)) only [go_sem, ↓reduceIte, Nat.reduceEqDiff, reduceCtorEq, qx, qp])) ?_
   intro HG n7
   have en7 := n7.len
   have qx := (n7.old _ (hget_lt qx)).trans qx
   have qp := (n7.old _ (hget_lt qp)).trans qp
   have qo := (n7.old _ (hget_lt qo)).trans qo
   have qn := n7.new
   have hO := hO.mono fun b hb k hk => (n7.old _ (hget_lt hk)).trans hk
   have lqo := hget_lt qo
   obtain ⟨b, hbl, hbl2, hap⟩ := outP_append (lim := H.length) hO hob qn (Nat.le_refl _) (by omega) (by omega)
   refine A_append (by simp (disch := first | omega | (simp only [List.length_map, List.length_append, List.length_set, List.length_cons, List.length_nil]; omega)) only [go_sem, ↓reduceIte, Nat.reduceEqDiff, reduceCtorEq]; exact hap) ?_
   intro HK g7
   have eg7 := g7.len
   have qo := (g7.old _ (by omega) lqo).trans qo
   refine Rq ?_
   have tr : ∀ a b c d e f g h i j k m n o p : AV, let l := lc_pairsown_ok a b c d e f g h i j; trim ((3,p)::(22,o)::(21,n)::(20,m)::(19,k)::l) l = [(0,a),(2,b),(3,p),(5,d),(6,e),(7,f),(8,g),(9,h),(10,i),(18,j)] := by intros; rfl
   refine R_nil (tr ..) ?_; clear tr
   refine blk_n ?_
   refine then_n ?_
   refine rg rfl ?_
   refine Rq ?_
   refine Rq ?_
   have tr : ∀ a b c d e f g h i j k m : AV, let l := lc_pairsown_ok a b c d e f g h i j; trim ((9,m)::(23,k)::l) l = [(0,a),(2,b),(3,c),(5,d),(6,e),(7,f),(8,g),(9,m),(10,i),(18,j)] := by intros; rfl
   refine R_nil (tr ..) ?_; clear tr
   refine then_n ?_
   exact ⟨_, _, ⟨u + 1, (.own 2 HG.length 0 ((pairsN L u).length + 1)), _, _, _, _, rfl, rfl, by first | (show H.length ≤ HK.length; omega) | (show H.length ≤ HF.length; omega), by omega, by first | exact pairs_new g7 (by omega) (by assumption) | exact pairs_old hO (by assumption), by exact qo⟩, by rfl, by omega⟩
  ·
   try simp only [decide_eq_true_eq, decide_eq_false_iff_not, Bool.not_eq_true', Bool.not_eq_false', beq_iff_eq, beq_eq_false_iff_ne, ne_eq] at h2
   refine at_skip rfl ?_
   refine blk_n ?_
   refine then_n ?_
   refine rg rfl ?_
   refine Rq ?_
   refine Rq ?_
   have tr : ∀ a b c d e f g h i j k m : AV, let l := lc_pairsown_ok a b c d e f g h i j; trim ((9,m)::(23,k)::l) l = [(0,a),(2,b),(3,c),(5,d),(6,e),(7,f),(8,g),(9,m),(10,i),(18,j)] := by intros; rfl
   refine R_nil (tr ..) ?_; clear tr
   refine then_n ?_
   exact ⟨_, _, ⟨u + 1, o, _, _, _, _, rfl, rfl, by first | (show H.length ≤ HK.length; omega) | (show H.length ≤ HF.length; omega), by omega, by first | exact pairs_new g7 (by omega) (by assumption) | exact pairs_old hO (by assumption), by exact qo⟩, by rfl, by omega⟩
 ·
  try simp only [decide_eq_true_eq, decide_eq_false_iff_not, Bool.not_eq_true', Bool.not_eq_false', beq_iff_eq, beq_eq_false_iff_ne, ne_eq] at h1
  refine at_exit rfl ?_
  refine then_x ?_
  refine then_x ?_
  refine blk_x ?_
  refine then_n ?_
  refine at_seq rfl ?_
  refine rg rfl ?_
  refine Rq ?_
  refine Rq ?_
  have tr : ∀ a b c d e f g h i j k m : AV, let l := lc_pairsown_ok a b c d e f g h i j; trim ((2,m)::(24,k)::l) l = [(0,a),(2,m),(3,c),(5,d),(6,e),(7,f),(8,g),(9,h),(10,i),(18,j)] := by intros; rfl
  refine R_nil (tr ..) ?_; clear tr
  refine then_n ?_
  refine at_ret rfl ?_
  obtain rfl : u = L.length := by omega
  refine fpure ?_
  exact ⟨hO.frz, rfl⟩

abbrev lc_pairs_nil (a b c d e f g h i j : AV) : Env := [(0,a),(2,b),(3,c),(5,d),(6,e),(7,f),(8,g),(9,h),(10,i),(18,j)]
theorem pairs_nil (lim : Nat) (H : Heap) :
    ACall sig lim 53 [nilP] H fun r H' => r = nilP ∧ H' = H := by
 refine ACall_pure (fa := fa53) rfl rfl rfl rfl ?_
 have tr : ∀ a0 : AV, env0 fa53.keep [a0] = [(0,a0),(2,.any),(3,.any),(5,.any),(6,.any),(7,.any),(8,.any),(9,.any),(10,.any),(18,.any)] := fun a0 => rfl
 refine W_to (tr _) ?_; clear tr
 refine at_seq rfl ?_
 refine rg rfl ?_
 refine Rq ?_
 have tr : ∀ a b c d e f g h i j k : AV, let l := lc_pairs_nil a b c d e f g h i j; trim ((2,k)::l) l = [(0,a),(2,k),(3,c),(5,d),(6,e),(7,f),(8,g),(9,h),(10,i),(18,j)] := by intros; rfl
 refine R_nil (tr ..) ?_; clear tr
 refine then_n ?_
 refine at_seq rfl ?_
 refine rg rfl ?_
 refine Rq ?_
 have tr : ∀ a b c d e f g h i j k : AV, let l := lc_pairs_nil a b c d e f g h i j; trim ((3,k)::l) l = [(0,a),(2,b),(3,k),(5,d),(6,e),(7,f),(8,g),(9,h),(10,i),(18,j)] := by intros; rfl
 refine R_nil (tr ..) ?_; clear tr
 refine then_n ?_
 refine at_seq rfl ?_
 refine at_seq rfl ?_
 refine rg rfl ?_
 refine Rq ?_
 refine Rq ?_
 refine Rq ?_
 have tr : ∀ a b c d e f g h i j k m n : AV, let l := lc_pairs_nil a b c d e f g h i j; trim ((9,n)::(8,m)::(7,k)::l) l = [(0,a),(2,b),(3,c),(5,d),(6,e),(7,k),(8,m),(9,n),(10,i),(18,j)] := by intros; rfl
 refine R_nil (tr ..) ?_; clear tr
 refine then_n ?_
 refine at_block rfl ?_
 refine loop_n rfl (fun mm kv H' => ∃ u : Nat, ∃ x5 x6 x10 x18 : AV, (kv = [(3, nilP), (5, x5), (6, x6), (9, AV.i u), (10, x10), (18, x18)]) ∧ (mm = 0) ∧ (H' = H) ∧ (u = 0)) ⟨0, _, _, _, _, rfl, rfl, rfl, by rfl⟩ (by rfl) ?_
 rintro mm kv H' ⟨u, x5, x6, x10, x18, rfl, rfl, rfl, hu⟩
 have tr : ∀ a b c d e f g h i j k m n o p q : AV, upd [(0,a),(2,b),(3,c),(5,d),(6,e),(7,f),(8,g),(9,h),(10,i),(18,j)] [(3,k),(5,m),(6,n),(9,o),(10,p),(18,q)] = [(0,a),(2,b),(3,k),(5,m),(6,n),(7,f),(8,g),(9,o),(10,p),(18,q)] := by intros; rfl
 refine W_to (tr ..) ?_; clear tr
 refine at_seq rfl ?_
 refine rg rfl ?_
 refine Rq ?_
 have tr : ∀ a b c d e f g h i j k : AV, let l := lc_pairs_nil a b c d e f g h i j; trim ((10,k)::l) l = [(0,a),(2,b),(3,c),(5,d),(6,e),(7,f),(8,g),(9,h),(10,k),(18,j)] := by intros; rfl
 refine R_nil (tr ..) ?_; clear tr
 refine then_n ?_
 refine at_seq rfl ?_
 refine cdd (fun h1 => ?_) (fun h1 => ?_)
 ·
  try simp only [decide_eq_true_eq, decide_eq_false_iff_not, Bool.not_eq_true', Bool.not_eq_false', beq_iff_eq, beq_eq_false_iff_ne, ne_eq] at h1
  exfalso; omega
 ·
  try simp only [decide_eq_true_eq, decide_eq_false_iff_not, Bool.not_eq_true', Bool.not_eq_false', beq_iff_eq, beq_eq_false_iff_ne, ne_eq] at h1
  refine at_exit rfl ?_
  refine then_x ?_
  refine then_x ?_
  refine blk_x ?_
  refine then_n ?_
  refine at_seq rfl ?_
  refine rg rfl ?_
  refine Rq ?_
  refine Rq ?_
  have tr : ∀ a b c d e f g h i j k m : AV, let l := lc_pairs_nil a b c d e f g h i j; trim ((2,m)::(24,k)::l) l = [(0,a),(2,m),(3,c),(5,d),(6,e),(7,f),(8,g),(9,h),(10,i),(18,j)] := by intros; rfl
  refine R_nil (tr ..) ?_; clear tr
  refine then_n ?_
  refine at_ret rfl ?_
  refine fpure ?_
  refine ⟨?_, rfl⟩
  rfl

theorem pairs_any (lim lo : Nat) (H : Heap) (o : AV) (L : List Pr) (hO : OutP lo H o L) (hL : L.length ≤ 400) :
    ACall sig lim 53 [o] H fun r H' => r = pairsA L ∧ H' = H := by
  rcases hO with ⟨rfl, rfl⟩ | ⟨h0, b, rfl, h2, h3⟩
  · exact pairs_nil lim H
  · exact pairsown_ok lim H b L h3 hL

abbrev lc_indexsl_ok (a b c d e f g h i : AV) : Env := [(0,a),(1,b),(3,c),(4,d),(5,e),(7,f),(8,g),(9,h),(16,i)]
theorem indexsl_ok (lim : Nat) (H : Heap) (m : List Pr) (p : Pr) (hm : m.length ≤ 1000) :
    ACall sig lim 71 [prsAV m, .agg (prC p)] H fun r H' => (∃ k : Int, r = AV.i k ∧ ((0 ≤ k ∧ k < m.length ∧ gt m k.toNat = p) ∨ (k = -1 ∧ p ∉ m))) ∧ H' = H := by
 refine ACall_pure (fa := fa71) rfl rfl rfl rfl ?_
 have tr : ∀ a0 a1 : AV, env0 fa71.keep [a0, a1] = [(0,a0),(1,a1),(3,.any),(4,.any),(5,.any),(7,.any),(8,.any),(9,.any),(16,.any)] := fun a0 a1 => rfl
 refine W_to (tr _ _) ?_; clear tr
 refine at_seq rfl ?_
 refine rg rfl ?_
 refine R_box rfl (by simp (disch := first | omega | (simp only [List.length_map, List.length_append, List.length_set, List.length_cons, List.length_nil]; omega)) only [go_sem, ↓reduceIte, Nat.reduceEqDiff, reduceCtorEq] <;> rfl) rfl rfl ?_
 refine Rq ?_
 have tr : ∀ a b c d e f g h i j k : AV, let l := lc_indexsl_ok a b c d e f g h i; trim ((4,k)::(3,j)::l) l = [(0,a),(1,b),(3,j),(4,k),(5,e),(7,f),(8,g),(9,h),(16,i)] := by intros; rfl
 refine R_nil (tr ..) ?_; clear tr
 refine then_n ?_
 refine at_seq rfl ?_
 refine at_seq rfl ?_
 refine rg rfl ?_
 refine Rq ?_
 refine Rq ?_
 refine Rq ?_
 have tr : ∀ a b c d e f g h i j k m : AV, let l := lc_indexsl_ok a b c d e f g h i; trim ((8,m)::(7,k)::(6,j)::l) l = [(0,a),(1,b),(3,c),(4,d),(5,e),(7,k),(8,m),(9,h),(16,i)] := by intros; rfl
 refine R_nil (tr ..) ?_; clear tr
 refine then_n ?_
 refine at_block rfl ?_
 refine loop_n rfl (fun mm kv H' => ∃ u : Nat, ∃ x4 x5 x9 x16 : AV, (kv = [(4, x4), (5, x5), (8, AV.i u), (9, x9), (16, x16)]) ∧ (mm = m.length - u) ∧ (H' = H ++ [some (prC p)]) ∧ (u ≤ m.length) ∧ (∀ i, i < u → gt m i ≠ p)) ⟨0, _, _, _, _, rfl, rfl, rfl, by omega, by intro i hi; omega⟩ (by rfl) ?_
 rintro mm kv H' ⟨u, x4, x5, x9, x16, rfl, rfl, rfl, hu, hq⟩
 have tr : ∀ a b c d e f g h i j k m n o : AV, upd [(0,a),(1,b),(3,c),(4,d),(5,e),(7,f),(8,g),(9,h),(16,i)] [(4,j),(5,k),(8,m),(9,n),(16,o)] = [(0,a),(1,b),(3,c),(4,j),(5,k),(7,f),(8,m),(9,n),(16,o)] := by intros; rfl
 refine W_to (tr ..) ?_; clear tr
 refine at_seq rfl ?_
 refine rg rfl ?_
 refine Rq ?_
 have tr : ∀ a b c d e f g h i j : AV, let l := lc_indexsl_ok a b c d e f g h i; trim ((9,j)::l) l = [(0,a),(1,b),(3,c),(4,d),(5,e),(7,f),(8,g),(9,j),(16,i)] := by intros; rfl
 refine R_nil (tr ..) ?_; clear tr
 refine then_n ?_
 refine at_seq rfl ?_
 refine cdd (fun h1 => ?_) (fun h1 => ?_)
 ·
  try simp only [decide_eq_true_eq, decide_eq_false_iff_not, Bool.not_eq_true', Bool.not_eq_false', beq_iff_eq, beq_eq_false_iff_ne, ne_eq] at h1
  refine at_skip rfl ?_
  refine then_n ?_
  refine at_seq rfl ?_
  refine at_block rfl ?_
  refine at_seq rfl ?_
  refine rg rfl ?_
  refine Rq ?_
  refine Rq ?_
  have tr : ∀ a b c d e f g h i j k : AV, let l := lc_indexsl_ok a b c d e f g h i; trim ((5,k)::(10,j)::l) l = [(0,a),(1,b),(3,c),(4,d),(5,k),(7,f),(8,g),(9,h),(16,i)] := by intros; rfl
  refine R_nil (tr ..) ?_; clear tr
  refine then_n ?_
  refine at_seq rfl ?_
  refine rd rfl rfl ?_
  refine Qq ?_
  refine Qq ?_
  refine Qq ?_
  refine Qq ?_
  refine Qq ?_
  refine Qq ?_
  refine Q_nil ?_
  have tr : ∀ a b c d e f g h i j k m n o p : AV, let l := lc_indexsl_ok a b c d e f g h i; trim ((16,p)::(15,o)::(14,n)::(13,m)::(12,k)::(11,j)::l) l = [(0,a),(1,b),(3,c),(4,d),(5,e),(7,f),(8,g),(9,h),(16,p)] := by intros; rfl
  refine R_nil (tr ..) ?_; clear tr
  refine then_n ?_
  refine cdd (fun h2 => ?_) (fun h2 => ?_)
  ·
   try simp only [decide_eq_true_eq, decide_eq_false_iff_not, Bool.not_eq_true', Bool.not_eq_false', beq_iff_eq, beq_eq_false_iff_ne, ne_eq] at h2
   refine at_seq rfl ?_
   refine rg rfl ?_
   refine Rq ?_
   refine Rq ?_
   have tr : ∀ a b c d e f g h i j k : AV, let l := lc_indexsl_ok a b c d e f g h i; trim ((4,k)::(17,j)::l) l = [(0,a),(1,b),(3,c),(4,k),(5,e),(7,f),(8,g),(9,h),(16,i)] := by intros; rfl
   refine R_nil (tr ..) ?_; clear tr
   refine then_n ?_
   refine at_ret rfl ?_
   refine blk_r ?_
   refine then_r ?_
   refine then_r ?_
   refine blk_r ?_
   refine then_r ?_
   refine fpure ?_
   refine ⟨⟨_, rfl, .inl ⟨by omega, by omega, ?_⟩⟩, rfl⟩
   rw [Int.toNat_natCast]
   simp_all
  ·
   try simp only [decide_eq_true_eq, decide_eq_false_iff_not, Bool.not_eq_true', Bool.not_eq_false', beq_iff_eq, beq_eq_false_iff_ne, ne_eq] at h2
   refine at_skip rfl ?_
   refine blk_n ?_
   refine then_n ?_
   refine rg rfl ?_
   refine Rq ?_
   refine Rq ?_
   have tr : ∀ a b c d e f g h i j k : AV, let l := lc_indexsl_ok a b c d e f g h i; trim ((8,k)::(18,j)::l) l = [(0,a),(1,b),(3,c),(4,d),(5,e),(7,f),(8,k),(9,h),(16,i)] := by intros; rfl
   refine R_nil (tr ..) ?_; clear tr
   refine then_n ?_
   exact ⟨_, _, ⟨u + 1, _, _, _, _, rfl, rfl, rfl, by omega, by exact all_step hq (fun hh => by simp_all)⟩, by rfl, by omega⟩
 ·
  try simp only [decide_eq_true_eq, decide_eq_false_iff_not, Bool.not_eq_true', Bool.not_eq_false', beq_iff_eq, beq_eq_false_iff_ne, ne_eq] at h1
  refine at_exit rfl ?_
  refine then_x ?_
  refine then_x ?_
  refine blk_x ?_
  refine then_n ?_
  refine at_seq rfl ?_
  refine rg rfl ?_
  refine Rq ?_
  have tr : ∀ a b c d e f g h i j : AV, let l := lc_indexsl_ok a b c d e f g h i; trim ((4,j)::l) l = [(0,a),(1,b),(3,c),(4,j),(5,e),(7,f),(8,g),(9,h),(16,i)] := by intros; rfl
  refine R_nil (tr ..) ?_; clear tr
  refine then_n ?_
  refine at_ret rfl ?_
  refine fpure ?_
  refine ⟨⟨_, rfl, .inr ⟨rfl, fun hh => ?_⟩⟩, rfl⟩
  obtain ⟨i, hi, he⟩ := List.mem_iff_getElem.1 hh
  exact hq i (by omega) (by rw [gt_eq _ _ hi]; exact he)

end Go.Proofs.Ytdicnojnkbmdlaa
end
section
set_option linter.unusedSimpArgs false
set_option linter.unusedVariables false
set_option maxHeartbeats 40000000
set_option maxRecDepth 4000
namespace Go.Proofs.Ytdicnojnkbmdlaa
open Go Go.Am

abbrev lc_graph_ok (a b c d e f g h i j k m n o p q r s t u v w x y z A B C D E F G H I J K : AV) : Env := [(0,a),(1,b),(2,c),(3,d),(6,e),(7,f),(8,g),(10,h),(11,i),(12,j),(13,k),(14,m),(15,n),(17,o),(18,p),(19,q),(20,r),(22,s),(23,t),(24,u),(25,v),(37,w),(53,x),(54,y),(55,z),(56,A),(60,B),(61,C),(62,D),(63,E),(69,F),(103,G),(104,H),(105,I),(106,J),(112,K)]
theorem graph_ok (lim : Nat) (H : Heap) (P : List Int) (L : List Pr) (t goal : Int) (g : ROK P L) (t0 : 0 ≤ t) (t1 : t < P.length) (hg0 : ∀ k, k < P.length → 0 ≤ goal - gt P k) (hg1 : goal ≤ 2000) :
    ACall sig lim 54 [.agg (raceC P L), AV.i t, AV.i goal] H fun r H' => r = .tup [.agg (graphC (2 + ((pQ L t).length : Int) + (P.length : Int)) 0 1 (gE 2 (2 + ((pQ L t).length : Int)) (cQ L t (pQ L t)) (pQ L t) P t goal)), pairsA (othS L t)] ∧ H' = H := by
 have q0 : True := trivial
 have q6 : True := trivial
 have qx : True := trivial
 have qg : True := trivial
 have qp : True := trivial
 have hpa : True := trivial
 have g20 := g.n20
 have g2 := g.n2
 have gel := g.el
 have gpr := g.pr
 have WQ : PQ L t (pQ L t) := (pq_prog L t L.length).to
 have hql := pq_len WQ
 have hqr := pq_rng g WQ
 refine ACall_pure (fa := fa54) rfl rfl rfl rfl ?_
 have tr : ∀ a0 a1 a2 : AV, env0 fa54.keep [a0, a1, a2] = [(0,a0),(1,a1),(2,a2),(3,.any),(6,.any),(7,.any),(8,.any),(10,.any),(11,.any),(12,.any),(13,.any),(14,.any),(15,.any),(17,.any),(18,.any),(19,.any),(20,.any),(22,.any),(23,.any),(24,.any),(25,.any),(37,.any),(53,.any),(54,.any),(55,.any),(56,.any),(60,.any),(61,.any),(62,.any),(63,.any),(69,.any),(103,.any),(104,.any),(105,.any),(106,.any),(112,.any)] := fun a0 a1 a2 => rfl
 refine W_to (tr _ _ _) ?_; clear tr
 refine at_seq rfl ?_
 refine rg rfl ?_
 refine A_box rfl (by simp (disch := first | omega | (simp only [List.length_map, List.length_append, List.length_set, List.length_cons, List.length_nil]; omega)) only [go_sem, ↓reduceIte, Nat.reduceEqDiff, reduceCtorEq] <;> rfl) ?_
 intro H1 n0
 have en0 := n0.len
 have q0 := n0.new
 refine A_alloc rfl ?_
 intro H2 n1
 have en1 := n1.len
 have q0 := (n1.old _ (hget_lt q0)).trans q0
 have q6 := n1.new
 refine Rq ?_
 have tr : ∀ a b c d e f g h i j k m n o p q r s t u v w x y z A B C D E F G H I J K L M N : AV, let l := lc_graph_ok a b c d e f g h i j k m n o p q r s t u v w x y z A B C D E F G H I J K; trim ((7,N)::(6,M)::(3,L)::l) l = [(0,a),(1,b),(2,c),(3,L),(6,M),(7,N),(8,g),(10,h),(11,i),(12,j),(13,k),(14,m),(15,n),(17,o),(18,p),(19,q),(20,r),(22,s),(23,t),(24,u),(25,v),(37,w),(53,x),(54,y),(55,z),(56,A),(60,B),(61,C),(62,D),(63,E),(69,F),(103,G),(104,H),(105,I),(106,J),(112,K)] := by intros; rfl
 refine R_nil (tr ..) ?_; clear tr
 refine then_n ?_
 refine at_seq rfl ?_
 refine rg rfl ?_
 refine Rq ?_
 have tr : ∀ a b c d e f g h i j k m n o p q r s t u v w x y z A B C D E F G H I J K L : AV, let l := lc_graph_ok a b c d e f g h i j k m n o p q r s t u v w x y z A B C D E F G H I J K; trim ((8,L)::l) l = [(0,a),(1,b),(2,c),(3,d),(6,e),(7,f),(8,L),(10,h),(11,i),(12,j),(13,k),(14,m),(15,n),(17,o),(18,p),(19,q),(20,r),(22,s),(23,t),(24,u),(25,v),(37,w),(53,x),(54,y),(55,z),(56,A),(60,B),(61,C),(62,D),(63,E),(69,F),(103,G),(104,H),(105,I),(106,J),(112,K)] := by intros; rfl
 refine R_nil (tr ..) ?_; clear tr
 refine then_n ?_
 refine at_seq rfl ?_
 refine at_seq rfl ?_
 refine rg rfl ?_
 refine Rq ?_
 refine R_q rfl (by simp (disch := first | omega | (simp only [List.length_map, List.length_append, List.length_set, List.length_cons, List.length_nil]; omega)) only [go_sem, ↓reduceIte, Nat.reduceEqDiff, reduceCtorEq, q0, q6, qx, qg, qp, hpa] <;> rfl) ?_
 refine Rq ?_
 refine Rq ?_
 have tr : ∀ a b c d e f g h i j k m n o p q r s t u v w x y z A B C D E F G H I J K L M N O : AV, let l := lc_graph_ok a b c d e f g h i j k m n o p q r s t u v w x y z A B C D E F G H I J K; trim ((24,O)::(23,N)::(22,M)::(21,L)::l) l = [(0,a),(1,b),(2,c),(3,d),(6,e),(7,f),(8,g),(10,h),(11,i),(12,j),(13,k),(14,m),(15,n),(17,o),(18,p),(19,q),(20,r),(22,M),(23,N),(24,O),(25,v),(37,w),(53,x),(54,y),(55,z),(56,A),(60,B),(61,C),(62,D),(63,E),(69,F),(103,G),(104,H),(105,I),(106,J),(112,K)] := by intros; rfl
 refine R_nil (tr ..) ?_; clear tr
 refine then_n ?_
 refine at_block rfl ?_
 refine loop_n rfl (fun mm kv H' => ∃ u : Nat, ∃ o : AV, ∃ x10 x25 x37 : AV, (kv = [(8, o), (10, x10), (24, AV.i u), (25, x25), (37, x37)]) ∧ (mm = L.length - u) ∧ (hget H' H.length = some (raceC P L)) ∧ (hget H' H1.length = some [AV.i 0, AV.i 0, AV.i 0, nilP]) ∧ (H2.length ≤ H'.length) ∧ (u ≤ L.length) ∧ (OutP H2.length H' o (othN L t u))) ⟨0, _, _, _, _, rfl, rfl, by exact q0, by exact q6, by exact Nat.le_refl _, by omega, by exact .inl ⟨rfl, rfl⟩⟩ (by rfl) ?_
 rintro mm kv HB ⟨u, o, x10, x25, x37, rfl, rfl, q0, q6, hHB, hu, hO⟩
 have tr : ∀ a b c d e f g h i j k m n o p q r s t u v w x y z A B C D E F G H I J K L M N O P : AV, upd [(0,a),(1,b),(2,c),(3,d),(6,e),(7,f),(8,g),(10,h),(11,i),(12,j),(13,k),(14,m),(15,n),(17,o),(18,p),(19,q),(20,r),(22,s),(23,t),(24,u),(25,v),(37,w),(53,x),(54,y),(55,z),(56,A),(60,B),(61,C),(62,D),(63,E),(69,F),(103,G),(104,H),(105,I),(106,J),(112,K)] [(8,L),(10,M),(24,N),(25,O),(37,P)] = [(0,a),(1,b),(2,c),(3,d),(6,e),(7,f),(8,L),(10,M),(11,i),(12,j),(13,k),(14,m),(15,n),(17,o),(18,p),(19,q),(20,r),(22,s),(23,t),(24,N),(25,O),(37,P),(53,x),(54,y),(55,z),(56,A),(60,B),(61,C),(62,D),(63,E),(69,F),(103,G),(104,H),(105,I),(106,J),(112,K)] := by intros; rfl
 refine W_to (tr ..) ?_; clear tr
 have hpl := oth_len L t u
 refine at_seq rfl ?_
 refine rg rfl ?_
 refine Rq ?_
 have tr : ∀ a b c d e f g h i j k m n o p q r s t u v w x y z A B C D E F G H I J K L : AV, let l := lc_graph_ok a b c d e f g h i j k m n o p q r s t u v w x y z A B C D E F G H I J K; trim ((25,L)::l) l = [(0,a),(1,b),(2,c),(3,d),(6,e),(7,f),(8,g),(10,h),(11,i),(12,j),(13,k),(14,m),(15,n),(17,o),(18,p),(19,q),(20,r),(22,s),(23,t),(24,u),(25,L),(37,w),(53,x),(54,y),(55,z),(56,A),(60,B),(61,C),(62,D),(63,E),(69,F),(103,G),(104,H),(105,I),(106,J),(112,K)] := by intros; rfl
 refine R_nil (tr ..) ?_; clear tr
 refine then_n ?_
 refine at_seq rfl ?_
 refine cdd (fun h1 => ?_) (fun h1 => ?_)
 ·
  try simp only [decide_eq_true_eq, decide_eq_false_iff_not, Bool.not_eq_true', Bool.not_eq_false', beq_iff_eq, beq_eq_false_iff_ne, ne_eq] at h1
  refine at_skip rfl ?_
  refine then_n ?_
  refine at_seq rfl ?_
  refine at_block rfl ?_
  refine at_seq rfl ?_
  refine rg rfl ?_
  refine Rq ?_
  refine R_q rfl (by simp (disch := first | omega | (simp only [List.length_map, List.length_append, List.length_set, List.length_cons, List.length_nil]; omega)) only [go_sem, ↓reduceIte, Nat.reduceEqDiff, reduceCtorEq, q0, q6, qx, qg, qp, hpa] <;> rfl) ?_
  have hO1 := hO
  refine A_alloc rfl ?_
  intro HC n4
  have en4 := n4.len
  have q0 := (n4.old _ (hget_lt q0)).trans q0
  have q6 := (n4.old _ (hget_lt q6)).trans q6
  have qx := n4.new
  have lq0 := hget_lt q0
  have lq6 := hget_lt q6
  have lqx := hget_lt qx
  refine A_store ty58 (by simp (disch := first | omega | (simp only [List.length_map, List.length_append, List.length_set, List.length_cons, List.length_nil]; omega)) only [go_sem, ↓reduceIte, Nat.reduceEqDiff, reduceCtorEq, q0, q6, qx, qg, qp, hpa] <;> rfl) (by simp (disch := first | omega | (simp only [List.length_map, List.length_append, List.length_set, List.length_cons, List.length_nil]; omega)) only [go_sem, ↓reduceIte, Nat.reduceEqDiff, reduceCtorEq, q0, q6, qx, qg, qp, hpa] <;> rfl) qx ⟨by omega, rfl, by first | exact Nat.le_refl _ | simp⟩ (show _ = prC (gt L u) from rfl) ?_
  intro HD w4
  have ew4 := w4.len
  have q0 := (w4.old _ (by omega)).trans q0
  have q6 := (w4.old _ (by omega)).trans q6
  have qx := w4.new
  have hO := hO1.mono fun b hb k hk => (w4.old _ (by have := hget_lt hk; omega)).trans ((n4.old _ (hget_lt hk)).trans hk)
  have tr : ∀ a b c d e f g h i j k m n o p q r s t u v w x y z A B C D E F G H I J K L M N : AV, let l := lc_graph_ok a b c d e f g h i j k m n o p q r s t u v w x y z A B C D E F G H I J K; trim ((10,N)::(27,M)::(26,L)::l) l = [(0,a),(1,b),(2,c),(3,d),(6,e),(7,f),(8,g),(10,N),(11,i),(12,j),(13,k),(14,m),(15,n),(17,o),(18,p),(19,q),(20,r),(22,s),(23,t),(24,u),(25,v),(37,w),(53,x),(54,y),(55,z),(56,A),(60,B),(61,C),(62,D),(63,E),(69,F),(103,G),(104,H),(105,I),(106,J),(112,K)] := by intros; rfl
  refine R_nil (tr ..) ?_; clear tr
  refine then_n ?_
  refine at_seq rfl ?_
  refine rg rfl ?_
  refine Rq ?_
  refine R_q rfl (by simp (disch := first | omega | (simp only [List.length_map, List.length_append, List.length_set, List.length_cons, List.length_nil]; omega)) only [go_sem, ↓reduceIte, Nat.reduceEqDiff, reduceCtorEq, q0, q6, qx, qg, qp, hpa] <;> rfl) ?_
  refine Rq ?_
  refine Rq ?_
  refine Rq ?_
  refine Rp_split (fun h2 => ?_) (fun h2 => ?_)
  ·
   try simp only [decide_eq_true_eq, decide_eq_false_iff_not, Bool.not_eq_true', Bool.not_eq_false', beq_iff_eq, beq_eq_false_iff_ne, ne_eq] at h2
   refine Ry ?_
   refine Rq ?_
   refine Ry ?_
   refine R_q rfl (by simp (disch := first | omega | (simp only [List.length_map, List.length_append, List.length_set, List.length_cons, List.length_nil]; omega)) only [go_sem, ↓reduceIte, Nat.reduceEqDiff, reduceCtorEq, q0, q6, qx, qg, qp, hpa] <;> rfl) ?_
   refine Ry ?_
   refine Rq ?_
   refine Ry ?_
   refine Rq ?_
   refine Rq ?_
   have tr : ∀ a b c d e f g h i j k m n o p q r s t u v w x y z A B C D E F G H I J K L M N O P Q R S T U : AV, let l := lc_graph_ok a b c d e f g h i j k m n o p q r s t u v w x y z A B C D E F G H I J K; trim ((37,U)::(36,T)::(35,S)::(34,R)::(33,Q)::(32,P)::(31,O)::(30,N)::(29,M)::(28,L)::l) l = [(0,a),(1,b),(2,c),(3,d),(6,e),(7,f),(8,g),(10,h),(11,i),(12,j),(13,k),(14,m),(15,n),(17,o),(18,p),(19,q),(20,r),(22,s),(23,t),(24,u),(25,v),(37,U),(53,x),(54,y),(55,z),(56,A),(60,B),(61,C),(62,D),(63,E),(69,F),(103,G),(104,H),(105,I),(106,J),(112,K)] := by intros; rfl
   refine R_nil (tr ..) ?_; clear tr
   refine then_n ?_
   refine cdd (fun h3 => ?_) (fun h3 => ?_)
   ·
    try simp only [decide_eq_true_eq, decide_eq_false_iff_not, Bool.not_eq_true', Bool.not_eq_false', beq_iff_eq, beq_eq_false_iff_ne, ne_eq] at h3
    refine rg rfl ?_
    refine Rq ?_
    refine R_q rfl (by simp (disch := first | omega | (simp only [List.length_map, List.length_append, List.length_set, List.length_cons, List.length_nil]; omega)) only [go_sem, ↓reduceIte, Nat.reduceEqDiff, reduceCtorEq, q0, q6, qx, qg, qp, hpa] <;> rfl) ?_
    have hob := fun b hb => hO.lt (b := b) hb
    refine A_buildSlice (bs41 _ _ _ _ (gt L u) (by simp (disch := first | omega | (simp only [List.length_map, List.length_append, List.length_set, List.length_cons, List.length_nil]; omega)) only [go_sem, ↓reduceIte, Nat.reduceEqDiff, reduceCtorEq, q0, q6, qx, qg, qp, hpa])) ?_
    intro HE n5
    have en5 := n5.len
    have q0 := (n5.old _ (hget_lt q0)).trans q0
    have q6 := (n5.old _ (hget_lt q6)).trans q6
    have qx := (n5.old _ (hget_lt qx)).trans qx
    have qn := n5.new
    have hO := hO.mono fun b hb k hk => (n5.old _ (hget_lt hk)).trans hk
    have lq0 := hget_lt q0
    have lq6 := hget_lt q6
    obtain ⟨b, hbl, hbl2, hap⟩ := outP_append (lim := H.length) hO hob qn (by omega) (by omega) (by omega)
    refine A_append (by simp (disch := first | omega | (simp only [List.length_map, List.length_append, List.length_set, List.length_cons, List.length_nil]; omega)) only [go_sem, ↓reduceIte, Nat.reduceEqDiff, reduceCtorEq, q0, q6, qx, qg, qp, hpa]; exact hap) ?_
    intro HF g5
    have eg5 := g5.len
    have q0 := (g5.old _ (by omega) lq0).trans q0
    have q6 := (g5.old _ (by omega) lq6).trans q6
    have qq := g5.new
    refine Rq ?_
    have tr : ∀ a b c d e f g h i j k m n o p q r s t u v w x y z A B C D E F G H I J K L M N O P : AV, let l := lc_graph_ok a b c d e f g h i j k m n o p q r s t u v w x y z A B C D E F G H I J K; trim ((8,P)::(41,O)::(40,N)::(39,M)::(38,L)::l) l = [(0,a),(1,b),(2,c),(3,d),(6,e),(7,f),(8,P),(10,h),(11,i),(12,j),(13,k),(14,m),(15,n),(17,o),(18,p),(19,q),(20,r),(22,s),(23,t),(24,u),(25,v),(37,w),(53,x),(54,y),(55,z),(56,A),(60,B),(61,C),(62,D),(63,E),(69,F),(103,G),(104,H),(105,I),(106,J),(112,K)] := by intros; rfl
    refine R_nil (tr ..) ?_; clear tr
    refine blk_n ?_
    refine then_n ?_
    refine rg rfl ?_
    refine Rq ?_
    refine Rq ?_
    have tr : ∀ a b c d e f g h i j k m n o p q r s t u v w x y z A B C D E F G H I J K L M : AV, let l := lc_graph_ok a b c d e f g h i j k m n o p q r s t u v w x y z A B C D E F G H I J K; trim ((24,M)::(42,L)::l) l = [(0,a),(1,b),(2,c),(3,d),(6,e),(7,f),(8,g),(10,h),(11,i),(12,j),(13,k),(14,m),(15,n),(17,o),(18,p),(19,q),(20,r),(22,s),(23,t),(24,M),(25,v),(37,w),(53,x),(54,y),(55,z),(56,A),(60,B),(61,C),(62,D),(63,E),(69,F),(103,G),(104,H),(105,I),(106,J),(112,K)] := by intros; rfl
    refine R_nil (tr ..) ?_; clear tr
    refine then_n ?_
    exact ⟨_, _, ⟨u + 1, (.own 2 HE.length 0 ((othN L t u).length + 1)), _, _, _, rfl, rfl, by exact q0, by exact q6, by first | (show H2.length ≤ HF.length; omega) | (show H2.length ≤ HD.length; omega), by omega, by first | exact oth_new g5 (by omega) (by omega) rfl | exact oth_old hO (by omega)⟩, by rfl, by omega⟩
   ·
    try simp only [decide_eq_true_eq, decide_eq_false_iff_not, Bool.not_eq_true', Bool.not_eq_false', beq_iff_eq, beq_eq_false_iff_ne, ne_eq] at h3
    refine at_skip rfl ?_
    refine blk_n ?_
    refine then_n ?_
    refine rg rfl ?_
    refine Rq ?_
    refine Rq ?_
    have tr : ∀ a b c d e f g h i j k m n o p q r s t u v w x y z A B C D E F G H I J K L M : AV, let l := lc_graph_ok a b c d e f g h i j k m n o p q r s t u v w x y z A B C D E F G H I J K; trim ((24,M)::(42,L)::l) l = [(0,a),(1,b),(2,c),(3,d),(6,e),(7,f),(8,g),(10,h),(11,i),(12,j),(13,k),(14,m),(15,n),(17,o),(18,p),(19,q),(20,r),(22,s),(23,t),(24,M),(25,v),(37,w),(53,x),(54,y),(55,z),(56,A),(60,B),(61,C),(62,D),(63,E),(69,F),(103,G),(104,H),(105,I),(106,J),(112,K)] := by intros; rfl
    refine R_nil (tr ..) ?_; clear tr
    refine then_n ?_
    exact ⟨_, _, ⟨u + 1, o, _, _, _, rfl, rfl, by exact q0, by exact q6, by first | (show H2.length ≤ HF.length; omega) | (show H2.length ≤ HD.length; omega), by omega, by first | exact oth_new g5 (by omega) (by omega) rfl | exact oth_old hO (by omega)⟩, by rfl, by omega⟩
  ·
   try simp only [decide_eq_true_eq, decide_eq_false_iff_not, Bool.not_eq_true', Bool.not_eq_false', beq_iff_eq, beq_eq_false_iff_ne, ne_eq] at h2
   refine Rn ?_
   refine Rn ?_
   refine Rn ?_
   refine Rn ?_
   refine Rq ?_
   have tr : ∀ a b c d e f g h i j k m n o p q r s t u v w x y z A B C D E F G H I J K L M N O P Q R S T U : AV, let l := lc_graph_ok a b c d e f g h i j k m n o p q r s t u v w x y z A B C D E F G H I J K; trim ((37,U)::(36,T)::(35,S)::(34,R)::(33,Q)::(32,P)::(31,O)::(30,N)::(29,M)::(28,L)::l) l = [(0,a),(1,b),(2,c),(3,d),(6,e),(7,f),(8,g),(10,h),(11,i),(12,j),(13,k),(14,m),(15,n),(17,o),(18,p),(19,q),(20,r),(22,s),(23,t),(24,u),(25,v),(37,U),(53,x),(54,y),(55,z),(56,A),(60,B),(61,C),(62,D),(63,E),(69,F),(103,G),(104,H),(105,I),(106,J),(112,K)] := by intros; rfl
   refine R_nil (tr ..) ?_; clear tr
   refine then_n ?_
   refine cdf ?_
   refine at_skip rfl ?_
   refine blk_n ?_
   refine then_n ?_
   refine rg rfl ?_
   refine Rq ?_
   refine Rq ?_
   have tr : ∀ a b c d e f g h i j k m n o p q r s t u v w x y z A B C D E F G H I J K L M : AV, let l := lc_graph_ok a b c d e f g h i j k m n o p q r s t u v w x y z A B C D E F G H I J K; trim ((24,M)::(42,L)::l) l = [(0,a),(1,b),(2,c),(3,d),(6,e),(7,f),(8,g),(10,h),(11,i),(12,j),(13,k),(14,m),(15,n),(17,o),(18,p),(19,q),(20,r),(22,s),(23,t),(24,M),(25,v),(37,w),(53,x),(54,y),(55,z),(56,A),(60,B),(61,C),(62,D),(63,E),(69,F),(103,G),(104,H),(105,I),(106,J),(112,K)] := by intros; rfl
   refine R_nil (tr ..) ?_; clear tr
   refine then_n ?_
   exact ⟨_, _, ⟨u + 1, o, _, _, _, rfl, rfl, by exact q0, by exact q6, by first | (show H2.length ≤ HF.length; omega) | (show H2.length ≤ HD.length; omega), by omega, by first | exact oth_new g5 (by omega) (by omega) rfl | exact oth_old hO (by omega)⟩, by rfl, by omega⟩
 ·
  try simp only [decide_eq_true_eq, decide_eq_false_iff_not, Bool.not_eq_true', Bool.not_eq_false', beq_iff_eq, beq_eq_false_iff_ne, ne_eq] at h1
  refine at_exit rfl ?_
  refine then_x ?_
  refine then_x ?_
  refine blk_x ?_
  refine then_n ?_
  refine at_seq rfl ?_
  refine rg rfl ?_
  obtain rfl : u = L.length := by omega
  have hol := oth_len L t L.length
  have hql2 : (pairsN (othN L t L.length) (othN L t L.length).length).length ≤ 40 := Nat.le_trans hql gpr
  have hqe : (pairsN (othN L t L.length) (othN L t L.length).length).length = (pQ L t).length := rfl
  have hoe : (othN L t L.length).length = (othS L t).length := rfl
  refine Rq ?_
  refine Rcall ?_
  refine ACall_eq (pairs_any _ H2.length _ o _ hO (by omega)) ?_
  refine Rq ?_
  have tr : ∀ a b c d e f g h i j k m n o p q r s t u v w x y z A B C D E F G H I J K L M N : AV, let l := lc_graph_ok a b c d e f g h i j k m n o p q r s t u v w x y z A B C D E F G H I J K; trim ((11,N)::(44,M)::(43,L)::l) l = [(0,a),(1,b),(2,c),(3,d),(6,e),(7,f),(8,g),(10,h),(11,N),(12,j),(13,k),(14,m),(15,n),(17,o),(18,p),(19,q),(20,r),(22,s),(23,t),(24,u),(25,v),(37,w),(53,x),(54,y),(55,z),(56,A),(60,B),(61,C),(62,D),(63,E),(69,F),(103,G),(104,H),(105,I),(106,J),(112,K)] := by intros; rfl
  refine R_nil (tr ..) ?_; clear tr
  refine then_n ?_
  refine at_seq rfl ?_
  refine rg rfl ?_
  refine Rq ?_
  refine R_q rfl (by simp (disch := first | omega | (simp only [List.length_map, List.length_append, List.length_set, List.length_cons, List.length_nil]; omega)) only [go_sem, ↓reduceIte, Nat.reduceEqDiff, reduceCtorEq, q0, q6, qx, qg, qp, hpa]; exact pairsA_len _) ?_
  refine Rq ?_
  refine Rq ?_
  refine R_q rfl (by simp (disch := first | omega | (simp only [List.length_map, List.length_append, List.length_set, List.length_cons, List.length_nil]; omega)) only [go_sem, ↓reduceIte, Nat.reduceEqDiff, reduceCtorEq, q0, q6, qx, qg, qp, hpa] <;> rfl) ?_
  refine Rq ?_
  refine Rq ?_
  refine Rq ?_
  have hA : AtP HB.length HB o (othS L t) := AtP.of hO (Nat.le_refl _)
  refine A_alloc rfl ?_
  intro HG n6
  have en6 := n6.len
  have q0 := (n6.old _ (hget_lt q0)).trans q0
  have q6 := (n6.old _ (hget_lt q6)).trans q6
  have qg := n6.new
  have lq0 := hget_lt q0
  have lq6 := hget_lt q6
  have lqg := hget_lt qg
  refine A_store ty24 (by simp (disch := first | omega | (simp only [List.length_map, List.length_append, List.length_set, List.length_cons, List.length_nil]; omega)) only [go_sem, ↓reduceIte, Nat.reduceEqDiff, reduceCtorEq, q0, q6, qx, qg, qp, hpa] <;> rfl) (by simp (disch := first | omega | (simp only [List.length_map, List.length_append, List.length_set, List.length_cons, List.length_nil]; omega)) only [go_sem, ↓reduceIte, Nat.reduceEqDiff, reduceCtorEq, q0, q6, qx, qg, qp, hpa] <;> rfl) qg ⟨by omega, rfl, by first | exact Nat.le_refl _ | simp⟩ (show _ = [AV.i (2 + ((pQ L t).length : Int) + (P.length : Int)), AV.i 0, AV.i 1, nilP] from rfl) ?_
  intro HI w6
  have ew6 := w6.len
  have q0 := (w6.old _ (by omega)).trans q0
  have q6 := (w6.old _ (by omega)).trans q6
  have qg := w6.new
  have hA : AtP HB.length HI o (othS L t) := (hA.mono fun b hb k hk => (n6.old _ (hget_lt hk)).trans hk).mono fun b hb k hk => (w6.old _ (by omega)).trans hk
  have tr : ∀ a b c d e f g h i j k m n o p q r s t u v w x y z A B C D E F G H I J K L M N O P Q R S T : AV, let l := lc_graph_ok a b c d e f g h i j k m n o p q r s t u v w x y z A B C D E F G H I J K; trim ((12,T)::(52,S)::(51,R)::(50,Q)::(49,P)::(48,O)::(47,N)::(46,M)::(45,L)::l) l = [(0,a),(1,b),(2,c),(3,d),(6,e),(7,f),(8,g),(10,h),(11,i),(12,T),(13,k),(14,m),(15,n),(17,o),(18,p),(19,q),(20,r),(22,s),(23,t),(24,u),(25,v),(37,w),(53,x),(54,y),(55,z),(56,A),(60,B),(61,C),(62,D),(63,E),(69,F),(103,G),(104,H),(105,I),(106,J),(112,K)] := by intros; rfl
  refine R_nil (tr ..) ?_; clear tr
  refine then_n ?_
  refine at_seq rfl ?_
  refine at_seq rfl ?_
  refine rg rfl ?_
  refine Rq ?_
  refine R_q rfl (by simp (disch := first | omega | (simp only [List.length_map, List.length_append, List.length_set, List.length_cons, List.length_nil]; omega)) only [go_sem, ↓reduceIte, Nat.reduceEqDiff, reduceCtorEq, q0, q6, qx, qg, qp, hpa]; exact pairsA_len _) ?_
  refine Rq ?_
  have tr : ∀ a b c d e f g h i j k m n o p q r s t u v w x y z A B C D E F G H I J K L M N : AV, let l := lc_graph_ok a b c d e f g h i j k m n o p q r s t u v w x y z A B C D E F G H I J K; trim ((55,N)::(54,M)::(53,L)::l) l = [(0,a),(1,b),(2,c),(3,d),(6,e),(7,f),(8,g),(10,h),(11,i),(12,j),(13,k),(14,m),(15,n),(17,o),(18,p),(19,q),(20,r),(22,s),(23,t),(24,u),(25,v),(37,w),(53,L),(54,M),(55,N),(56,A),(60,B),(61,C),(62,D),(63,E),(69,F),(103,G),(104,H),(105,I),(106,J),(112,K)] := by intros; rfl
  refine R_nil (tr ..) ?_; clear tr
  refine then_n ?_
  refine at_block rfl ?_
  refine loop_n rfl (fun mm kv H' => ∃ i : Nat, ∃ oE : AV, ∃ x13 x14 x15 x17 x18 x56 x60 x61 x62 x63 x69 : AV, (kv = [(13, x13), (14, x14), (15, x15), (17, x17), (18, x18), (55, AV.i i), (56, x56), (60, x60), (61, x61), (62, x62), (63, x63), (69, x69)]) ∧ (mm = (pQ L t).length - i) ∧ (hget H' H.length = some (raceC P L)) ∧ (hget H' H1.length = some [AV.i 0, AV.i 0, AV.i 0, nilP]) ∧ (hget H' HB.length = some [AV.i (2 + ((pQ L t).length : Int) + (P.length : Int)), AV.i 0, AV.i 1, oE]) ∧ (HI.length ≤ H'.length) ∧ (AtP HB.length H' o (othS L t)) ∧ (i ≤ (pQ L t).length) ∧ (OutE HI.length H' oE (gEa 2 (2 + ((pQ L t).length : Int)) (cQ L t (pQ L t)) (pQ L t) i))) ⟨0, nilP, _, _, _, _, _, _, _, _, _, _, _, rfl, rfl, by exact q0, by exact q6, by exact qg, by exact Nat.le_refl _, by exact hA, by omega, by exact .inl ⟨rfl, rfl⟩⟩ (by rfl) ?_
  rintro mm kv HN ⟨i, oE, x13, x14, x15, x17, x18, x56, x60, x61, x62, x63, x69, rfl, rfl, q0, q6, qg, hHI, hA, hi, hE⟩
  have tr : ∀ a b c d e f g h i j k m n o p q r s t u v w x y z A B C D E F G H I J K L M N O P Q R S T U V W : AV, upd [(0,a),(1,b),(2,c),(3,d),(6,e),(7,f),(8,g),(10,h),(11,i),(12,j),(13,k),(14,m),(15,n),(17,o),(18,p),(19,q),(20,r),(22,s),(23,t),(24,u),(25,v),(37,w),(53,x),(54,y),(55,z),(56,A),(60,B),(61,C),(62,D),(63,E),(69,F),(103,G),(104,H),(105,I),(106,J),(112,K)] [(13,L),(14,M),(15,N),(17,O),(18,P),(55,Q),(56,R),(60,S),(61,T),(62,U),(63,V),(69,W)] = [(0,a),(1,b),(2,c),(3,d),(6,e),(7,f),(8,g),(10,h),(11,i),(12,j),(13,L),(14,M),(15,N),(17,O),(18,P),(19,q),(20,r),(22,s),(23,t),(24,u),(25,v),(37,w),(53,x),(54,y),(55,Q),(56,R),(60,S),(61,T),(62,U),(63,V),(69,W),(103,G),(104,H),(105,I),(106,J),(112,K)] := by intros; rfl
  refine W_to (tr ..) ?_; clear tr
  refine at_seq rfl ?_
  refine rg rfl ?_
  refine Rq ?_
  have tr : ∀ a b c d e f g h i j k m n o p q r s t u v w x y z A B C D E F G H I J K L : AV, let l := lc_graph_ok a b c d e f g h i j k m n o p q r s t u v w x y z A B C D E F G H I J K; trim ((56,L)::l) l = [(0,a),(1,b),(2,c),(3,d),(6,e),(7,f),(8,g),(10,h),(11,i),(12,j),(13,k),(14,m),(15,n),(17,o),(18,p),(19,q),(20,r),(22,s),(23,t),(24,u),(25,v),(37,w),(53,x),(54,y),(55,z),(56,L),(60,B),(61,C),(62,D),(63,E),(69,F),(103,G),(104,H),(105,I),(106,J),(112,K)] := by intros; rfl
  refine R_nil (tr ..) ?_; clear tr
  refine then_n ?_
  refine at_seq rfl ?_
  refine cdd (fun h4 => ?_) (fun h4 => ?_)
  ·
   try simp only [decide_eq_true_eq, decide_eq_false_iff_not, Bool.not_eq_true', Bool.not_eq_false', beq_iff_eq, beq_eq_false_iff_ne, ne_eq] at h4
   refine at_skip rfl ?_
   refine then_n ?_
   refine at_seq rfl ?_
   refine at_block rfl ?_
   refine at_seq rfl ?_
   refine rg rfl ?_
   have hpa : pairsA (othS L t) = prsAV (pQ L t) := pairsA_at (show 0 < (pQ L t).length by omega)
   have hqi := hqr i (by omega)
   have hA1 := trivial
   have hE1 := hE
   refine Rq ?_
   refine R_q rfl (by simp (disch := first | omega | (simp only [List.length_map, List.length_append, List.length_set, List.length_cons, List.length_nil]; omega)) only [go_sem, ↓reduceIte, Nat.reduceEqDiff, reduceCtorEq, hpa] <;> rfl) ?_
   refine R_q rfl (by simp (disch := first | omega | (simp only [List.length_map, List.length_append, List.length_set, List.length_cons, List.length_nil]; omega)) only [go_sem, ↓reduceIte, Nat.reduceEqDiff, reduceCtorEq, q0, q6, qx, qg, qp, hpa] <;> rfl) ?_
   refine A_alloc rfl ?_
   intro HJ n7
   have en7 := n7.len
   have q0 := (n7.old _ (hget_lt q0)).trans q0
   have q6 := (n7.old _ (hget_lt q6)).trans q6
   have qg := (n7.old _ (hget_lt qg)).trans qg
   have qp := n7.new
   have hA := hA.mono fun b hb k hk => (n7.old _ (hget_lt hk)).trans hk
   have hE := hE.mono fun b hb k hk => (n7.old _ (hget_lt hk)).trans hk
   refine Rq ?_
   have hE2 := hE1.mono fun b hb k hk => (n7.old _ (hget_lt hk)).trans hk
   have lq0 := hget_lt q0
   have lq6 := hget_lt q6
   have lqg := hget_lt qg
   have lqp := hget_lt qp
   refine A_store ty58 (by simp (disch := first | omega | (simp only [List.length_map, List.length_append, List.length_set, List.length_cons, List.length_nil]; omega)) only [go_sem, ↓reduceIte, Nat.reduceEqDiff, reduceCtorEq, q0, q6, qx, qg, qp, hpa] <;> rfl) (by simp (disch := first | omega | (simp only [List.length_map, List.length_append, List.length_set, List.length_cons, List.length_nil]; omega)) only [go_sem, ↓reduceIte, Nat.reduceEqDiff, reduceCtorEq, q0, q6, qx, qg, qp, hpa] <;> rfl) qp ⟨by omega, rfl, by first | exact Nat.le_refl _ | simp⟩ (show _ = prC (gt (pQ L t) i) from rfl) ?_
   intro HK w7
   have ew7 := w7.len
   have q0 := (w7.old _ (by omega)).trans q0
   have q6 := (w7.old _ (by omega)).trans q6
   have qg := (w7.old _ (by omega)).trans qg
   have qp := w7.new
   have hA := hA.mono fun b hb k hk => (w7.old _ (by omega)).trans hk
   have hE := hE1.mono fun b hb k hk => (w7.old _ (by have := hget_lt hk; omega)).trans ((n7.old _ (hget_lt hk)).trans hk)
   have tr : ∀ a b c d e f g h i j k m n o p q r s t u v w x y z A B C D E F G H I J K L M N O P : AV, let l := lc_graph_ok a b c d e f g h i j k m n o p q r s t u v w x y z A B C D E F G H I J K; trim ((13,P)::(14,O)::(59,N)::(58,M)::(57,L)::l) l = [(0,a),(1,b),(2,c),(3,d),(6,e),(7,f),(8,g),(10,h),(11,i),(12,j),(13,P),(14,O),(15,n),(17,o),(18,p),(19,q),(20,r),(22,s),(23,t),(24,u),(25,v),(37,w),(53,x),(54,y),(55,z),(56,A),(60,B),(61,C),(62,D),(63,E),(69,F),(103,G),(104,H),(105,I),(106,J),(112,K)] := by intros; rfl
   refine R_nil (tr ..) ?_; clear tr
   refine then_n ?_
   refine at_seq rfl ?_
   refine rg rfl ?_
   refine Rq ?_
   have tr : ∀ a b c d e f g h i j k m n o p q r s t u v w x y z A B C D E F G H I J K L : AV, let l := lc_graph_ok a b c d e f g h i j k m n o p q r s t u v w x y z A B C D E F G H I J K; trim ((15,L)::l) l = [(0,a),(1,b),(2,c),(3,d),(6,e),(7,f),(8,g),(10,h),(11,i),(12,j),(13,k),(14,m),(15,L),(17,o),(18,p),(19,q),(20,r),(22,s),(23,t),(24,u),(25,v),(37,w),(53,x),(54,y),(55,z),(56,A),(60,B),(61,C),(62,D),(63,E),(69,F),(103,G),(104,H),(105,I),(106,J),(112,K)] := by intros; rfl
   refine R_nil (tr ..) ?_; clear tr
   refine then_n ?_
   refine at_seq rfl ?_
   refine at_seq rfl ?_
   refine rg rfl ?_
   refine Rq ?_
   refine R_q rfl (by simp (disch := first | omega | (simp only [List.length_map, List.length_append, List.length_set, List.length_cons, List.length_nil]; omega)) only [go_sem, ↓reduceIte, Nat.reduceEqDiff, reduceCtorEq, q0, q6, qx, qg, qp, hpa]; exact hA.len) ?_
   refine Rq ?_
   have tr : ∀ a b c d e f g h i j k m n o p q r s t u v w x y z A B C D E F G H I J K L M N : AV, let l := lc_graph_ok a b c d e f g h i j k m n o p q r s t u v w x y z A B C D E F G H I J K; trim ((62,N)::(61,M)::(60,L)::l) l = [(0,a),(1,b),(2,c),(3,d),(6,e),(7,f),(8,g),(10,h),(11,i),(12,j),(13,k),(14,m),(15,n),(17,o),(18,p),(19,q),(20,r),(22,s),(23,t),(24,u),(25,v),(37,w),(53,x),(54,y),(55,z),(56,A),(60,L),(61,M),(62,N),(63,E),(69,F),(103,G),(104,H),(105,I),(106,J),(112,K)] := by intros; rfl
   refine R_nil (tr ..) ?_; clear tr
   refine then_n ?_
   refine at_block rfl ?_
   refine loop_n rfl (fun mm kv H' => ∃ w : Nat, ∃ c : Int, ∃ x17 x63 x69 : AV, (kv = [(15, AV.i c), (17, x17), (62, AV.i w), (63, x63), (69, x69)]) ∧ (mm = (othS L t).length - w) ∧ (hget H' H.length = some (raceC P L)) ∧ (hget H' H1.length = some [AV.i 0, AV.i 0, AV.i 0, nilP]) ∧ (hget H' HB.length = some [AV.i (2 + ((pQ L t).length : Int) + (P.length : Int)), AV.i 0, AV.i 1, oE]) ∧ (HI.length ≤ H'.length) ∧ (AtP HB.length H' o (othS L t)) ∧ (hget H' HN.length = some (prC (gt (pQ L t) i))) ∧ (OutE HI.length H' oE (gEa 2 (2 + ((pQ L t).length : Int)) (cQ L t (pQ L t)) (pQ L t) i)) ∧ (HN.length < H'.length) ∧ (w ≤ (othS L t).length) ∧ (c = cntN (othS L t) (gt (pQ L t) i) w)) ⟨0, 0, _, _, _, rfl, rfl, by exact q0, by exact q6, by exact qg, by (show HI.length ≤ HK.length; omega), by exact hA, by exact qp, by exact hE, by omega, by omega, by rfl⟩ (by rfl) ?_
   rintro mm kv HX ⟨w, c, x17, x63, x69, rfl, rfl, q0, q6, qg, hHI, hA, qp, hE, hHN, hww, hcc⟩
   have tr : ∀ a b c d e f g h i j k m n o p q r s t u v w x y z A B C D E F G H I J K L M N O P : AV, upd [(0,a),(1,b),(2,c),(3,d),(6,e),(7,f),(8,g),(10,h),(11,i),(12,j),(13,k),(14,m),(15,n),(17,o),(18,p),(19,q),(20,r),(22,s),(23,t),(24,u),(25,v),(37,w),(53,x),(54,y),(55,z),(56,A),(60,B),(61,C),(62,D),(63,E),(69,F),(103,G),(104,H),(105,I),(106,J),(112,K)] [(15,L),(17,M),(62,N),(63,O),(69,P)] = [(0,a),(1,b),(2,c),(3,d),(6,e),(7,f),(8,g),(10,h),(11,i),(12,j),(13,k),(14,m),(15,L),(17,M),(18,p),(19,q),(20,r),(22,s),(23,t),(24,u),(25,v),(37,w),(53,x),(54,y),(55,z),(56,A),(60,B),(61,C),(62,N),(63,O),(69,P),(103,G),(104,H),(105,I),(106,J),(112,K)] := by intros; rfl
   refine W_to (tr ..) ?_; clear tr
   have hcr := cnt_rng (othS L t) (gt (pQ L t) i) w
   have hww : w ≤ (othS L t).length := hww
   refine at_seq rfl ?_
   refine rg rfl ?_
   refine Rq ?_
   have tr : ∀ a b c d e f g h i j k m n o p q r s t u v w x y z A B C D E F G H I J K L : AV, let l := lc_graph_ok a b c d e f g h i j k m n o p q r s t u v w x y z A B C D E F G H I J K; trim ((63,L)::l) l = [(0,a),(1,b),(2,c),(3,d),(6,e),(7,f),(8,g),(10,h),(11,i),(12,j),(13,k),(14,m),(15,n),(17,o),(18,p),(19,q),(20,r),(22,s),(23,t),(24,u),(25,v),(37,w),(53,x),(54,y),(55,z),(56,A),(60,B),(61,C),(62,D),(63,L),(69,F),(103,G),(104,H),(105,I),(106,J),(112,K)] := by intros; rfl
   refine R_nil (tr ..) ?_; clear tr
   refine then_n ?_
   refine at_seq rfl ?_
   refine cdd (fun h5 => ?_) (fun h5 => ?_)
   ·
    try simp only [decide_eq_true_eq, decide_eq_false_iff_not, Bool.not_eq_true', Bool.not_eq_false', beq_iff_eq, beq_eq_false_iff_ne, ne_eq] at h5
    refine at_skip rfl ?_
    refine then_n ?_
    refine at_seq rfl ?_
    refine at_block rfl ?_
    refine at_seq rfl ?_
    refine rg rfl ?_
    obtain ⟨hO0, bO, rfl, hbO, qO⟩ := hA.resolve_left (fun hh => by have h7 := congrArg List.length hh.1; simp only [List.length_nil] at h7; omega)
    have lqO := hget_lt qO
    have hE1 := hE
    refine Rq ?_
    refine R_q rfl (by simp (disch := first | omega | (simp only [List.length_map, List.length_append, List.length_set, List.length_cons, List.length_nil]; omega)) only [go_sem, ↓reduceIte, Nat.reduceEqDiff, reduceCtorEq, q0, q6, qx, qg, qp, hpa, qO] <;> rfl) ?_
    refine A_alloc rfl ?_
    intro HL n8
    have en8 := n8.len
    have q0 := (n8.old _ (hget_lt q0)).trans q0
    have q6 := (n8.old _ (hget_lt q6)).trans q6
    have qg := (n8.old _ (hget_lt qg)).trans qg
    have qp := (n8.old _ (hget_lt qp)).trans qp
    have qO := (n8.old _ (hget_lt qO)).trans qO
    have qx := n8.new
    have lq0 := hget_lt q0
    have lq6 := hget_lt q6
    have lqg := hget_lt qg
    have lqp := hget_lt qp
    have lqx := hget_lt qx
    refine A_store ty58 (by simp (disch := first | omega | (simp only [List.length_map, List.length_append, List.length_set, List.length_cons, List.length_nil]; omega)) only [go_sem, ↓reduceIte, Nat.reduceEqDiff, reduceCtorEq, q0, q6, qx, qg, qp, hpa, qO] <;> rfl) (by simp (disch := first | omega | (simp only [List.length_map, List.length_append, List.length_set, List.length_cons, List.length_nil]; omega)) only [go_sem, ↓reduceIte, Nat.reduceEqDiff, reduceCtorEq, q0, q6, qx, qg, qp, hpa, qO] <;> rfl) qx ⟨by omega, rfl, by first | exact Nat.le_refl _ | simp⟩ (show _ = prC (gt (othS L t) w) from rfl) ?_
    intro HM w8
    have ew8 := w8.len
    have q0 := (w8.old _ (by omega)).trans q0
    have q6 := (w8.old _ (by omega)).trans q6
    have qg := (w8.old _ (by omega)).trans qg
    have qp := (w8.old _ (by omega)).trans qp
    have qO := (w8.old _ (by omega)).trans qO
    have qx := w8.new
    have hE := hE1.mono fun b hb k hk => (w8.old _ (by have := hget_lt hk; omega)).trans ((n8.old _ (hget_lt hk)).trans hk)
    have tr : ∀ a b c d e f g h i j k m n o p q r s t u v w x y z A B C D E F G H I J K L M N : AV, let l := lc_graph_ok a b c d e f g h i j k m n o p q r s t u v w x y z A B C D E F G H I J K; trim ((17,N)::(65,M)::(64,L)::l) l = [(0,a),(1,b),(2,c),(3,d),(6,e),(7,f),(8,g),(10,h),(11,i),(12,j),(13,k),(14,m),(15,n),(17,N),(18,p),(19,q),(20,r),(22,s),(23,t),(24,u),(25,v),(37,w),(53,x),(54,y),(55,z),(56,A),(60,B),(61,C),(62,D),(63,E),(69,F),(103,G),(104,H),(105,I),(106,J),(112,K)] := by intros; rfl
    refine R_nil (tr ..) ?_; clear tr
    refine then_n ?_
    refine at_seq rfl ?_
    refine rl rfl rfl ?_
    refine L_q rfl (by simp (disch := first | omega | (simp only [List.length_map, List.length_append, List.length_set, List.length_cons, List.length_nil]; omega)) only [go_sem, ↓reduceIte, Nat.reduceEqDiff, reduceCtorEq, q0, q6, qx, qg, qp, hpa] <;> rfl) rfl ?_
    refine L_q rfl (by simp (disch := first | omega | (simp only [List.length_map, List.length_append, List.length_set, List.length_cons, List.length_nil]; omega)) only [go_sem, ↓reduceIte, Nat.reduceEqDiff, reduceCtorEq, q0, q6, qx, qg, qp, hpa] <;> rfl) rfl ?_
    refine L_nil ?_
    refine Ms ?_
    refine Rcall ?_
    refine ACall_eq (pair_ok _ _ _) ?_
    refine R_end ?_
    refine M_nil ?_
    refine Rq ?_
    have tr : ∀ a b c d e f g h i j k m n o p q r s t u v w x y z A B C D E F G H I J K L M N O : AV, let l := lc_graph_ok a b c d e f g h i j k m n o p q r s t u v w x y z A B C D E F G H I J K; trim ((69,O)::(67,N)::(68,M)::(66,L)::l) l = [(0,a),(1,b),(2,c),(3,d),(6,e),(7,f),(8,g),(10,h),(11,i),(12,j),(13,k),(14,m),(15,n),(17,o),(18,p),(19,q),(20,r),(22,s),(23,t),(24,u),(25,v),(37,w),(53,x),(54,y),(55,z),(56,A),(60,B),(61,C),(62,D),(63,E),(69,O),(103,G),(104,H),(105,I),(106,J),(112,K)] := by intros; rfl
    refine R_nil (tr ..) ?_; clear tr
    refine then_n ?_
    refine cdd (fun h6 => ?_) (fun h6 => ?_)
    ·
     try simp only [decide_eq_true_eq, decide_eq_false_iff_not, Bool.not_eq_true', Bool.not_eq_false', beq_iff_eq, beq_eq_false_iff_ne, ne_eq] at h6
     refine rg rfl ?_
     refine Rq ?_
     refine Rq ?_
     refine Rq ?_
     have tr : ∀ a b c d e f g h i j k m n o p q r s t u v w x y z A B C D E F G H I J K L M N : AV, let l := lc_graph_ok a b c d e f g h i j k m n o p q r s t u v w x y z A B C D E F G H I J K; trim ((15,N)::(71,M)::(70,L)::l) l = [(0,a),(1,b),(2,c),(3,d),(6,e),(7,f),(8,g),(10,h),(11,i),(12,j),(13,k),(14,m),(15,N),(17,o),(18,p),(19,q),(20,r),(22,s),(23,t),(24,u),(25,v),(37,w),(53,x),(54,y),(55,z),(56,A),(60,B),(61,C),(62,D),(63,E),(69,F),(103,G),(104,H),(105,I),(106,J),(112,K)] := by intros; rfl
     refine R_nil (tr ..) ?_; clear tr
     refine blk_n ?_
     refine then_n ?_
     refine rg rfl ?_
     refine Rq ?_
     refine Rq ?_
     have tr : ∀ a b c d e f g h i j k m n o p q r s t u v w x y z A B C D E F G H I J K L M : AV, let l := lc_graph_ok a b c d e f g h i j k m n o p q r s t u v w x y z A B C D E F G H I J K; trim ((62,M)::(72,L)::l) l = [(0,a),(1,b),(2,c),(3,d),(6,e),(7,f),(8,g),(10,h),(11,i),(12,j),(13,k),(14,m),(15,n),(17,o),(18,p),(19,q),(20,r),(22,s),(23,t),(24,u),(25,v),(37,w),(53,x),(54,y),(55,z),(56,A),(60,B),(61,C),(62,M),(63,E),(69,F),(103,G),(104,H),(105,I),(106,J),(112,K)] := by intros; rfl
     refine R_nil (tr ..) ?_; clear tr
     refine then_n ?_
     exact ⟨_, _, ⟨w + 1, (c + 2), _, _, _, rfl, rfl, by exact q0, by exact q6, by exact qg, by (show HI.length ≤ HM.length; omega), by exact .inr ⟨hO0, bO, rfl, hbO, qO⟩, by exact qp, by exact hE, by (show HN.length < HM.length; omega), by omega, by first | exact cnt_hit hcc (by assumption) | exact cnt_miss hcc (by assumption)⟩, by rfl, by omega⟩
    ·
     try simp only [decide_eq_true_eq, decide_eq_false_iff_not, Bool.not_eq_true', Bool.not_eq_false', beq_iff_eq, beq_eq_false_iff_ne, ne_eq] at h6
     refine at_skip rfl ?_
     refine blk_n ?_
     refine then_n ?_
     refine rg rfl ?_
     refine Rq ?_
     refine Rq ?_
     have tr : ∀ a b c d e f g h i j k m n o p q r s t u v w x y z A B C D E F G H I J K L M : AV, let l := lc_graph_ok a b c d e f g h i j k m n o p q r s t u v w x y z A B C D E F G H I J K; trim ((62,M)::(72,L)::l) l = [(0,a),(1,b),(2,c),(3,d),(6,e),(7,f),(8,g),(10,h),(11,i),(12,j),(13,k),(14,m),(15,n),(17,o),(18,p),(19,q),(20,r),(22,s),(23,t),(24,u),(25,v),(37,w),(53,x),(54,y),(55,z),(56,A),(60,B),(61,C),(62,M),(63,E),(69,F),(103,G),(104,H),(105,I),(106,J),(112,K)] := by intros; rfl
     refine R_nil (tr ..) ?_; clear tr
     refine then_n ?_
     exact ⟨_, _, ⟨w + 1, c, _, _, _, rfl, rfl, by exact q0, by exact q6, by exact qg, by (show HI.length ≤ HM.length; omega), by exact .inr ⟨hO0, bO, rfl, hbO, qO⟩, by exact qp, by exact hE, by (show HN.length < HM.length; omega), by omega, by first | exact cnt_hit hcc (by assumption) | exact cnt_miss hcc (by assumption)⟩, by rfl, by omega⟩
   ·
    try simp only [decide_eq_true_eq, decide_eq_false_iff_not, Bool.not_eq_true', Bool.not_eq_false', beq_iff_eq, beq_eq_false_iff_ne, ne_eq] at h5
    refine at_exit rfl ?_
    refine then_x ?_
    refine then_x ?_
    refine blk_x ?_
    refine then_n ?_
    refine at_seq rfl ?_
    refine rg rfl ?_
    obtain rfl : w = (othS L t).length := by omega
    have hcr := cnl_rng L t (norm (gt (pQ L t) i)) L.length
    rw [cnt_all (by omega)] at hcc
    subst hcc
    refine Rq ?_
    refine R_q rfl (by simp (disch := first | omega | (simp only [List.length_map, List.length_append, List.length_set, List.length_cons, List.length_nil]; omega)) only [go_sem, ↓reduceIte, Nat.reduceEqDiff, reduceCtorEq, q0, q6, qx, qg, qp, hpa] <;> rfl) ?_
    refine Rq ?_
    refine Rq ?_
    have tr : ∀ a b c d e f g h i j k m n o p q r s t u v w x y z A B C D E F G H I J K L M N O : AV, let l := lc_graph_ok a b c d e f g h i j k m n o p q r s t u v w x y z A B C D E F G H I J K; trim ((18,O)::(75,N)::(74,M)::(73,L)::l) l = [(0,a),(1,b),(2,c),(3,d),(6,e),(7,f),(8,g),(10,h),(11,i),(12,j),(13,k),(14,m),(15,n),(17,o),(18,O),(19,q),(20,r),(22,s),(23,t),(24,u),(25,v),(37,w),(53,x),(54,y),(55,z),(56,A),(60,B),(61,C),(62,D),(63,E),(69,F),(103,G),(104,H),(105,I),(106,J),(112,K)] := by intros; rfl
    refine R_nil (tr ..) ?_; clear tr
    refine then_n ?_
    refine rg rfl ?_
    refine Rq ?_
    refine R_q rfl (by simp (disch := first | omega | (simp only [List.length_map, List.length_append, List.length_set, List.length_cons, List.length_nil]; omega)) only [go_sem, ↓reduceIte, Nat.reduceEqDiff, reduceCtorEq, q0, q6, qx, qg, qp, hpa] <;> rfl) ?_
    refine Rq ?_
    refine Rq ?_
    refine Rq ?_
    refine Rq ?_
    refine Rq ?_
    refine Rq ?_
    refine Rq ?_
    refine Rq ?_
    refine R_q rfl (by simp (disch := first | omega | (simp only [List.length_map, List.length_append, List.length_set, List.length_cons, List.length_nil]; omega)) only [go_sem, ↓reduceIte, Nat.reduceEqDiff, reduceCtorEq, q0, q6, qx, qg, qp, hpa] <;> rfl) ?_
    refine Rq ?_
    refine Rq ?_
    refine Rq ?_
    refine Rq ?_
    refine Rq ?_
    refine Rq ?_
    refine Rq ?_
    refine R_q rfl (by simp (disch := first | omega | (simp only [List.length_map, List.length_append, List.length_set, List.length_cons, List.length_nil]; omega)) only [go_sem, ↓reduceIte, Nat.reduceEqDiff, reduceCtorEq, q0, q6, qx, qg, qp, hpa] <;> rfl) ?_
    refine Rq ?_
    refine Rq ?_
    refine Rq ?_
    have hob := fun b hb => hE.lt (b := b) hb
    have hgl := gEa_len 2 (2 + ((pQ L t).length : Int)) (cQ L t (pQ L t)) (pQ L t) i
    refine A_buildSlice (bs22_3 _ _ _ _ _ _ ⟨0, 2 + i, cQ L t (pQ L t) i⟩ ⟨2 + i, (2 + ((pQ L t).length : Int)) + (gt (pQ L t) i).a, cQ L t (pQ L t) i⟩ ⟨2 + i, (2 + ((pQ L t).length : Int)) + (gt (pQ L t) i).b, cQ L t (pQ L t) i⟩ (by simp (disch := first | omega | (simp only [List.length_map, List.length_append, List.length_set, List.length_cons, List.length_nil]; omega)) only [go_sem, ↓reduceIte, Nat.reduceEqDiff, reduceCtorEq, q0, q6, qx, qg, qp, hpa]) (by simp (disch := first | omega | (simp only [List.length_map, List.length_append, List.length_set, List.length_cons, List.length_nil]; omega)) only [go_sem, ↓reduceIte, Nat.reduceEqDiff, reduceCtorEq, q0, q6, qx, qg, qp, hpa]) (by simp (disch := first | omega | (simp only [List.length_map, List.length_append, List.length_set, List.length_cons, List.length_nil]; omega)) only [go_sem, ↓reduceIte, Nat.reduceEqDiff, reduceCtorEq, q0, q6, qx, qg, qp, hpa])) ?_
    intro HP n9
    have en9 := n9.len
    have q0 := (n9.old _ (hget_lt q0)).trans q0
    have q6 := (n9.old _ (hget_lt q6)).trans q6
    have qg := (n9.old _ (hget_lt qg)).trans qg
    have qn := n9.new
    have hA := hA.mono fun b hb k hk => (n9.old _ (hget_lt hk)).trans hk
    have hE := hE.mono fun b hb k hk => (n9.old _ (hget_lt hk)).trans hk
    have lq0 := hget_lt q0
    have lq6 := hget_lt q6
    have lqg := hget_lt qg
    obtain ⟨b, hbl, hbl2, hap⟩ := outE_append (lim := H.length) (X := gE1 2 (2 + ((pQ L t).length : Int)) (cQ L t (pQ L t)) (pQ L t) i) (m := 3) hE hob qn rfl (by simp [gE1]) (by omega) (by omega) (by omega)
    refine A_append (by simp (disch := first | omega | (simp only [List.length_map, List.length_append, List.length_set, List.length_cons, List.length_nil]; omega)) only [go_sem, ↓reduceIte, Nat.reduceEqDiff, reduceCtorEq, q0, q6, qx, qg, qp, hpa]; exact hap) ?_
    intro HQ g9
    have eg9 := g9.len
    have q0 := (g9.old _ (by omega) lq0).trans q0
    have q6 := (g9.old _ (by omega) lq6).trans q6
    have qg := (g9.old _ (by omega) lqg).trans qg
    have qq := g9.new
    have hA := hA.mono fun b7 hb k hk => (g9.old _ (by omega) (hget_lt hk)).trans hk
    have hE := outE_a (lo := HI.length) g9 (by omega) rfl
    refine Rq ?_
    have lq0 := hget_lt q0
    have lq6 := hget_lt q6
    have lqg := hget_lt qg
    refine A_store ty22 (by simp (disch := first | omega | (simp only [List.length_map, List.length_append, List.length_set, List.length_cons, List.length_nil]; omega)) only [go_sem, ↓reduceIte, Nat.reduceEqDiff, reduceCtorEq, q0, q6, qx, qg, qp, hpa] <;> rfl) (by simp (disch := first | omega | (simp only [List.length_map, List.length_append, List.length_set, List.length_cons, List.length_nil]; omega)) only [go_sem, ↓reduceIte, Nat.reduceEqDiff, reduceCtorEq, q0, q6, qx, qg, qp, hpa] <;> rfl) qg ⟨by omega, rfl, by first | exact Nat.le_refl _ | simp⟩ (show _ = [AV.i (2 + ((pQ L t).length : Int) + (P.length : Int)), AV.i 0, AV.i 1, (.own 3 HP.length 0 ((gEa 2 (2 + ((pQ L t).length : Int)) (cQ L t (pQ L t)) (pQ L t) i).length + 3))] from rfl) ?_
    intro HR w9
    have ew9 := w9.len
    have q0 := (w9.old _ (by omega)).trans q0
    have q6 := (w9.old _ (by omega)).trans q6
    have qg := w9.new
    have hE := hE.mono fun b hb k hk => (w9.old _ (by omega)).trans hk
    have hA := hA.mono fun b hb k hk => (w9.old _ (by omega)).trans hk
    have tr : ∀ a b c d e f g h i j k m n o p q r s t u v w x y z A B C D E F G H I J K L M N O P Q R S T U V W X Y Z a1 b1 c1 d1 e1 f1 g1 h1 i1 j1 : AV, let l := lc_graph_ok a b c d e f g h i j k m n o p q r s t u v w x y z A B C D E F G H I J K; trim ((100,j1)::(99,i1)::(98,h1)::(97,g1)::(96,f1)::(95,e1)::(94,d1)::(93,c1)::(92,b1)::(91,a1)::(90,Z)::(89,Y)::(88,X)::(87,W)::(86,V)::(85,U)::(84,T)::(83,S)::(82,R)::(81,Q)::(80,P)::(79,O)::(78,N)::(77,M)::(76,L)::l) l = [(0,a),(1,b),(2,c),(3,d),(6,e),(7,f),(8,g),(10,h),(11,i),(12,j),(13,k),(14,m),(15,n),(17,o),(18,p),(19,q),(20,r),(22,s),(23,t),(24,u),(25,v),(37,w),(53,x),(54,y),(55,z),(56,A),(60,B),(61,C),(62,D),(63,E),(69,F),(103,G),(104,H),(105,I),(106,J),(112,K)] := by intros; rfl
    refine R_nil (tr ..) ?_; clear tr
    refine blk_n ?_
    refine then_n ?_
    refine rg rfl ?_
    refine Rq ?_
    refine Rq ?_
    have tr : ∀ a b c d e f g h i j k m n o p q r s t u v w x y z A B C D E F G H I J K L M : AV, let l := lc_graph_ok a b c d e f g h i j k m n o p q r s t u v w x y z A B C D E F G H I J K; trim ((55,M)::(101,L)::l) l = [(0,a),(1,b),(2,c),(3,d),(6,e),(7,f),(8,g),(10,h),(11,i),(12,j),(13,k),(14,m),(15,n),(17,o),(18,p),(19,q),(20,r),(22,s),(23,t),(24,u),(25,v),(37,w),(53,x),(54,y),(55,M),(56,A),(60,B),(61,C),(62,D),(63,E),(69,F),(103,G),(104,H),(105,I),(106,J),(112,K)] := by intros; rfl
    refine R_nil (tr ..) ?_; clear tr
    refine then_n ?_
    exact ⟨_, _, ⟨i + 1, (.own 3 HP.length 0 ((gEa 2 (2 + ((pQ L t).length : Int)) (cQ L t (pQ L t)) (pQ L t) i).length + 3)), _, _, _, _, _, _, _, _, _, _, _, rfl, rfl, by exact q0, by exact q6, by exact qg, by first | (show HI.length ≤ HR.length; omega) | omega, by exact hA, by omega, by exact hE⟩, by rfl, by omega⟩
  ·
   try simp only [decide_eq_true_eq, decide_eq_false_iff_not, Bool.not_eq_true', Bool.not_eq_false', beq_iff_eq, beq_eq_false_iff_ne, ne_eq] at h4
   refine at_exit rfl ?_
   refine then_x ?_
   refine then_x ?_
   refine blk_x ?_
   refine then_n ?_
   refine at_seq rfl ?_
   refine at_seq rfl ?_
   refine rg rfl ?_
   obtain rfl : i = (pQ L t).length := by omega
   refine Rq ?_
   refine R_q rfl (by simp (disch := first | omega | (simp only [List.length_map, List.length_append, List.length_set, List.length_cons, List.length_nil]; omega)) only [go_sem, ↓reduceIte, Nat.reduceEqDiff, reduceCtorEq, q0, q6, qx, qg, qp, hpa] <;> rfl) ?_
   refine Rq ?_
   refine Rq ?_
   have tr : ∀ a b c d e f g h i j k m n o p q r s t u v w x y z A B C D E F G H I J K L M N O : AV, let l := lc_graph_ok a b c d e f g h i j k m n o p q r s t u v w x y z A B C D E F G H I J K; trim ((105,O)::(104,N)::(103,M)::(102,L)::l) l = [(0,a),(1,b),(2,c),(3,d),(6,e),(7,f),(8,g),(10,h),(11,i),(12,j),(13,k),(14,m),(15,n),(17,o),(18,p),(19,q),(20,r),(22,s),(23,t),(24,u),(25,v),(37,w),(53,x),(54,y),(55,z),(56,A),(60,B),(61,C),(62,D),(63,E),(69,F),(103,M),(104,N),(105,O),(106,J),(112,K)] := by intros; rfl
   refine R_nil (tr ..) ?_; clear tr
   refine then_n ?_
   refine at_block rfl ?_
   refine loop_n rfl (fun mm kv H' => ∃ j : Nat, ∃ oF : AV, ∃ x19 x20 x106 x112 : AV, (kv = [(19, x19), (20, x20), (105, AV.i j), (106, x106), (112, x112)]) ∧ (mm = P.length - j) ∧ (hget H' H.length = some (raceC P L)) ∧ (hget H' H1.length = some [AV.i 0, AV.i 0, AV.i 0, nilP]) ∧ (hget H' HB.length = some [AV.i (2 + ((pQ L t).length : Int) + (P.length : Int)), AV.i 0, AV.i 1, oF]) ∧ (HI.length ≤ H'.length) ∧ (j ≤ P.length) ∧ (OutE HI.length H' oF (gEb (2 + ((pQ L t).length : Int)) P t goal (gEa 2 (2 + ((pQ L t).length : Int)) (cQ L t (pQ L t)) (pQ L t) (pQ L t).length) j))) ⟨0, oE, _, _, _, _, rfl, rfl, by exact q0, by exact q6, by exact qg, by exact hHI, by omega, by exact hE⟩ (by rfl) ?_
   rintro mm kv HS ⟨j, oF, x19, x20, x106, x112, rfl, rfl, q0, q6, qg, hHI2, hj, hE⟩
   have tr : ∀ a b c d e f g h i j k m n o p q r s t u v w x y z A B C D E F G H I J K L M N O P : AV, upd [(0,a),(1,b),(2,c),(3,d),(6,e),(7,f),(8,g),(10,h),(11,i),(12,j),(13,k),(14,m),(15,n),(17,o),(18,p),(19,q),(20,r),(22,s),(23,t),(24,u),(25,v),(37,w),(53,x),(54,y),(55,z),(56,A),(60,B),(61,C),(62,D),(63,E),(69,F),(103,G),(104,H),(105,I),(106,J),(112,K)] [(19,L),(20,M),(105,N),(106,O),(112,P)] = [(0,a),(1,b),(2,c),(3,d),(6,e),(7,f),(8,g),(10,h),(11,i),(12,j),(13,k),(14,m),(15,n),(17,o),(18,p),(19,L),(20,M),(22,s),(23,t),(24,u),(25,v),(37,w),(53,x),(54,y),(55,z),(56,A),(60,B),(61,C),(62,D),(63,E),(69,F),(103,G),(104,H),(105,N),(106,O),(112,P)] := by intros; rfl
   refine W_to (tr ..) ?_; clear tr
   refine at_seq rfl ?_
   refine rg rfl ?_
   refine Rq ?_
   have tr : ∀ a b c d e f g h i j k m n o p q r s t u v w x y z A B C D E F G H I J K L : AV, let l := lc_graph_ok a b c d e f g h i j k m n o p q r s t u v w x y z A B C D E F G H I J K; trim ((106,L)::l) l = [(0,a),(1,b),(2,c),(3,d),(6,e),(7,f),(8,g),(10,h),(11,i),(12,j),(13,k),(14,m),(15,n),(17,o),(18,p),(19,q),(20,r),(22,s),(23,t),(24,u),(25,v),(37,w),(53,x),(54,y),(55,z),(56,A),(60,B),(61,C),(62,D),(63,E),(69,F),(103,G),(104,H),(105,I),(106,L),(112,K)] := by intros; rfl
   refine R_nil (tr ..) ?_; clear tr
   refine then_n ?_
   refine at_seq rfl ?_
   refine cdd (fun h7 => ?_) (fun h7 => ?_)
   ·
    try simp only [decide_eq_true_eq, decide_eq_false_iff_not, Bool.not_eq_true', Bool.not_eq_false', beq_iff_eq, beq_eq_false_iff_ne, ne_eq] at h7
    refine at_skip rfl ?_
    refine then_n ?_
    refine at_seq rfl ?_
    refine at_block rfl ?_
    refine at_seq rfl ?_
    refine rg rfl ?_
    have hgk := hg0 j (by omega)
    have hpk := g.pt j (by omega)
    have hgbl := gEb_len (2 + ((pQ L t).length : Int)) P t goal (gEa 2 (2 + ((pQ L t).length : Int)) (cQ L t (pQ L t)) (pQ L t) (pQ L t).length) j
    have hgal := gEa_len 2 (2 + ((pQ L t).length : Int)) (cQ L t (pQ L t)) (pQ L t) (pQ L t).length
    refine Rq ?_
    refine Rq ?_
    refine R_q rfl (by simp (disch := first | omega | (simp only [List.length_map, List.length_append, List.length_set, List.length_cons, List.length_nil]; omega)) only [go_sem, ↓reduceIte, Nat.reduceEqDiff, reduceCtorEq, q0, q6, qx, qg, qp, hpa] <;> rfl) ?_
    refine Rq ?_
    refine Rq ?_
    have tr : ∀ a b c d e f g h i j k m n o p q r s t u v w x y z A B C D E F G H I J K L M N O P : AV, let l := lc_graph_ok a b c d e f g h i j k m n o p q r s t u v w x y z A B C D E F G H I J K; trim ((20,P)::(19,O)::(109,N)::(108,M)::(107,L)::l) l = [(0,a),(1,b),(2,c),(3,d),(6,e),(7,f),(8,g),(10,h),(11,i),(12,j),(13,k),(14,m),(15,n),(17,o),(18,p),(19,O),(20,P),(22,s),(23,t),(24,u),(25,v),(37,w),(53,x),(54,y),(55,z),(56,A),(60,B),(61,C),(62,D),(63,E),(69,F),(103,G),(104,H),(105,I),(106,J),(112,K)] := by intros; rfl
    refine R_nil (tr ..) ?_; clear tr
    refine then_n ?_
    refine at_seq rfl ?_
    refine rg rfl ?_
    refine Rq ?_
    refine Rq ?_
    refine Rq ?_
    have tr : ∀ a b c d e f g h i j k m n o p q r s t u v w x y z A B C D E F G H I J K L M N : AV, let l := lc_graph_ok a b c d e f g h i j k m n o p q r s t u v w x y z A B C D E F G H I J K; trim ((112,N)::(111,M)::(110,L)::l) l = [(0,a),(1,b),(2,c),(3,d),(6,e),(7,f),(8,g),(10,h),(11,i),(12,j),(13,k),(14,m),(15,n),(17,o),(18,p),(19,q),(20,r),(22,s),(23,t),(24,u),(25,v),(37,w),(53,x),(54,y),(55,z),(56,A),(60,B),(61,C),(62,D),(63,E),(69,F),(103,G),(104,H),(105,I),(106,J),(112,N)] := by intros; rfl
    refine R_nil (tr ..) ?_; clear tr
    refine then_n ?_
    refine cdd (fun h8 => ?_) (fun h8 => ?_)
    ·
     try simp only [decide_eq_true_eq, decide_eq_false_iff_not, Bool.not_eq_true', Bool.not_eq_false', beq_iff_eq, beq_eq_false_iff_ne, ne_eq] at h8
     refine rg rfl ?_
     refine Rq ?_
     refine R_q rfl (by simp (disch := first | omega | (simp only [List.length_map, List.length_append, List.length_set, List.length_cons, List.length_nil]; omega)) only [go_sem, ↓reduceIte, Nat.reduceEqDiff, reduceCtorEq, q0, q6, qx, qg, qp, hpa] <;> rfl) ?_
     refine Rq ?_
     refine R_q rfl (by simp (disch := first | omega | (simp only [List.length_map, List.length_append, List.length_set, List.length_cons, List.length_nil]; omega)) only [go_sem, ↓reduceIte, Nat.reduceEqDiff, reduceCtorEq, q0, q6, qx, qg, qp, hpa]; exact pairsA_len _) ?_
     refine Rq ?_
     refine Rq ?_
     refine Rq ?_
     refine Rq ?_
     refine Rq ?_
     refine Rq ?_
     refine Rq ?_
     have hob := fun b hb => hE.lt (b := b) hb
     refine A_buildSlice (bs22_1 _ _ _ _ ⟨(2 + ((pQ L t).length : Int)) + j, 1, goal - gt P j⟩ (by simp (disch := first | omega | (simp only [List.length_map, List.length_append, List.length_set, List.length_cons, List.length_nil]; omega)) only [go_sem, ↓reduceIte, Nat.reduceEqDiff, reduceCtorEq, q0, q6, qx, qg, qp, hpa])) ?_
     intro HT n2
     have en2 := n2.len
     have q0 := (n2.old _ (hget_lt q0)).trans q0
     have q6 := (n2.old _ (hget_lt q6)).trans q6
     have qg := (n2.old _ (hget_lt qg)).trans qg
     have qn := n2.new
     have hE := hE.mono fun b hb k hk => (n2.old _ (hget_lt hk)).trans hk
     have lq0 := hget_lt q0
     have lq6 := hget_lt q6
     have lqg := hget_lt qg
     obtain ⟨b, hbl, hbl2, hap⟩ := outE_append (lim := H.length) (X := [⟨(2 + ((pQ L t).length : Int)) + j, 1, goal - gt P j⟩]) (m := 1) hE hob qn rfl (by simp) (by omega) (by omega) (by omega)
     refine A_append (by simp (disch := first | omega | (simp only [List.length_map, List.length_append, List.length_set, List.length_cons, List.length_nil]; omega)) only [go_sem, ↓reduceIte, Nat.reduceEqDiff, reduceCtorEq, q0, q6, qx, qg, qp, hpa]; exact hap) ?_
     intro HU g2_
     have eg2_ := g2_.len
     have q0 := (g2_.old _ (by omega) lq0).trans q0
     have q6 := (g2_.old _ (by omega) lq6).trans q6
     have qg := (g2_.old _ (by omega) lqg).trans qg
     have qq := g2_.new
     have hE := outE_b (lo := HI.length) g2_ (by omega) (by omega) rfl
     refine Rq ?_
     have lq0 := hget_lt q0
     have lq6 := hget_lt q6
     have lqg := hget_lt qg
     refine A_store ty22 (by simp (disch := first | omega | (simp only [List.length_map, List.length_append, List.length_set, List.length_cons, List.length_nil]; omega)) only [go_sem, ↓reduceIte, Nat.reduceEqDiff, reduceCtorEq, q0, q6, qx, qg, qp, hpa] <;> rfl) (by simp (disch := first | omega | (simp only [List.length_map, List.length_append, List.length_set, List.length_cons, List.length_nil]; omega)) only [go_sem, ↓reduceIte, Nat.reduceEqDiff, reduceCtorEq, q0, q6, qx, qg, qp, hpa] <;> rfl) qg ⟨by omega, rfl, by first | exact Nat.le_refl _ | simp⟩ (show _ = [AV.i (2 + ((pQ L t).length : Int) + (P.length : Int)), AV.i 0, AV.i 1, (.own 3 HT.length 0 ((gEb (2 + ((pQ L t).length : Int)) P t goal (gEa 2 (2 + ((pQ L t).length : Int)) (cQ L t (pQ L t)) (pQ L t) (pQ L t).length) j).length + 1))] from rfl) ?_
     intro HV w2
     have ew2 := w2.len
     have q0 := (w2.old _ (by omega)).trans q0
     have q6 := (w2.old _ (by omega)).trans q6
     have qg := w2.new
     have hE := hE.mono fun b hb k hk => (w2.old _ (by omega)).trans hk
     have tr : ∀ a b c d e f g h i j k m n o p q r s t u v w x y z A B C D E F G H I J K L M N O P Q R S T U V W X Y : AV, let l := lc_graph_ok a b c d e f g h i j k m n o p q r s t u v w x y z A B C D E F G H I J K; trim ((126,Y)::(125,X)::(124,W)::(123,V)::(122,U)::(121,T)::(120,S)::(119,R)::(118,Q)::(117,P)::(116,O)::(115,N)::(114,M)::(113,L)::l) l = [(0,a),(1,b),(2,c),(3,d),(6,e),(7,f),(8,g),(10,h),(11,i),(12,j),(13,k),(14,m),(15,n),(17,o),(18,p),(19,q),(20,r),(22,s),(23,t),(24,u),(25,v),(37,w),(53,x),(54,y),(55,z),(56,A),(60,B),(61,C),(62,D),(63,E),(69,F),(103,G),(104,H),(105,I),(106,J),(112,K)] := by intros; rfl
     refine R_nil (tr ..) ?_; clear tr
     refine blk_n ?_
     refine then_n ?_
     refine rg rfl ?_
     refine Rq ?_
     refine Rq ?_
     have tr : ∀ a b c d e f g h i j k m n o p q r s t u v w x y z A B C D E F G H I J K L M : AV, let l := lc_graph_ok a b c d e f g h i j k m n o p q r s t u v w x y z A B C D E F G H I J K; trim ((105,M)::(127,L)::l) l = [(0,a),(1,b),(2,c),(3,d),(6,e),(7,f),(8,g),(10,h),(11,i),(12,j),(13,k),(14,m),(15,n),(17,o),(18,p),(19,q),(20,r),(22,s),(23,t),(24,u),(25,v),(37,w),(53,x),(54,y),(55,z),(56,A),(60,B),(61,C),(62,D),(63,E),(69,F),(103,G),(104,H),(105,M),(106,J),(112,K)] := by intros; rfl
     refine R_nil (tr ..) ?_; clear tr
     refine then_n ?_
     exact ⟨_, _, ⟨j + 1, (.own 3 HT.length 0 ((gEb (2 + ((pQ L t).length : Int)) P t goal (gEa 2 (2 + ((pQ L t).length : Int)) (cQ L t (pQ L t)) (pQ L t) (pQ L t).length) j).length + 1)), _, _, _, _, rfl, rfl, by exact q0, by exact q6, by exact qg, by first | (show HI.length ≤ HV.length; omega) | omega, by omega, by first | exact hE | exact outE_k hE (by omega)⟩, by rfl, by omega⟩
    ·
     try simp only [decide_eq_true_eq, decide_eq_false_iff_not, Bool.not_eq_true', Bool.not_eq_false', beq_iff_eq, beq_eq_false_iff_ne, ne_eq] at h8
     refine at_skip rfl ?_
     refine blk_n ?_
     refine then_n ?_
     refine rg rfl ?_
     refine Rq ?_
     refine Rq ?_
     have tr : ∀ a b c d e f g h i j k m n o p q r s t u v w x y z A B C D E F G H I J K L M : AV, let l := lc_graph_ok a b c d e f g h i j k m n o p q r s t u v w x y z A B C D E F G H I J K; trim ((105,M)::(127,L)::l) l = [(0,a),(1,b),(2,c),(3,d),(6,e),(7,f),(8,g),(10,h),(11,i),(12,j),(13,k),(14,m),(15,n),(17,o),(18,p),(19,q),(20,r),(22,s),(23,t),(24,u),(25,v),(37,w),(53,x),(54,y),(55,z),(56,A),(60,B),(61,C),(62,D),(63,E),(69,F),(103,G),(104,H),(105,M),(106,J),(112,K)] := by intros; rfl
     refine R_nil (tr ..) ?_; clear tr
     refine then_n ?_
     exact ⟨_, _, ⟨j + 1, oF, _, _, _, _, rfl, rfl, by exact q0, by exact q6, by exact qg, by first | (show HI.length ≤ HV.length; omega) | omega, by omega, by first | exact hE | exact outE_k hE (by omega)⟩, by rfl, by omega⟩
   ·
    try simp only [decide_eq_true_eq, decide_eq_false_iff_not, Bool.not_eq_true', Bool.not_eq_false', beq_iff_eq, beq_eq_false_iff_ne, ne_eq] at h7
    refine at_exit rfl ?_
    refine then_x ?_
    refine then_x ?_
    refine blk_x ?_
    refine then_n ?_
    refine at_seq rfl ?_
    refine rg rfl ?_
    obtain rfl : j = P.length := by omega
    have hgne := gE_ne 2 (2 + ((pQ L t).length : Int)) (cQ L t (pQ L t)) (pQ L t) (t := t) goal g2
    obtain ⟨hE7, bE, rfl, hbE, qE⟩ := hE.resolve_left (fun hh => hgne hh.1)
    refine R_q rfl (by simp (disch := first | omega | (simp only [List.length_map, List.length_append, List.length_set, List.length_cons, List.length_nil]; omega)) only [go_sem, ↓reduceIte, Nat.reduceEqDiff, reduceCtorEq, q0, q6, qx, qg, qp, hpa] <;> rfl) ?_
    refine Rq ?_
    have lq0 := hget_lt q0
    have lq6 := hget_lt q6
    have lqg := hget_lt qg
    refine A_store ty24 (by simp (disch := first | omega | (simp only [List.length_map, List.length_append, List.length_set, List.length_cons, List.length_nil]; omega)) only [go_sem, ↓reduceIte, Nat.reduceEqDiff, reduceCtorEq, q0, q6, qx, qg, qp, hpa] <;> rfl) (by simp (disch := first | omega | (simp only [List.length_map, List.length_append, List.length_set, List.length_cons, List.length_nil]; omega)) only [go_sem, ↓reduceIte, Nat.reduceEqDiff, reduceCtorEq, q0, q6, qx, qg, qp, hpa] <;> rfl) q6 ⟨by omega, rfl, by first | exact Nat.le_refl _ | simp⟩ (show _ = [AV.i (2 + ((pQ L t).length : Int) + (P.length : Int)), AV.i 0, AV.i 1, _] from rfl) ?_
    intro HZ wz
    have ewz := wz.len
    have q0 := (wz.old _ (by omega)).trans q0
    have qg := (wz.old _ (by omega)).trans qg
    have q6 := wz.new
    have hE := hE.mono fun b hb k hk => (wz.old _ (by omega)).trans hk
    refine Rq ?_
    have tr : ∀ a b c d e f g h i j k m n o p q r s t u v w x y z A B C D E F G H I J K L M N : AV, let l := lc_graph_ok a b c d e f g h i j k m n o p q r s t u v w x y z A B C D E F G H I J K; trim ((7,N)::(129,M)::(128,L)::l) l = [(0,a),(1,b),(2,c),(3,d),(6,e),(7,N),(8,g),(10,h),(11,i),(12,j),(13,k),(14,m),(15,n),(17,o),(18,p),(19,q),(20,r),(22,s),(23,t),(24,u),(25,v),(37,w),(53,x),(54,y),(55,z),(56,A),(60,B),(61,C),(62,D),(63,E),(69,F),(103,G),(104,H),(105,I),(106,J),(112,K)] := by intros; rfl
    refine R_nil (tr ..) ?_; clear tr
    refine then_n ?_
    refine at_ret rfl ?_
    refine fin_pure (rs := [.cell 6 24, .tmp 7]) rfl (by simp only [go_sem, ↓reduceIte, Nat.reduceEqDiff, q6]; rfl) rfl ?_
    refine ⟨?_, rfl⟩
    show AV.tup [AV.agg [AV.i _, AV.i _, AV.i _, frz HZ H.length 6 _], frz HZ H.length 7 _] = _
    rw [hE.frz (by omega) hgne, frz_pairsA]

end Go.Proofs.Ytdicnojnkbmdlaa
end
