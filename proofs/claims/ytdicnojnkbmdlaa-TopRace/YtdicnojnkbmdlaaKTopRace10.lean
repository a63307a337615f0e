/-
  Texts of TopRace, part 11 of 16. Walks of chapters 52 and 53. The steps are written by program (walk.py).
-/
import Derived.Test.YtdicnojnkbmdlaaKTopRace9
import Derived.Test.YtdicnojnkbmdlaaKTopRace8
import Derived.Test.YtdicnojnkbmdlaaKTopRace6
import Derived.Test.YtdicnojnkbmdlaaKTopRace7
section
set_option linter.unusedSimpArgs false
set_option linter.unusedVariables false
set_option maxHeartbeats 40000000
set_option maxRecDepth 4000
namespace Go.Proofs.Ytdicnojnkbmdlaa
open Go Go.Am

abbrev lc_acceptT_ok (a b c d e f g h i j : AV) : Env := [(0,a),(1,b),(2,c),(3,d),(5,e),(6,f),(7,g),(8,h),(15,i),(19,j)]
theorem acceptT_ok (lim : Nat) (H : Heap) (P : List Int) (L : List Pr) (t : Int) (S R : List Int) (sa : AV) (hsa : IsA sa S) (hR : R.length ≤ 1000) (hS : S.length ≤ 1000) :
    ACall sig lim 32 [.agg (raceC P L), AV.i t, .agg [.v (.bool true), sa, intsAV R]] H fun r H' => r = AV.i (accS P L t true S R) ∧ H' = H := by
 have q0 : True := trivial
 have q5 : True := trivial
 refine ACall_pure (fa := fa32) rfl rfl rfl rfl ?_
 have tr : ∀ a0 a1 a2 : AV, env0 fa32.keep [a0, a1, a2] = [(0,a0),(1,a1),(2,a2),(3,.any),(5,.any),(6,.any),(7,.any),(8,.any),(15,.any),(19,.any)] := fun a0 a1 a2 => rfl
 refine W_to (tr _ _ _) ?_; clear tr
 refine at_seq rfl ?_
 refine rg rfl ?_
 refine A_box rfl (by simp (disch := first | omega | (simp only [List.length_map, List.length_append, List.length_set, List.length_cons, List.length_nil]; omega)) only [go_sem, ↓reduceIte, Nat.reduceEqDiff, reduceCtorEq] <;> rfl) ?_
 intro H1 n0
 have en0 := n0.len
 have q0 := n0.new
 refine A_box rfl (by simp (disch := first | omega | (simp only [List.length_map, List.length_append, List.length_set, List.length_cons, List.length_nil]; omega)) only [go_sem, ↓reduceIte, Nat.reduceEqDiff, reduceCtorEq, hsa.stor, Bool.and_self] <;> rfl) ?_
 intro H2 n1
 have en1 := n1.len
 have q0 := (n1.old _ (hget_lt q0)).trans q0
 have q5 := n1.new
 refine Rq ?_
 have tr : ∀ a b c d e f g h i j k m n : AV, let l := lc_acceptT_ok a b c d e f g h i j; trim ((6,n)::(5,m)::(3,k)::l) l = [(0,a),(1,b),(2,c),(3,k),(5,m),(6,n),(7,g),(8,h),(15,i),(19,j)] := by intros; rfl
 refine R_nil (tr ..) ?_; clear tr
 refine then_n ?_
 refine at_seq rfl ?_
 refine rg rfl ?_
 refine R_q rfl (by simp (disch := first | omega | (simp only [List.length_map, List.length_append, List.length_set, List.length_cons, List.length_nil]; omega)) only [go_sem, ↓reduceIte, Nat.reduceEqDiff, reduceCtorEq, q0, q5] <;> rfl) ?_
 refine Rq ?_
 refine Rcall ?_
 refine ACall_eq (mst_ok _ _ P L t) ?_
 refine Rq ?_
 refine Rq ?_
 refine Rq ?_
 refine Rq ?_
 refine Rq ?_
 have tr : ∀ a b c d e f g h i j k m n o p q r s : AV, let l := lc_acceptT_ok a b c d e f g h i j; trim ((8,s)::(7,r)::(14,q)::(13,p)::(9,o)::(12,n)::(11,m)::(10,k)::l) l = [(0,a),(1,b),(2,c),(3,d),(5,e),(6,f),(7,r),(8,s),(15,i),(19,j)] := by intros; rfl
 refine R_nil (tr ..) ?_; clear tr
 refine then_n ?_
 refine at_seq rfl ?_
 refine at_block rfl ?_
 refine at_seq rfl ?_
 refine rg rfl ?_
 refine Rq ?_
 refine Rq ?_
 refine Rq ?_
 have tr : ∀ a b c d e f g h i j k m n : AV, let l := lc_acceptT_ok a b c d e f g h i j; trim ((15,n)::(17,m)::(16,k)::l) l = [(0,a),(1,b),(2,c),(3,d),(5,e),(6,f),(7,g),(8,h),(15,n),(19,j)] := by intros; rfl
 refine R_nil (tr ..) ?_; clear tr
 refine then_n ?_
 refine cdd (fun h1 => ?_) (fun h1 => ?_)
 ·
  try simp only [decide_eq_true_eq, decide_eq_false_iff_not, Bool.not_eq_true', Bool.not_eq_false', beq_iff_eq, beq_eq_false_iff_ne, ne_eq] at h1
  refine at_seq rfl ?_
  refine rg rfl ?_
  refine Rq ?_
  refine Rq ?_
  have tr : ∀ a b c d e f g h i j k m : AV, let l := lc_acceptT_ok a b c d e f g h i j; trim ((6,m)::(18,k)::l) l = [(0,a),(1,b),(2,c),(3,d),(5,e),(6,m),(7,g),(8,h),(15,i),(19,j)] := by intros; rfl
  refine R_nil (tr ..) ?_; clear tr
  refine then_n ?_
  refine at_ret rfl ?_
  refine blk_r ?_
  refine then_r ?_
  refine fpure ?_
  refine ⟨?_, rfl⟩
  rw [accS_e (by assumption)]
 ·
  try simp only [decide_eq_true_eq, decide_eq_false_iff_not, Bool.not_eq_true', Bool.not_eq_false', beq_iff_eq, beq_eq_false_iff_ne, ne_eq] at h1
  refine at_seq rfl ?_
  refine rg rfl ?_
  have hm0 : (mostS P L t).2 = 0 := by assumption
  obtain ⟨g, t0, t1⟩ := most_of hm0
  have hme := most_eq hm0
  have gel := g.el
  have hmr := most_rng (L := L) (g.pt t.toNat (by omega)).1 (g.pt t.toNat (by omega)).2 L.length
  rw [← hme] at hmr
  refine Rq ?_
  refine R_q rfl (by simp (disch := first | omega | (simp only [List.length_map, List.length_append, List.length_set, List.length_cons, List.length_nil]; omega)) only [go_sem, ↓reduceIte, Nat.reduceEqDiff, reduceCtorEq, q0, q5] <;> rfl) ?_
  refine Rq ?_
  have tr : ∀ a b c d e f g h i j k m n : AV, let l := lc_acceptT_ok a b c d e f g h i j; trim ((19,n)::(21,m)::(20,k)::l) l = [(0,a),(1,b),(2,c),(3,d),(5,e),(6,f),(7,g),(8,h),(15,i),(19,n)] := by intros; rfl
  refine R_nil (tr ..) ?_; clear tr
  refine then_n ?_
  refine cdd (fun h2 => ?_) (fun h2 => ?_)
  ·
   try simp only [decide_eq_true_eq, decide_eq_false_iff_not, Bool.not_eq_true', Bool.not_eq_false', beq_iff_eq, beq_eq_false_iff_ne, ne_eq] at h2
   refine at_seq rfl ?_
   refine rg rfl ?_
   refine R_q rfl (by simp (disch := first | omega | (simp only [List.length_map, List.length_append, List.length_set, List.length_cons, List.length_nil]; omega)) only [go_sem, ↓reduceIte, Nat.reduceEqDiff, reduceCtorEq, q0, q5] <;> rfl) ?_
   refine Rq ?_
   refine R_q rfl (by simp (disch := first | omega | (simp only [List.length_map, List.length_append, List.length_set, List.length_cons, List.length_nil]; omega)) only [go_sem, ↓reduceIte, Nat.reduceEqDiff, reduceCtorEq, q0, q5, hsa.stor, Bool.and_self] <;> rfl) ?_
   refine Rcall ?_
   refine ACall_eq (possible_ok _ _ P L t S R sa hsa g t0 t1 (by omega) (by omega)) ?_
   refine Rq ?_
   have tr : ∀ a b c d e f g h i j k m n o p : AV, let l := lc_acceptT_ok a b c d e f g h i j; trim ((6,p)::(25,o)::(24,n)::(23,m)::(22,k)::l) l = [(0,a),(1,b),(2,c),(3,d),(5,e),(6,p),(7,g),(8,h),(15,i),(19,j)] := by intros; rfl
   refine R_nil (tr ..) ?_; clear tr
   refine then_n ?_
   refine at_ret rfl ?_
   refine blk_r ?_
   refine then_r ?_
   refine fpure ?_
   refine ⟨?_, rfl⟩
   rw [accS_t hm0]
  ·
   try simp only [decide_eq_true_eq, decide_eq_false_iff_not, Bool.not_eq_true', Bool.not_eq_false', beq_iff_eq, beq_eq_false_iff_ne, ne_eq] at h2
   first | exact absurd rfl (by assumption) | simp_all

abbrev lc_acceptF_ok (a b c d e f g h i j : AV) : Env := [(0,a),(1,b),(2,c),(3,d),(5,e),(6,f),(7,g),(8,h),(15,i),(19,j)]
theorem acceptF_ok (lim : Nat) (H : Heap) (P : List Int) (L : List Pr) (t : Int) (S R : List Int) (ra : AV) (hra : IsA ra R) (hR : R.length ≤ 1000) (hS : S.length ≤ 1000) :
    ACall sig lim 32 [.agg (raceC P L), AV.i t, .agg [.v (.bool false), intsAV S, ra]] H fun r H' => r = AV.i (accS P L t false S R) ∧ H' = H := by
 have q0 : True := trivial
 have q5 : True := trivial
 refine ACall_pure (fa := fa32) rfl rfl rfl rfl ?_
 have tr : ∀ a0 a1 a2 : AV, env0 fa32.keep [a0, a1, a2] = [(0,a0),(1,a1),(2,a2),(3,.any),(5,.any),(6,.any),(7,.any),(8,.any),(15,.any),(19,.any)] := fun a0 a1 a2 => rfl
 refine W_to (tr _ _ _) ?_; clear tr
 refine at_seq rfl ?_
 refine rg rfl ?_
 refine A_box rfl (by simp (disch := first | omega | (simp only [List.length_map, List.length_append, List.length_set, List.length_cons, List.length_nil]; omega)) only [go_sem, ↓reduceIte, Nat.reduceEqDiff, reduceCtorEq] <;> rfl) ?_
 intro H1 n0
 have en0 := n0.len
 have q0 := n0.new
 refine A_box rfl (by simp (disch := first | omega | (simp only [List.length_map, List.length_append, List.length_set, List.length_cons, List.length_nil]; omega)) only [go_sem, ↓reduceIte, Nat.reduceEqDiff, reduceCtorEq, hra.stor, Bool.and_self] <;> rfl) ?_
 intro H2 n1
 have en1 := n1.len
 have q0 := (n1.old _ (hget_lt q0)).trans q0
 have q5 := n1.new
 refine Rq ?_
 have tr : ∀ a b c d e f g h i j k m n : AV, let l := lc_acceptF_ok a b c d e f g h i j; trim ((6,n)::(5,m)::(3,k)::l) l = [(0,a),(1,b),(2,c),(3,k),(5,m),(6,n),(7,g),(8,h),(15,i),(19,j)] := by intros; rfl
 refine R_nil (tr ..) ?_; clear tr
 refine then_n ?_
 refine at_seq rfl ?_
 refine rg rfl ?_
 refine R_q rfl (by simp (disch := first | omega | (simp only [List.length_map, List.length_append, List.length_set, List.length_cons, List.length_nil]; omega)) only [go_sem, ↓reduceIte, Nat.reduceEqDiff, reduceCtorEq, q0, q5] <;> rfl) ?_
 refine Rq ?_
 refine Rcall ?_
 refine ACall_eq (mst_ok _ _ P L t) ?_
 refine Rq ?_
 refine Rq ?_
 refine Rq ?_
 refine Rq ?_
 refine Rq ?_
 have tr : ∀ a b c d e f g h i j k m n o p q r s : AV, let l := lc_acceptF_ok a b c d e f g h i j; trim ((8,s)::(7,r)::(14,q)::(13,p)::(9,o)::(12,n)::(11,m)::(10,k)::l) l = [(0,a),(1,b),(2,c),(3,d),(5,e),(6,f),(7,r),(8,s),(15,i),(19,j)] := by intros; rfl
 refine R_nil (tr ..) ?_; clear tr
 refine then_n ?_
 refine at_seq rfl ?_
 refine at_block rfl ?_
 refine at_seq rfl ?_
 refine rg rfl ?_
 refine Rq ?_
 refine Rq ?_
 refine Rq ?_
 have tr : ∀ a b c d e f g h i j k m n : AV, let l := lc_acceptF_ok a b c d e f g h i j; trim ((15,n)::(17,m)::(16,k)::l) l = [(0,a),(1,b),(2,c),(3,d),(5,e),(6,f),(7,g),(8,h),(15,n),(19,j)] := by intros; rfl
 refine R_nil (tr ..) ?_; clear tr
 refine then_n ?_
 refine cdd (fun h1 => ?_) (fun h1 => ?_)
 ·
  try simp only [decide_eq_true_eq, decide_eq_false_iff_not, Bool.not_eq_true', Bool.not_eq_false', beq_iff_eq, beq_eq_false_iff_ne, ne_eq] at h1
  refine at_seq rfl ?_
  refine rg rfl ?_
  refine Rq ?_
  refine Rq ?_
  have tr : ∀ a b c d e f g h i j k m : AV, let l := lc_acceptF_ok a b c d e f g h i j; trim ((6,m)::(18,k)::l) l = [(0,a),(1,b),(2,c),(3,d),(5,e),(6,m),(7,g),(8,h),(15,i),(19,j)] := by intros; rfl
  refine R_nil (tr ..) ?_; clear tr
  refine then_n ?_
  refine at_ret rfl ?_
  refine blk_r ?_
  refine then_r ?_
  refine fpure ?_
  refine ⟨?_, rfl⟩
  rw [accS_e (by assumption)]
 ·
  try simp only [decide_eq_true_eq, decide_eq_false_iff_not, Bool.not_eq_true', Bool.not_eq_false', beq_iff_eq, beq_eq_false_iff_ne, ne_eq] at h1
  refine at_seq rfl ?_
  refine rg rfl ?_
  have hm0 : (mostS P L t).2 = 0 := by assumption
  obtain ⟨g, t0, t1⟩ := most_of hm0
  have hme := most_eq hm0
  have gel := g.el
  have hmr := most_rng (L := L) (g.pt t.toNat (by omega)).1 (g.pt t.toNat (by omega)).2 L.length
  rw [← hme] at hmr
  refine Rq ?_
  refine R_q rfl (by simp (disch := first | omega | (simp only [List.length_map, List.length_append, List.length_set, List.length_cons, List.length_nil]; omega)) only [go_sem, ↓reduceIte, Nat.reduceEqDiff, reduceCtorEq, q0, q5] <;> rfl) ?_
  refine Rq ?_
  have tr : ∀ a b c d e f g h i j k m n : AV, let l := lc_acceptF_ok a b c d e f g h i j; trim ((19,n)::(21,m)::(20,k)::l) l = [(0,a),(1,b),(2,c),(3,d),(5,e),(6,f),(7,g),(8,h),(15,i),(19,n)] := by intros; rfl
  refine R_nil (tr ..) ?_; clear tr
  refine then_n ?_
  refine cdd (fun h2 => ?_) (fun h2 => ?_)
  ·
   try simp only [decide_eq_true_eq, decide_eq_false_iff_not, Bool.not_eq_true', Bool.not_eq_false', beq_iff_eq, beq_eq_false_iff_ne, ne_eq] at h2
   first | exact absurd rfl (by assumption) | simp_all
  ·
   try simp only [decide_eq_true_eq, decide_eq_false_iff_not, Bool.not_eq_true', Bool.not_eq_false', beq_iff_eq, beq_eq_false_iff_ne, ne_eq] at h2
   refine at_skip rfl ?_
   refine blk_n ?_
   refine then_n ?_
   refine at_seq rfl ?_
   refine rg rfl ?_
   refine R_q rfl (by simp (disch := first | omega | (simp only [List.length_map, List.length_append, List.length_set, List.length_cons, List.length_nil]; omega)) only [go_sem, ↓reduceIte, Nat.reduceEqDiff, reduceCtorEq, q0, q5] <;> rfl) ?_
   refine Rq ?_
   refine Rq ?_
   refine R_q rfl (by simp (disch := first | omega | (simp only [List.length_map, List.length_append, List.length_set, List.length_cons, List.length_nil]; omega)) only [go_sem, ↓reduceIte, Nat.reduceEqDiff, reduceCtorEq, q0, q5, hra.stor, Bool.and_self] <;> rfl) ?_
   refine Rcall ?_
   refine ACall_eq (elim_ok _ _ P L t _ S R ra hra g t0 t1 (by omega) (by omega) (by omega) (by omega)) ?_
   refine Rq ?_
   have tr : ∀ a b c d e f g h i j k m n o p q : AV, let l := lc_acceptF_ok a b c d e f g h i j; trim ((6,q)::(30,p)::(29,o)::(28,n)::(27,m)::(26,k)::l) l = [(0,a),(1,b),(2,c),(3,d),(5,e),(6,q),(7,g),(8,h),(15,i),(19,j)] := by intros; rfl
   refine R_nil (tr ..) ?_; clear tr
   refine then_n ?_
   refine at_ret rfl ?_
   refine fpure ?_
   refine ⟨?_, rfl⟩
   rw [accS_f hm0]

end Go.Proofs.Ytdicnojnkbmdlaa
end
section
set_option linter.unusedVariables false
namespace Go.Proofs.Ytdicnojnkbmdlaa
open Go Go.Am
theorem accept_first (lim : Nat) (H : Heap) (P : List Int) (L : List Pr) (t : Int) (hm : (mostS P L t).2 = 0) {R : List Int} {o : AV} (h : (firstB P L t = false ∧ R = [] ∧ o = nilP) ∨ (firstB P L t = true ∧ o = intsAV R ∧ VR P L t R)) :
    ACall sig lim 32 [.agg (raceC P L), AV.i t, .agg [.v (.bool (firstB P L t)), outA (firstS P L t), o]] H fun r H' => r = AV.i 0 ∧ H' = H := by
  obtain ⟨g, t0, t1⟩ := most_of hm
  have g20 := g.n20
  have gel := g.el
  have hS := firstS_len P L t (by omega)
  rcases h with ⟨h1, rfl, rfl⟩ | ⟨h1, rfl, h2⟩
  · have h3 := first_acc_f hm h1
    have h4 : 0 < (firstS P L t).length := by
      rw [accS_f hm, elimS] at h3
      split at h3
      · cases h3
      · rename_i h5
        exact Nat.pos_of_ne_zero fun hh => h5 (.inr (.inl hh))
    have := acceptF_ok lim H P L t (firstS P L t) [] nilP (.inr ⟨rfl, rfl⟩) (by simp) (by omega)
    rw [h3] at this
    rw [h1, outA_at h4]
    exact this
  · have h3 := first_acc_t hm h1 h2
    have h4 := h2.2.1
    have := acceptT_ok lim H P L t (firstS P L t) R _ (isA_out _) (by omega) (by omega)
    rw [h3] at this
    rw [h1]
    exact this
theorem accept_firstb (lim : Nat) (H : Heap) (P : List Int) (L : List Pr) (t : Int) (b : Bool) (hb : firstB P L t = b) (hm : (mostS P L t).2 = 0) {R : List Int} {o : AV} (h : (firstB P L t = false ∧ R = [] ∧ o = nilP) ∨ (firstB P L t = true ∧ o = intsAV R ∧ VR P L t R)) :
    ACall sig lim 32 [.agg (raceC P L), AV.i t, .agg [.v (.bool b), outA (firstS P L t), o]] H fun r H' => r = AV.i 0 ∧ H' = H := by
  subst hb
  exact accept_first lim H P L t hm h
theorem most_chk {P : List Int} {L : List Pr} {t : Int} (h : (mostS P L t).2 = 0) : rchkS P L = 0 := by
  unfold mostS at h
  split at h
  · rename_i h8; exact absurd h h8
  · rename_i h8; exact Decidable.not_not.mp h8
theorem playE_0 {P : List Int} {L : List Pr} {R : List Int} (h : playE P L R = 0) : rchkS P L = 0 ∧ R.length = L.length ∧ resOK R := by
  rw [playE] at h
  split at h
  · rename_i h1; exact absurd h h1
  split at h
  · cases h
  split at h
  · cases h
  rename_i h1 h2 h3
  exact ⟨Decidable.not_not.mp h1, Decidable.not_not.mp h2, Classical.not_not.mp h3⟩
theorem le_on {o : List Int} {x : Int} {i : Nat} {full : Bool} (hf : full = true ↔ ∀ k, k < i → gt o k ≤ x) (h : full = true) : decide (gt o i ≤ x) = true ↔ ∀ k, k < i + 1 → gt o k ≤ x := by
  rw [decide_eq_true_eq]
  refine ⟨fun he k hk => ?_, fun hh => hh i (by omega)⟩
  by_cases hki : k = i
  · subst hki; exact he
  · exact hf.1 h k (by omega)
theorem le_off {o : List Int} {x : Int} {i : Nat} {full : Bool} (hf : full = true ↔ ∀ k, k < i → gt o k ≤ x) (h : full = false) : (false = true) ↔ ∀ k, k < i + 1 → gt o k ≤ x := by
  constructor
  · intro hh; cases hh
  · intro hh; rw [← h]; exact hf.2 fun k hk => hh k (by omega)
theorem play_true {P : List Int} {L : List Pr} {t : Int} {R : List Int} (hV : VR P L t R) {first : Bool} (hf : first = true ↔ ∀ k, k < P.length → gt (playN P L R L.length) k ≤ gt (playN P L R L.length) t.toNat) : first = true := hf.2 hV.2.2.1
theorem play_false {P : List Int} {L : List Pr} {t : Int} {R X : List Int} {o : AV} (hm : (mostS P L t).2 = 0) (hv : (firstB P L t = false ∧ R = [] ∧ o = nilP) ∨ (firstB P L t = true ∧ o = intsAV R ∧ VR P L t R)) (hfb : firstB P L t = false) (h1 : X.length = L.length) (h2 : resOK X) {first : Bool} (hf : first = true ↔ ∀ k, k < P.length → gt (playN P L X L.length) k ≤ gt (playN P L X L.length) t.toNat) : first = false := by
  cases hfi : first with
  | false => rfl
  | true =>
    have h3 : canBe P L t := ⟨X, h1, h2, hf.1 hfi⟩
    rw [← first_can hm hv, hfb] at h3
    cases h3
end Go.Proofs.Ytdicnojnkbmdlaa
end
section
set_option linter.unusedVariables false
namespace Go.Proofs.Ytdicnojnkbmdlaa
open Go Go.Am
/-- The points after one match. -/
def step1 (P : List Int) (m : Pr) (x : Int) : List Int := (P.set m.a.toNat (gt P m.a.toNat + x)).set m.b.toNat (gt (P.set m.a.toNat (gt P m.a.toNat + x)) m.b.toNat + (2 - x))
theorem step1_len (P : List Int) (m : Pr) (x : Int) : (step1 P m x).length = P.length := by simp [step1]
theorem play_cons (P : List Int) (m : Pr) (L : List Pr) (x : Int) (R : List Int) : ∀ u, playN P (m :: L) (x :: R) (u + 1) = playN (step1 P m x) L R u
  | 0 => rfl
  | u + 1 => by
    rw [playN, play_cons P m L x R u, playN]
    rfl
def allBe (P : List Int) (L : List Pr) (t : Int) : Prop := ∀ R : List Int, R.length = L.length → resOK R → ∀ k, k < P.length → gt (playN P L R L.length) k ≤ gt (playN P L R L.length) t.toNat
theorem can_nil {P : List Int} {t : Int} : canBe P [] t ↔ ∀ k, k < P.length → gt P k ≤ gt P t.toNat := by
  constructor
  · rintro ⟨R, _, _, h⟩; exact h
  · intro h; exact ⟨[], rfl, fun i hi => by simp at hi, h⟩
theorem all_nil {P : List Int} {t : Int} : allBe P [] t ↔ ∀ k, k < P.length → gt P k ≤ gt P t.toNat := by
  constructor
  · intro h; exact h [] rfl fun i hi => by simp at hi
  · intro h R _ _; exact h
theorem res_cons {x : Int} {R : List Int} (h : resOK (x :: R)) : (0 ≤ x ∧ x ≤ 2) ∧ resOK R := ⟨h 0 (by simp), fun i hi => h (i + 1) (by simp; omega)⟩
theorem res_cons' {x : Int} {R : List Int} (h1 : 0 ≤ x ∧ x ≤ 2) (h : resOK R) : resOK (x :: R) := fun i hi => by
  cases i with
  | zero => exact h1
  | succ i => exact h i (by simp at hi; omega)
theorem can_cons {P : List Int} {m : Pr} {L : List Pr} {t : Int} : canBe P (m :: L) t ↔ ∃ x : Nat, x < 3 ∧ canBe (step1 P m x) L t := by
  constructor
  · rintro ⟨R, h1, h2, h3⟩
    cases R with
    | nil => simp at h1
    | cons x R =>
      have h4 := res_cons h2
      refine ⟨x.toNat, by omega, R, by simpa using h1, h4.2, fun k hk => ?_⟩
      rw [step1_len] at hk
      have := h3 k hk
      rw [show (m :: L).length = L.length + 1 from rfl, play_cons] at this
      rwa [show ((x.toNat : Nat) : Int) = x by omega]
  · rintro ⟨x, hx, R, h1, h2, h3⟩
    refine ⟨(x : Int) :: R, by simp [h1], res_cons' (by omega) h2, fun k hk => ?_⟩
    rw [show (m :: L).length = L.length + 1 from rfl, play_cons]
    exact h3 k (by rw [step1_len]; exact hk)
theorem all_cons {P : List Int} {m : Pr} {L : List Pr} {t : Int} : allBe P (m :: L) t ↔ ∀ x : Nat, x < 3 → allBe (step1 P m x) L t := by
  constructor
  · intro h x hx R h1 h2 k hk
    have := h ((x : Int) :: R) (by simp [h1]) (res_cons' (by omega) h2) k (by rw [step1_len] at hk; exact hk)
    rwa [show (m :: L).length = L.length + 1 from rfl, play_cons] at this
  · intro h R h1 h2 k hk
    cases R with
    | nil => simp at h1
    | cons x R =>
      have h4 := res_cons h2
      have := h x.toNat (by omega) R (by simpa using h1) h4.2 k (by rw [step1_len]; exact hk)
      rw [show (m :: L).length = L.length + 1 from rfl, play_cons]
      rwa [show ((x.toNat : Nat) : Int) = x by omega] at this
theorem pass_iff {P : List Int} {L : List Pr} {t : Int} : ∀ n, passN P L t n = -1 ↔ ∀ k : Nat, k < n → (k : Int) ≠ t → mostN P L k L.length ≤ gt P t.toNat
  | 0 => ⟨fun _ k hk => by omega, fun _ => rfl⟩
  | n + 1 => by
    have ih := pass_iff (P := P) (L := L) (t := t) n
    rw [passN]
    by_cases h : passN P L t n = -1
    · rw [if_neg (fun hh => hh h)]
      by_cases h2 : (n : Int) ≠ t ∧ gt P t.toNat < mostN P L n L.length
      · rw [if_pos h2]
        exact ⟨fun hh => by omega, fun hh => by have := hh n (by omega) h2.1; omega⟩
      · rw [if_neg h2]
        refine ⟨fun _ k hk hkt => ?_, fun _ => rfl⟩
        by_cases hkn : k = n
        · subst hkn; have : ¬ gt P t.toNat < mostN P L k L.length := fun hh => h2 ⟨hkt, hh⟩; omega
        · exact ih.1 h k (by omega) hkt
    · rw [if_pos h]
      exact ⟨fun hh => absurd hh h, fun hh => absurd (ih.2 fun k hk hkt => hh k (by omega) hkt) h⟩
/-- One team wins all its matches, another one loses all its other ones. -/
def winR (k t : Int) (L : List Pr) : List Int := L.map fun m => if m.a = k then 2 else if m.b = k then 0 else if m.a = t then 0 else 2
theorem winR_gt {k t : Int} {L : List Pr} {u : Nat} (h : u < L.length) : gt (winR k t L) u = if (gt L u).a = k then 2 else if (gt L u).b = k then 0 else if (gt L u).a = t then 0 else 2 := by
  rw [gt_eq _ _ (by simpa [winR] using h), gt_eq _ _ h]
  simp [winR]
theorem win_k {P : List Int} {L : List Pr} (g : ROK P L) {k : Nat} {t : Int} : ∀ u, u ≤ L.length → gt (playN P L (winR k t L) u) k = mostN P L k u
  | 0, _ => by rw [playN, mostN]; rfl
  | u + 1, h => by
    have ih := win_k g (k := k) (t := t) u (by omega)
    have e := g.ed u (by omega)
    rw [play_step g _ (by omega), ih, mostN, winR_gt (by omega)]
    by_cases ha : (gt L u).a = k <;> by_cases hb : (gt L u).b = k
    · omega
    · rw [if_pos ha, if_pos ha, if_neg hb, if_pos (.inl ha)]; omega
    · rw [if_neg ha, if_neg ha, if_pos hb, if_pos hb, if_pos (.inr hb)]; omega
    · rw [if_neg ha, if_neg hb, if_neg (by omega)]; omega
theorem win_t {P : List Int} {L : List Pr} (g : ROK P L) {k : Nat} {t : Int} (t0 : 0 ≤ t) (hkt : (k : Int) ≠ t) : ∀ u, u ≤ L.length → gt (playN P L (winR k t L) u) t.toNat = gt P t.toNat
  | 0, _ => rfl
  | u + 1, h => by
    have ih := win_t g t0 hkt u (by omega)
    have e := g.ed u (by omega)
    rw [play_step g _ (by omega), ih, winR_gt (by omega)]
    repeat' split
    all_goals omega
theorem play_most {P : List Int} {L : List Pr} (g : ROK P L) {R : List Int} (hl : R.length = L.length) (hr : resOK R) (k : Nat) : ∀ u, u ≤ L.length → gt (playN P L R u) k ≤ mostN P L k u := fun u hu => by
  have := play_goal g hl hr (t := (k : Int)) (by omega) u hu
  rwa [Int.toNat_natCast] at this
/-- A team is through, exactly if it is first with all results. -/
theorem thru_all {P : List Int} {L : List Pr} {t : Int} (g : ROK P L) (t0 : 0 ≤ t) (t1 : t < P.length) : passN P L t P.length = -1 ↔ allBe P L t := by
  rw [pass_iff]
  constructor
  · intro h R h1 h2 k hk
    by_cases hkt : (k : Int) = t
    · rw [show k = t.toNat by omega]; exact Int.le_refl _
    · have a := play_most g h1 h2 k L.length (Nat.le_refl _)
      have b := play_up g h1 h2 t.toNat L.length (Nat.le_refl _)
      have c := h k hk hkt
      omega
  · intro h k hk hkt
    have a := h (winR k t L) (by simp [winR]) (fun i hi => by
      rw [winR_gt (by simpa [winR] using hi)]
      split
      · omega
      split
      · omega
      split <;> omega) k hk
    rw [win_k g L.length (Nat.le_refl _), win_t g t0 hkt L.length (Nat.le_refl _)] at a
    exact a
open Classical in
noncomputable def canB (P : List Int) (L : List Pr) (t : Int) : Bool := decide (canBe P L t)
open Classical in
noncomputable def allB (P : List Int) (L : List Pr) (t : Int) : Bool := decide (allBe P L t)
theorem canB_iff (P : List Int) (L : List Pr) (t : Int) : canB P L t = true ↔ canBe P L t := by
  unfold canB
  exact @decide_eq_true_iff _ (Classical.propDecidable _)
theorem allB_iff (P : List Int) (L : List Pr) (t : Int) : allB P L t = true ↔ allBe P L t := by
  unfold allB
  exact @decide_eq_true_iff _ (Classical.propDecidable _)
theorem some_on {P : List Int} {m : Pr} {L : List Pr} {t : Int} {x : Nat} {s b : Bool} (hs : s = true ↔ ∃ y, y < x ∧ canBe (step1 P m (y : Nat)) L t) (hb : b = canB (step1 P m x) L t) : (s || b) = true ↔ ∃ y, y < x + 1 ∧ canBe (step1 P m (y : Nat)) L t := by
  rw [Bool.or_eq_true, hs, hb, canB_iff]
  constructor
  · rintro (⟨y, h1, h2⟩ | h)
    · exact ⟨y, by omega, h2⟩
    · exact ⟨x, by omega, h⟩
  · rintro ⟨y, h1, h2⟩
    by_cases hy : y = x
    · subst hy; exact .inr h2
    · exact .inl ⟨y, by omega, h2⟩
theorem all_on {P : List Int} {m : Pr} {L : List Pr} {t : Int} {x : Nat} {s b : Bool} (hs : s = true ↔ ∀ y, y < x → allBe (step1 P m (y : Nat)) L t) (hb : b = allB (step1 P m x) L t) : (s && b) = true ↔ ∀ y, y < x + 1 → allBe (step1 P m (y : Nat)) L t := by
  rw [Bool.and_eq_true, hs, hb, allB_iff]
  constructor
  · rintro ⟨h1, h2⟩ y hy
    by_cases hyx : y = x
    · subst hyx; exact h2
    · exact h1 y (by omega)
  · intro h
    exact ⟨fun y hy => h y (by omega), h x (by omega)⟩
theorem slP (m : Pr) (L : List Pr) : sliceV Try.prog 41 (prsAV (m :: L)) (some (AV.i 1)) none = some (prsAV L) := by
  simp only [sliceV, tk41, ty58, bound]
  rw [if_pos ⟨by omega, by simp; omega, Int.le_refl _⟩]
  simp [flatP]
end Go.Proofs.Ytdicnojnkbmdlaa
end
section
set_option linter.unusedVariables false
namespace Go.Proofs.Ytdicnojnkbmdlaa
open Go Go.Am
section
variable {P : List Int} {m : Pr} {L : List Pr} {t : Int} {x : Nat} {s : Bool}
theorem some_t (hs : s = true ↔ ∃ y, y < x ∧ canBe (step1 P m (y : Nat)) L t) (h : s = true) : true = true ↔ ∃ y, y < x + 1 ∧ canBe (step1 P m (y : Nat)) L t := by
  refine ⟨fun _ => ?_, fun _ => rfl⟩
  obtain ⟨y, h1, h2⟩ := hs.1 h
  exact ⟨y, by omega, h2⟩
theorem some_f (hs : s = true ↔ ∃ y, y < x ∧ canBe (step1 P m (y : Nat)) L t) (h : s = false) : canB (step1 P m x) L t = true ↔ ∃ y, y < x + 1 ∧ canBe (step1 P m (y : Nat)) L t := by
  have := some_on hs (b := canB (step1 P m x) L t) rfl
  rwa [h, Bool.false_or] at this
theorem all_t (hs : s = true ↔ ∀ y, y < x → allBe (step1 P m (y : Nat)) L t) (h : s = true) : allB (step1 P m x) L t = true ↔ ∀ y, y < x + 1 → allBe (step1 P m (y : Nat)) L t := by
  have := all_on hs (b := allB (step1 P m x) L t) rfl
  rwa [h, Bool.true_and] at this
theorem all_f (hs : s = true ↔ ∀ y, y < x → allBe (step1 P m (y : Nat)) L t) (h : s = false) : false = true ↔ ∀ y, y < x + 1 → allBe (step1 P m (y : Nat)) L t := by
  constructor
  · intro hh; cases hh
  · intro hh; rw [← h]; exact hs.2 fun y hy => hh y (by omega)
end
end Go.Proofs.Ytdicnojnkbmdlaa
end
section
set_option linter.unusedSimpArgs false
set_option linter.unusedVariables false
set_option maxHeartbeats 40000000
set_option maxRecDepth 4000
namespace Go.Proofs.Ytdicnojnkbmdlaa
open Go Go.Am

abbrev lc_ends_nil (a b c d e f g h i j k m n o p q r : AV) : Env := [(0,a),(1,b),(2,c),(6,d),(7,e),(8,f),(10,g),(11,h),(12,i),(13,j),(14,k),(17,m),(18,n),(19,o),(20,p),(21,q),(37,r)]
theorem ends_nil (lim : Nat) (H : Heap) (P : List Int) (t : Int) (x : AV) (hx : frz H 0 8 x = intsAV P) (hP : P.length ≤ 20) (t0 : 0 ≤ t) (t1 : t < P.length) :
    ACall sig lim 31 [x, prsAV [], AV.i t] H fun r H' => r = .tup [.v (.bool (canB P [] t)), .v (.bool (allB P [] t))] ∧ H' = H := by
 have hargs : [x, prsAV [], AV.i t].map (frz H 0 8) = [intsAV P, prsAV [], AV.i t] := by
   show [frz H 0 8 x, _, _] = _
   rw [hx]; rfl
 refine ACall_data (fa := fa31) rfl rfl rfl rfl hargs ?_
 have tr : ∀ a0 a1 a2 : AV, env0 fa31.keep [a0, a1, a2] = [(0,a0),(1,a1),(2,a2),(6,.any),(7,.any),(8,.any),(10,.any),(11,.any),(12,.any),(13,.any),(14,.any),(17,.any),(18,.any),(19,.any),(20,.any),(21,.any),(37,.any)] := fun a0 a1 a2 => rfl
 refine W_to (tr _ _ _) ?_; clear tr
 refine at_seq rfl ?_
 refine rg rfl ?_
 refine Rq ?_
 refine Rq ?_
 have tr : ∀ a b c d e f g h i j k m n o p q r s t : AV, let l := lc_ends_nil a b c d e f g h i j k m n o p q r; trim ((7,t)::(6,s)::l) l = [(0,a),(1,b),(2,c),(6,s),(7,t),(8,f),(10,g),(11,h),(12,i),(13,j),(14,k),(17,m),(18,n),(19,o),(20,p),(21,q),(37,r)] := by intros; rfl
 refine R_nil (tr ..) ?_; clear tr
 refine then_n ?_
 refine at_seq rfl ?_
 refine at_seq rfl ?_
 refine rg rfl ?_
 refine Rq ?_
 refine Rq ?_
 refine Rq ?_
 have tr : ∀ a b c d e f g h i j k m n o p q r s t u : AV, let l := lc_ends_nil a b c d e f g h i j k m n o p q r; trim ((17,u)::(16,t)::(15,s)::l) l = [(0,a),(1,b),(2,c),(6,d),(7,e),(8,f),(10,g),(11,h),(12,i),(13,j),(14,k),(17,u),(18,n),(19,o),(20,p),(21,q),(37,r)] := by intros; rfl
 refine R_nil (tr ..) ?_; clear tr
 refine then_n ?_
 refine cdd (fun h1 => ?_) (fun h1 => ?_)
 ·
  try simp only [decide_eq_true_eq, decide_eq_false_iff_not, Bool.not_eq_true', Bool.not_eq_false', beq_iff_eq, beq_eq_false_iff_ne, ne_eq] at h1
  refine at_seq rfl ?_
  refine rg rfl ?_
  refine Rq ?_
  have tr : ∀ a b c d e f g h i j k m n o p q r s : AV, let l := lc_ends_nil a b c d e f g h i j k m n o p q r; trim ((8,s)::l) l = [(0,a),(1,b),(2,c),(6,d),(7,e),(8,s),(10,g),(11,h),(12,i),(13,j),(14,k),(17,m),(18,n),(19,o),(20,p),(21,q),(37,r)] := by intros; rfl
  refine R_nil (tr ..) ?_; clear tr
  refine then_n ?_
  refine at_seq rfl ?_
  refine at_seq rfl ?_
  refine rg rfl ?_
  refine Rq ?_
  refine Rq ?_
  refine Rq ?_
  have tr : ∀ a b c d e f g h i j k m n o p q r s t u : AV, let l := lc_ends_nil a b c d e f g h i j k m n o p q r; trim ((20,u)::(19,t)::(18,s)::l) l = [(0,a),(1,b),(2,c),(6,d),(7,e),(8,f),(10,g),(11,h),(12,i),(13,j),(14,k),(17,m),(18,s),(19,t),(20,u),(21,q),(37,r)] := by intros; rfl
  refine R_nil (tr ..) ?_; clear tr
  refine then_n ?_
  refine at_block rfl ?_
  refine loop_n rfl (fun mm kv H' => ∃ w : Nat, ∃ first : Bool, ∃ x10 x21 : AV, (kv = [(8, AV.b first), (10, x10), (20, AV.i w), (21, x21)]) ∧ (mm = P.length - w) ∧ (H' = []) ∧ (w ≤ P.length) ∧ ((first = true ↔ ∀ k, k < w → gt P k ≤ gt P t.toNat))) ⟨0, true, _, _, rfl, rfl, rfl, by omega, by exact ⟨fun _ k hk => by omega, fun _ => rfl⟩⟩ (by rfl) ?_
  rintro mm kv H' ⟨w, first, x10, x21, rfl, rfl, rfl, hw, hf⟩
  have tr : ∀ a b c d e f g h i j k m n o p q r s t u v : AV, upd [(0,a),(1,b),(2,c),(6,d),(7,e),(8,f),(10,g),(11,h),(12,i),(13,j),(14,k),(17,m),(18,n),(19,o),(20,p),(21,q),(37,r)] [(8,s),(10,t),(20,u),(21,v)] = [(0,a),(1,b),(2,c),(6,d),(7,e),(8,s),(10,t),(11,h),(12,i),(13,j),(14,k),(17,m),(18,n),(19,o),(20,u),(21,v),(37,r)] := by intros; rfl
  refine W_to (tr ..) ?_; clear tr
  refine at_seq rfl ?_
  refine rg rfl ?_
  refine Rq ?_
  have tr : ∀ a b c d e f g h i j k m n o p q r s : AV, let l := lc_ends_nil a b c d e f g h i j k m n o p q r; trim ((21,s)::l) l = [(0,a),(1,b),(2,c),(6,d),(7,e),(8,f),(10,g),(11,h),(12,i),(13,j),(14,k),(17,m),(18,n),(19,o),(20,p),(21,s),(37,r)] := by intros; rfl
  refine R_nil (tr ..) ?_; clear tr
  refine then_n ?_
  refine at_seq rfl ?_
  refine cdd (fun h2 => ?_) (fun h2 => ?_)
  ·
   try simp only [decide_eq_true_eq, decide_eq_false_iff_not, Bool.not_eq_true', Bool.not_eq_false', beq_iff_eq, beq_eq_false_iff_ne, ne_eq] at h2
   refine at_skip rfl ?_
   refine then_n ?_
   refine at_seq rfl ?_
   refine at_block rfl ?_
   refine at_seq rfl ?_
   refine rg rfl ?_
   refine Rq ?_
   refine Rq ?_
   refine Rq ?_
   have tr : ∀ a b c d e f g h i j k m n o p q r s t u : AV, let l := lc_ends_nil a b c d e f g h i j k m n o p q r; trim ((10,u)::(23,t)::(22,s)::l) l = [(0,a),(1,b),(2,c),(6,d),(7,e),(8,f),(10,u),(11,h),(12,i),(13,j),(14,k),(17,m),(18,n),(19,o),(20,p),(21,q),(37,r)] := by intros; rfl
   refine R_nil (tr ..) ?_; clear tr
   refine then_n ?_
   refine rg rfl ?_
   refine Rq ?_
   refine Rq ?_
   refine Rp_split (fun h3 => ?_) (fun h3 => ?_)
   ·
    try simp only [decide_eq_true_eq, decide_eq_false_iff_not, Bool.not_eq_true', Bool.not_eq_false', beq_iff_eq, beq_eq_false_iff_ne, ne_eq] at h3
    refine Ry ?_
    refine Rq ?_
    refine Ry ?_
    refine Rq ?_
    refine Ry ?_
    refine Rq ?_
    refine Ry ?_
    refine Rq ?_
    refine Ry ?_
    refine Rq ?_
    refine Ry ?_
    refine Rq ?_
    refine Rq ?_
    refine Rq ?_
    have tr : ∀ a b c d e f g h i j k m n o p q r s t u v w x y z A B : AV, let l := lc_ends_nil a b c d e f g h i j k m n o p q r; trim ((8,B)::(32,A)::(31,z)::(30,y)::(29,x)::(28,w)::(27,v)::(26,u)::(25,t)::(24,s)::l) l = [(0,a),(1,b),(2,c),(6,d),(7,e),(8,B),(10,g),(11,h),(12,i),(13,j),(14,k),(17,m),(18,n),(19,o),(20,p),(21,q),(37,r)] := by intros; rfl
    refine R_nil (tr ..) ?_; clear tr
    refine blk_n ?_
    refine then_n ?_
    refine rg rfl ?_
    refine Rq ?_
    refine Rq ?_
    have tr : ∀ a b c d e f g h i j k m n o p q r s t : AV, let l := lc_ends_nil a b c d e f g h i j k m n o p q r; trim ((20,t)::(33,s)::l) l = [(0,a),(1,b),(2,c),(6,d),(7,e),(8,f),(10,g),(11,h),(12,i),(13,j),(14,k),(17,m),(18,n),(19,o),(20,t),(21,q),(37,r)] := by intros; rfl
    refine R_nil (tr ..) ?_; clear tr
    refine then_n ?_
    exact ⟨_, _, ⟨w + 1, _, _, _, rfl, rfl, rfl, by omega, by first | exact le_on hf (by assumption) | exact le_off hf (by assumption)⟩, by rfl, by omega⟩
   ·
    try simp only [decide_eq_true_eq, decide_eq_false_iff_not, Bool.not_eq_true', Bool.not_eq_false', beq_iff_eq, beq_eq_false_iff_ne, ne_eq] at h3
    refine Rn ?_
    refine Rn ?_
    refine Rn ?_
    refine Rn ?_
    refine Rn ?_
    refine Rn ?_
    refine Rq ?_
    refine Rq ?_
    have tr : ∀ a b c d e f g h i j k m n o p q r s t u v w x y z A B : AV, let l := lc_ends_nil a b c d e f g h i j k m n o p q r; trim ((8,B)::(32,A)::(31,z)::(30,y)::(29,x)::(28,w)::(27,v)::(26,u)::(25,t)::(24,s)::l) l = [(0,a),(1,b),(2,c),(6,d),(7,e),(8,B),(10,g),(11,h),(12,i),(13,j),(14,k),(17,m),(18,n),(19,o),(20,p),(21,q),(37,r)] := by intros; rfl
    refine R_nil (tr ..) ?_; clear tr
    refine blk_n ?_
    refine then_n ?_
    refine rg rfl ?_
    refine Rq ?_
    refine Rq ?_
    have tr : ∀ a b c d e f g h i j k m n o p q r s t : AV, let l := lc_ends_nil a b c d e f g h i j k m n o p q r; trim ((20,t)::(33,s)::l) l = [(0,a),(1,b),(2,c),(6,d),(7,e),(8,f),(10,g),(11,h),(12,i),(13,j),(14,k),(17,m),(18,n),(19,o),(20,t),(21,q),(37,r)] := by intros; rfl
    refine R_nil (tr ..) ?_; clear tr
    refine then_n ?_
    exact ⟨_, _, ⟨w + 1, _, _, _, rfl, rfl, rfl, by omega, by first | exact le_on hf (by assumption) | exact le_off hf (by assumption)⟩, by rfl, by omega⟩
  ·
   try simp only [decide_eq_true_eq, decide_eq_false_iff_not, Bool.not_eq_true', Bool.not_eq_false', beq_iff_eq, beq_eq_false_iff_ne, ne_eq] at h2
   refine at_exit rfl ?_
   refine then_x ?_
   refine then_x ?_
   refine blk_x ?_
   refine then_n ?_
   refine at_seq rfl ?_
   refine rg rfl ?_
   refine Rq ?_
   refine Rq ?_
   refine Rq ?_
   refine Rq ?_
   have tr : ∀ a b c d e f g h i j k m n o p q r s t u v : AV, let l := lc_ends_nil a b c d e f g h i j k m n o p q r; trim ((7,v)::(6,u)::(35,t)::(34,s)::l) l = [(0,a),(1,b),(2,c),(6,u),(7,v),(8,f),(10,g),(11,h),(12,i),(13,j),(14,k),(17,m),(18,n),(19,o),(20,p),(21,q),(37,r)] := by intros; rfl
   refine R_nil (tr ..) ?_; clear tr
   refine then_n ?_
   refine at_ret rfl ?_
   refine then_r ?_
   have hfe : first = canB P [] t ∧ first = allB P [] t := by
     rw [show w = P.length by omega] at hf
     exact ⟨by rw [Bool.eq_iff_iff, hf, canB_iff, can_nil], by rw [Bool.eq_iff_iff, hf, allB_iff, all_nil]⟩
   refine fpure ?_
   refine ⟨rfl, ?_, rfl⟩
   rw [← hfe.1, ← hfe.2]
 ·
  try simp only [decide_eq_true_eq, decide_eq_false_iff_not, Bool.not_eq_true', Bool.not_eq_false', beq_iff_eq, beq_eq_false_iff_ne, ne_eq] at h1
  exact absurd rfl (by assumption)

abbrev lc_ends_cons (a b c d e f g h i j k m n o p q r : AV) : Env := [(0,a),(1,b),(2,c),(6,d),(7,e),(8,f),(10,g),(11,h),(12,i),(13,j),(14,k),(17,m),(18,n),(19,o),(20,p),(21,q),(37,r)]
theorem ends_cons (lim : Nat) (H : Heap) (P : List Int) (m : Pr) (L : List Pr) (t : Int) (x : AV) (hx : frz H 0 8 x = intsAV P) (hP : P.length ≤ 20) (t0 : 0 ≤ t) (t1 : t < P.length) (hm : 0 ≤ m.a ∧ m.a < P.length ∧ 0 ≤ m.b ∧ m.b < P.length) (hr : ∀ i, 0 ≤ gt P i ∧ gt P i ≤ 1000000)
    (IH : ∀ (lim : Nat) (H : Heap) (y : Nat) (z : AV), y < 3 → frz H 0 8 z = intsAV (step1 P m y) → ACall sig lim 31 [z, prsAV L, AV.i t] H fun r H' => r = .tup [.v (.bool (canB (step1 P m y) L t)), .v (.bool (allB (step1 P m y) L t))] ∧ H' = H) :
    ACall sig lim 31 [x, prsAV (m :: L), AV.i t] H fun r H' => r = .tup [.v (.bool (canB P (m :: L) t)), .v (.bool (allB P (m :: L) t))] ∧ H' = H := by
 have hargs : [x, prsAV (m :: L), AV.i t].map (frz H 0 8) = [intsAV P, prsAV (m :: L), AV.i t] := by
   show [frz H 0 8 x, AV.sl _ ((flatP (m :: L)).map (frz H 0 7)), _] = _
   rw [hx, frz_prs]; rfl
 have h1 := hr m.a.toNat
 have qp : True := trivial
 refine ACall_data (fa := fa31) rfl rfl rfl rfl hargs ?_
 have tr : ∀ a0 a1 a2 : AV, env0 fa31.keep [a0, a1, a2] = [(0,a0),(1,a1),(2,a2),(6,.any),(7,.any),(8,.any),(10,.any),(11,.any),(12,.any),(13,.any),(14,.any),(17,.any),(18,.any),(19,.any),(20,.any),(21,.any),(37,.any)] := fun a0 a1 a2 => rfl
 refine W_to (tr _ _ _) ?_; clear tr
 refine at_seq rfl ?_
 refine rg rfl ?_
 refine Rq ?_
 refine Rq ?_
 have tr : ∀ a b c d e f g h i j k m n o p q r s t : AV, let l := lc_ends_cons a b c d e f g h i j k m n o p q r; trim ((7,t)::(6,s)::l) l = [(0,a),(1,b),(2,c),(6,s),(7,t),(8,f),(10,g),(11,h),(12,i),(13,j),(14,k),(17,m),(18,n),(19,o),(20,p),(21,q),(37,r)] := by intros; rfl
 refine R_nil (tr ..) ?_; clear tr
 refine then_n ?_
 refine at_seq rfl ?_
 refine at_seq rfl ?_
 refine rg rfl ?_
 refine Rq ?_
 refine Rq ?_
 refine Rq ?_
 have tr : ∀ a b c d e f g h i j k m n o p q r s t u : AV, let l := lc_ends_cons a b c d e f g h i j k m n o p q r; trim ((17,u)::(16,t)::(15,s)::l) l = [(0,a),(1,b),(2,c),(6,d),(7,e),(8,f),(10,g),(11,h),(12,i),(13,j),(14,k),(17,u),(18,n),(19,o),(20,p),(21,q),(37,r)] := by intros; rfl
 refine R_nil (tr ..) ?_; clear tr
 refine then_n ?_
 refine cdd (fun h1 => ?_) (fun h1 => ?_)
 ·
  try simp only [decide_eq_true_eq, decide_eq_false_iff_not, Bool.not_eq_true', Bool.not_eq_false', beq_iff_eq, beq_eq_false_iff_ne, ne_eq] at h1
  simp at *; omega
 ·
  try simp only [decide_eq_true_eq, decide_eq_false_iff_not, Bool.not_eq_true', Bool.not_eq_false', beq_iff_eq, beq_eq_false_iff_ne, ne_eq] at h1
  refine at_skip rfl ?_
  refine then_n ?_
  refine at_seq rfl ?_
  refine rg rfl ?_
  refine Rq ?_
  have tr : ∀ a b c d e f g h i j k m n o p q r s : AV, let l := lc_ends_cons a b c d e f g h i j k m n o p q r; trim ((7,s)::l) l = [(0,a),(1,b),(2,c),(6,d),(7,s),(8,f),(10,g),(11,h),(12,i),(13,j),(14,k),(17,m),(18,n),(19,o),(20,p),(21,q),(37,r)] := by intros; rfl
  refine R_nil (tr ..) ?_; clear tr
  refine then_n ?_
  refine at_seq rfl ?_
  refine at_seq rfl ?_
  refine rg rfl ?_
  refine Rq ?_
  have tr : ∀ a b c d e f g h i j k m n o p q r s : AV, let l := lc_ends_cons a b c d e f g h i j k m n o p q r; trim ((11,s)::l) l = [(0,a),(1,b),(2,c),(6,d),(7,e),(8,f),(10,g),(11,s),(12,i),(13,j),(14,k),(17,m),(18,n),(19,o),(20,p),(21,q),(37,r)] := by intros; rfl
  refine R_nil (tr ..) ?_; clear tr
  refine then_n ?_
  refine at_block rfl ?_
  refine loop_n rfl (fun mm kv H' => ∃ u : Nat, ∃ some1 : Bool, ∃ all1 : Bool, ∃ x12 x13 x14 x37 : AV, (kv = [(6, AV.b some1), (7, AV.b all1), (11, AV.i u), (12, x12), (13, x13), (14, x14), (37, x37)]) ∧ (mm = 3 - u) ∧ (H' = H') ∧ (u ≤ 3) ∧ ((some1 = true ↔ ∃ y, y < u ∧ canBe (step1 P m (y : Nat)) L t)) ∧ ((all1 = true ↔ ∀ y, y < u → allBe (step1 P m (y : Nat)) L t))) ⟨0, false, true, _, _, _, _, rfl, rfl, by rfl, by omega, by exact ⟨fun hh => (by cases hh), fun ⟨y, hy, _⟩ => (by omega)⟩, by exact ⟨fun _ y hy => (by omega), fun _ => rfl⟩⟩ (by rfl) ?_
  rintro mm kv HB ⟨u, some1, all1, x12, x13, x14, x37, rfl, rfl, hX, hu, hs, ha⟩
  have tr : ∀ a b c d e f g h i j k m n o p q r s t u v w x y : AV, upd [(0,a),(1,b),(2,c),(6,d),(7,e),(8,f),(10,g),(11,h),(12,i),(13,j),(14,k),(17,m),(18,n),(19,o),(20,p),(21,q),(37,r)] [(6,s),(7,t),(11,u),(12,v),(13,w),(14,x),(37,y)] = [(0,a),(1,b),(2,c),(6,s),(7,t),(8,f),(10,g),(11,u),(12,v),(13,w),(14,x),(17,m),(18,n),(19,o),(20,p),(21,q),(37,y)] := by intros; rfl
  refine W_to (tr ..) ?_; clear tr
  refine at_seq rfl ?_
  refine at_seq rfl ?_
  refine rg rfl ?_
  refine Rq ?_
  refine Rq ?_
  have tr : ∀ a b c d e f g h i j k m n o p q r s t : AV, let l := lc_ends_cons a b c d e f g h i j k m n o p q r; trim ((37,t)::(36,s)::l) l = [(0,a),(1,b),(2,c),(6,d),(7,e),(8,f),(10,g),(11,h),(12,i),(13,j),(14,k),(17,m),(18,n),(19,o),(20,p),(21,q),(37,t)] := by intros; rfl
  refine R_nil (tr ..) ?_; clear tr
  refine then_n ?_
  refine cdd (fun h2 => ?_) (fun h2 => ?_)
  ·
   try simp only [decide_eq_true_eq, decide_eq_false_iff_not, Bool.not_eq_true', Bool.not_eq_false', beq_iff_eq, beq_eq_false_iff_ne, ne_eq] at h2
   refine at_skip rfl ?_
   refine then_n ?_
   refine at_seq rfl ?_
   refine at_block rfl ?_
   refine at_seq rfl ?_
   refine rg rfl ?_
   refine A_buildSlice (bs40e _ _ _) ?_
   intro HC n1
   have en1 := n1.len
   have qn := n1.new
   refine Rq ?_
   refine A_append (by simp (disch := first | omega | (simp only [List.length_map, List.length_append, List.length_set, List.length_cons, List.length_nil]; omega)) only [go_sem, ↓reduceIte, Nat.reduceEqDiff, reduceCtorEq]; exact app40e qn (by omega) (by omega)) ?_
   intro HD g2
   have eg2 := g2.len
   have qp := g2.new
   refine Rq ?_
   have tr : ∀ a b c d e f g h i j k m n o p q r s t u v : AV, let l := lc_ends_cons a b c d e f g h i j k m n o p q r; trim ((12,v)::(42,u)::(41,t)::(40,s)::l) l = [(0,a),(1,b),(2,c),(6,d),(7,e),(8,f),(10,g),(11,h),(12,v),(13,j),(14,k),(17,m),(18,n),(19,o),(20,p),(21,q),(37,r)] := by intros; rfl
   refine R_nil (tr ..) ?_; clear tr
   refine then_n ?_
   refine at_seq rfl ?_
   refine rg rfl ?_
   refine Rq ?_
   refine Rq ?_
   refine Rq ?_
   refine Rq ?_
   refine R_q rfl (by simp (disch := first | omega | (simp only [List.length_map, List.length_append, List.length_set, List.length_cons, List.length_nil]; omega)) only [go_sem, ↓reduceIte, Nat.reduceEqDiff, reduceCtorEq, qp] <;> rfl) ?_
   refine Rq ?_
   refine R_q rfl (by simp (disch := first | omega | (simp only [List.length_map, List.length_append, List.length_set, List.length_cons, List.length_nil]; omega)) only [go_sem, ↓reduceIte, Nat.reduceEqDiff, reduceCtorEq, qp] <;> rfl) ?_
   refine Rq ?_
   refine Rq ?_
   refine Rq ?_
   have lqp := hget_lt qp
   refine A_store ty3 (by simp (disch := first | omega | (simp only [List.length_map, List.length_append, List.length_set, List.length_cons, List.length_nil]; omega)) only [go_sem, ↓reduceIte, Nat.reduceEqDiff, reduceCtorEq, qp] <;> rfl) (by simp (disch := first | omega | (simp only [List.length_map, List.length_append, List.length_set, List.length_cons, List.length_nil]; omega)) only [go_sem, ↓reduceIte, Nat.reduceEqDiff, reduceCtorEq, qp] <;> rfl) qp ⟨by omega, rfl, by simp only [List.length_map]; omega⟩ (k' := (P.set m.a.toNat (gt P m.a.toNat + u)).map AV.i) (by rw [setL_map]) ?_
   intro HE w3
   have ew3 := w3.len
   have qp := w3.new
   have hp1 : 0 ≤ gt (P.set m.a.toNat (gt P m.a.toNat + u)) m.b.toNat ∧ gt (P.set m.a.toNat (gt P m.a.toNat + u)) m.b.toNat ≤ 1000002 := by
     have h2 := hr m.b.toNat
     rw [gt_set _ _ _ _ (by omega)]
     split <;> omega
   have hpl1 : (P.set m.a.toNat (gt P m.a.toNat + u)).length = P.length := by rw [List.length_set]
   have tr : ∀ a b c d e f g h i j k m n o p q r s t u v w x y z A B : AV, let l := lc_ends_cons a b c d e f g h i j k m n o p q r; trim ((52,B)::(51,A)::(50,z)::(49,y)::(48,x)::(47,w)::(46,v)::(45,u)::(44,t)::(43,s)::l) l = [(0,a),(1,b),(2,c),(6,d),(7,e),(8,f),(10,g),(11,h),(12,i),(13,j),(14,k),(17,m),(18,n),(19,o),(20,p),(21,q),(37,r)] := by intros; rfl
   refine R_nil (tr ..) ?_; clear tr
   refine then_n ?_
   refine at_seq rfl ?_
   refine rg rfl ?_
   refine Rq ?_
   refine Rq ?_
   refine Rq ?_
   refine Rq ?_
   refine R_q rfl (by simp (disch := first | omega | (simp only [List.length_map, List.length_append, List.length_set, List.length_cons, List.length_nil]; omega)) only [go_sem, ↓reduceIte, Nat.reduceEqDiff, reduceCtorEq, qp] <;> rfl) ?_
   refine Rq ?_
   refine R_q rfl (by simp (disch := first | omega | (simp only [List.length_map, List.length_append, List.length_set, List.length_cons, List.length_nil]; omega)) only [go_sem, ↓reduceIte, Nat.reduceEqDiff, reduceCtorEq, qp] <;> rfl) ?_
   refine Rq ?_
   refine Rq ?_
   refine Rq ?_
   refine Rq ?_
   have lqp := hget_lt qp
   refine A_store ty3 (by simp (disch := first | omega | (simp only [List.length_map, List.length_append, List.length_set, List.length_cons, List.length_nil]; omega)) only [go_sem, ↓reduceIte, Nat.reduceEqDiff, reduceCtorEq, qp] <;> rfl) (by simp (disch := first | omega | (simp only [List.length_map, List.length_append, List.length_set, List.length_cons, List.length_nil]; omega)) only [go_sem, ↓reduceIte, Nat.reduceEqDiff, reduceCtorEq, qp] <;> rfl) qp ⟨by omega, rfl, by simp only [List.length_map]; omega⟩ (k' := (step1 P m u).map AV.i) (by rw [setL_map]; rfl) ?_
   intro HF w4
   have ew4 := w4.len
   have qp := w4.new
   have tr : ∀ a b c d e f g h i j k m n o p q r s t u v w x y z A B C : AV, let l := lc_ends_cons a b c d e f g h i j k m n o p q r; trim ((63,C)::(62,B)::(61,A)::(60,z)::(59,y)::(58,x)::(57,w)::(56,v)::(55,u)::(54,t)::(53,s)::l) l = [(0,a),(1,b),(2,c),(6,d),(7,e),(8,f),(10,g),(11,h),(12,i),(13,j),(14,k),(17,m),(18,n),(19,o),(20,p),(21,q),(37,r)] := by intros; rfl
   refine R_nil (tr ..) ?_; clear tr
   refine then_n ?_
   refine at_seq rfl ?_
   refine rg rfl ?_
   refine Rq ?_
   refine Rq ?_
   refine R_q rfl (by simp (disch := first | omega | (simp only [List.length_map, List.length_append, List.length_set, List.length_cons, List.length_nil]; omega)) only [go_sem, ↓reduceIte, Nat.reduceEqDiff, reduceCtorEq, qp]; exact slP m L) ?_
   refine Rq ?_
   refine Rcall ?_
   refine ACall_eq (IH _ _ u _ (by omega) (frz_ownI (base := 0) (d := 6) (by omega) qp (by rw [step1_len]; try rfl))) ?_
   refine Rq ?_
   refine Rq ?_
   refine Rq ?_
   refine Rq ?_
   refine Rq ?_
   have tr : ∀ a b c d e f g h i j k m n o p q r s t u v w x y z A B : AV, let l := lc_ends_cons a b c d e f g h i j k m n o p q r; trim ((14,B)::(13,A)::(71,z)::(70,y)::(64,x)::(69,w)::(68,v)::(67,u)::(66,t)::(65,s)::l) l = [(0,a),(1,b),(2,c),(6,d),(7,e),(8,f),(10,g),(11,h),(12,i),(13,A),(14,B),(17,m),(18,n),(19,o),(20,p),(21,q),(37,r)] := by intros; rfl
   refine R_nil (tr ..) ?_; clear tr
   refine then_n ?_
   refine at_seq rfl ?_
   refine rg rfl ?_
   refine Rq ?_
   refine Rq ?_
   refine Rp_split (fun h3 => ?_) (fun h3 => ?_)
   ·
    try simp only [decide_eq_true_eq, decide_eq_false_iff_not, Bool.not_eq_true', Bool.not_eq_false', beq_iff_eq, beq_eq_false_iff_ne, ne_eq] at h3
    refine Rn ?_
    refine Rq ?_
    refine Rq ?_
    have tr : ∀ a b c d e f g h i j k m n o p q r s t u v w : AV, let l := lc_ends_cons a b c d e f g h i j k m n o p q r; trim ((6,w)::(75,v)::(74,u)::(73,t)::(72,s)::l) l = [(0,a),(1,b),(2,c),(6,w),(7,e),(8,f),(10,g),(11,h),(12,i),(13,j),(14,k),(17,m),(18,n),(19,o),(20,p),(21,q),(37,r)] := by intros; rfl
    refine R_nil (tr ..) ?_; clear tr
    refine then_n ?_
    refine rg rfl ?_
    refine Rq ?_
    refine Rq ?_
    refine Rp_split (fun h4 => ?_) (fun h4 => ?_)
    ·
     try simp only [decide_eq_true_eq, decide_eq_false_iff_not, Bool.not_eq_true', Bool.not_eq_false', beq_iff_eq, beq_eq_false_iff_ne, ne_eq] at h4
     refine Ry ?_
     refine Rq ?_
     refine Rq ?_
     refine Rq ?_
     have tr : ∀ a b c d e f g h i j k m n o p q r s t u v w : AV, let l := lc_ends_cons a b c d e f g h i j k m n o p q r; trim ((7,w)::(79,v)::(78,u)::(77,t)::(76,s)::l) l = [(0,a),(1,b),(2,c),(6,d),(7,w),(8,f),(10,g),(11,h),(12,i),(13,j),(14,k),(17,m),(18,n),(19,o),(20,p),(21,q),(37,r)] := by intros; rfl
     refine R_nil (tr ..) ?_; clear tr
     refine blk_n ?_
     refine then_n ?_
     refine rg rfl ?_
     refine Rq ?_
     refine Rq ?_
     refine Rq ?_
     have tr : ∀ a b c d e f g h i j k m n o p q r s t u : AV, let l := lc_ends_cons a b c d e f g h i j k m n o p q r; trim ((11,u)::(39,t)::(38,s)::l) l = [(0,a),(1,b),(2,c),(6,d),(7,e),(8,f),(10,g),(11,u),(12,i),(13,j),(14,k),(17,m),(18,n),(19,o),(20,p),(21,q),(37,r)] := by intros; rfl
     refine R_nil (tr ..) ?_; clear tr
     refine then_n ?_
     exact ⟨_, _, ⟨u + 1, _, _, _, _, _, _, rfl, rfl, by rfl, by omega, by first | exact some_t hs (by assumption) | exact some_f hs (by assumption), by first | exact all_t ha (by assumption) | exact all_f ha (by assumption)⟩, by rfl, by omega⟩
    ·
     try simp only [decide_eq_true_eq, decide_eq_false_iff_not, Bool.not_eq_true', Bool.not_eq_false', beq_iff_eq, beq_eq_false_iff_ne, ne_eq] at h4
     refine Rn ?_
     refine Rq ?_
     refine Rq ?_
     have tr : ∀ a b c d e f g h i j k m n o p q r s t u v w : AV, let l := lc_ends_cons a b c d e f g h i j k m n o p q r; trim ((7,w)::(79,v)::(78,u)::(77,t)::(76,s)::l) l = [(0,a),(1,b),(2,c),(6,d),(7,w),(8,f),(10,g),(11,h),(12,i),(13,j),(14,k),(17,m),(18,n),(19,o),(20,p),(21,q),(37,r)] := by intros; rfl
     refine R_nil (tr ..) ?_; clear tr
     refine blk_n ?_
     refine then_n ?_
     refine rg rfl ?_
     refine Rq ?_
     refine Rq ?_
     refine Rq ?_
     have tr : ∀ a b c d e f g h i j k m n o p q r s t u : AV, let l := lc_ends_cons a b c d e f g h i j k m n o p q r; trim ((11,u)::(39,t)::(38,s)::l) l = [(0,a),(1,b),(2,c),(6,d),(7,e),(8,f),(10,g),(11,u),(12,i),(13,j),(14,k),(17,m),(18,n),(19,o),(20,p),(21,q),(37,r)] := by intros; rfl
     refine R_nil (tr ..) ?_; clear tr
     refine then_n ?_
     exact ⟨_, _, ⟨u + 1, _, _, _, _, _, _, rfl, rfl, by rfl, by omega, by first | exact some_t hs (by assumption) | exact some_f hs (by assumption), by first | exact all_t ha (by assumption) | exact all_f ha (by assumption)⟩, by rfl, by omega⟩
   ·
    try simp only [decide_eq_true_eq, decide_eq_false_iff_not, Bool.not_eq_true', Bool.not_eq_false', beq_iff_eq, beq_eq_false_iff_ne, ne_eq] at h3
    refine Ry ?_
    refine Rq ?_
    refine Rq ?_
    refine Rq ?_
    have tr : ∀ a b c d e f g h i j k m n o p q r s t u v w : AV, let l := lc_ends_cons a b c d e f g h i j k m n o p q r; trim ((6,w)::(75,v)::(74,u)::(73,t)::(72,s)::l) l = [(0,a),(1,b),(2,c),(6,w),(7,e),(8,f),(10,g),(11,h),(12,i),(13,j),(14,k),(17,m),(18,n),(19,o),(20,p),(21,q),(37,r)] := by intros; rfl
    refine R_nil (tr ..) ?_; clear tr
    refine then_n ?_
    refine rg rfl ?_
    refine Rq ?_
    refine Rq ?_
    refine Rp_split (fun h5 => ?_) (fun h5 => ?_)
    ·
     try simp only [decide_eq_true_eq, decide_eq_false_iff_not, Bool.not_eq_true', Bool.not_eq_false', beq_iff_eq, beq_eq_false_iff_ne, ne_eq] at h5
     refine Ry ?_
     refine Rq ?_
     refine Rq ?_
     refine Rq ?_
     have tr : ∀ a b c d e f g h i j k m n o p q r s t u v w : AV, let l := lc_ends_cons a b c d e f g h i j k m n o p q r; trim ((7,w)::(79,v)::(78,u)::(77,t)::(76,s)::l) l = [(0,a),(1,b),(2,c),(6,d),(7,w),(8,f),(10,g),(11,h),(12,i),(13,j),(14,k),(17,m),(18,n),(19,o),(20,p),(21,q),(37,r)] := by intros; rfl
     refine R_nil (tr ..) ?_; clear tr
     refine blk_n ?_
     refine then_n ?_
     refine rg rfl ?_
     refine Rq ?_
     refine Rq ?_
     refine Rq ?_
     have tr : ∀ a b c d e f g h i j k m n o p q r s t u : AV, let l := lc_ends_cons a b c d e f g h i j k m n o p q r; trim ((11,u)::(39,t)::(38,s)::l) l = [(0,a),(1,b),(2,c),(6,d),(7,e),(8,f),(10,g),(11,u),(12,i),(13,j),(14,k),(17,m),(18,n),(19,o),(20,p),(21,q),(37,r)] := by intros; rfl
     refine R_nil (tr ..) ?_; clear tr
     refine then_n ?_
     exact ⟨_, _, ⟨u + 1, _, _, _, _, _, _, rfl, rfl, by rfl, by omega, by first | exact some_t hs (by assumption) | exact some_f hs (by assumption), by first | exact all_t ha (by assumption) | exact all_f ha (by assumption)⟩, by rfl, by omega⟩
    ·
     try simp only [decide_eq_true_eq, decide_eq_false_iff_not, Bool.not_eq_true', Bool.not_eq_false', beq_iff_eq, beq_eq_false_iff_ne, ne_eq] at h5
     refine Rn ?_
     refine Rq ?_
     refine Rq ?_
     have tr : ∀ a b c d e f g h i j k m n o p q r s t u v w : AV, let l := lc_ends_cons a b c d e f g h i j k m n o p q r; trim ((7,w)::(79,v)::(78,u)::(77,t)::(76,s)::l) l = [(0,a),(1,b),(2,c),(6,d),(7,w),(8,f),(10,g),(11,h),(12,i),(13,j),(14,k),(17,m),(18,n),(19,o),(20,p),(21,q),(37,r)] := by intros; rfl
     refine R_nil (tr ..) ?_; clear tr
     refine blk_n ?_
     refine then_n ?_
     refine rg rfl ?_
     refine Rq ?_
     refine Rq ?_
     refine Rq ?_
     have tr : ∀ a b c d e f g h i j k m n o p q r s t u : AV, let l := lc_ends_cons a b c d e f g h i j k m n o p q r; trim ((11,u)::(39,t)::(38,s)::l) l = [(0,a),(1,b),(2,c),(6,d),(7,e),(8,f),(10,g),(11,u),(12,i),(13,j),(14,k),(17,m),(18,n),(19,o),(20,p),(21,q),(37,r)] := by intros; rfl
     refine R_nil (tr ..) ?_; clear tr
     refine then_n ?_
     exact ⟨_, _, ⟨u + 1, _, _, _, _, _, _, rfl, rfl, by rfl, by omega, by first | exact some_t hs (by assumption) | exact some_f hs (by assumption), by first | exact all_t ha (by assumption) | exact all_f ha (by assumption)⟩, by rfl, by omega⟩
  ·
   try simp only [decide_eq_true_eq, decide_eq_false_iff_not, Bool.not_eq_true', Bool.not_eq_false', beq_iff_eq, beq_eq_false_iff_ne, ne_eq] at h2
   refine at_exit rfl ?_
   refine then_x ?_
   refine then_x ?_
   refine blk_x ?_
   refine then_n ?_
   refine at_seq rfl ?_
   refine rg rfl ?_
   refine Rq ?_
   refine Rq ?_
   refine Rq ?_
   refine Rq ?_
   have tr : ∀ a b c d e f g h i j k m n o p q r s t u v : AV, let l := lc_ends_cons a b c d e f g h i j k m n o p q r; trim ((7,v)::(6,u)::(81,t)::(80,s)::l) l = [(0,a),(1,b),(2,c),(6,u),(7,v),(8,f),(10,g),(11,h),(12,i),(13,j),(14,k),(17,m),(18,n),(19,o),(20,p),(21,q),(37,r)] := by intros; rfl
   refine R_nil (tr ..) ?_; clear tr
   refine then_n ?_
   refine at_ret rfl ?_
   have hu3 : u = 3 := by omega
   subst hu3
   have hfe : some1 = canB P (m :: L) t ∧ all1 = allB P (m :: L) t := ⟨by rw [Bool.eq_iff_iff, hs, canB_iff, can_cons], by rw [Bool.eq_iff_iff, ha, allB_iff, all_cons]⟩
   refine fpure ?_
   refine ⟨rfl, ?_, rfl⟩
   rw [← hfe.1, ← hfe.2]

theorem ends_x (t : Int) (t0 : 0 ≤ t) : ∀ (L : List Pr) (lim : Nat) (H : Heap) (P : List Int) (x : AV), frz H 0 8 x = intsAV P → P.length ≤ 20 → t < P.length → (∀ i, i < L.length → 0 ≤ (gt L i).a ∧ (gt L i).a < P.length ∧ 0 ≤ (gt L i).b ∧ (gt L i).b < P.length) → (∀ i, 0 ≤ gt P i ∧ gt P i + 4 * L.length ≤ 1000000) →
    ACall sig lim 31 [x, prsAV L, AV.i t] H fun r H' => r = .tup [.v (.bool (canB P L t)), .v (.bool (allB P L t))] ∧ H' = H
  | [], lim, H, P, x, hx, hP, t1, _, _ => ends_nil lim H P t x hx hP t0 t1
  | m :: L, lim, H, P, x, hx, hP, t1, he, hr => by
    have hm := he 0 (by simp)
    have hm' : 0 ≤ m.a ∧ m.a < P.length ∧ 0 ≤ m.b ∧ m.b < P.length := hm
    refine ends_cons lim H P m L t x hx hP t0 t1 hm' (fun i => by have := hr i; omega) fun lim' H' y z hy hz => ?_
    have hl := step1_len P m y
    refine ends_x t t0 L lim' H' (step1 P m y) z hz (by omega) (by omega) (fun i hi => ?_) fun i => ?_
    · have := he (i + 1) (by simp; omega)
      rw [hl]; exact this
    · have a := hr i
      have b := hr m.a.toNat
      have c := hr m.b.toNat
      rw [List.length_cons] at a b c
      unfold step1
      rw [gt_set _ _ _ _ (by rw [List.length_set]; omega), gt_set _ _ _ _ (by omega), gt_set _ _ _ _ (by omega)]
      repeat' split
      all_goals omega

end Go.Proofs.Ytdicnojnkbmdlaa
end
section
set_option linter.unusedSimpArgs false
set_option linter.unusedVariables false
set_option maxHeartbeats 40000000
set_option maxRecDepth 4000
namespace Go.Proofs.Ytdicnojnkbmdlaa
open Go Go.Am

abbrev lc_pairsown_ok (a b c d e f g h i j : AV) : Env := [(0,a),(2,b),(3,c),(5,d),(6,e),(7,f),(8,g),(9,h),(10,i),(18,j)]
theorem pairsown_ok (lim : Nat) (H : Heap) (bo : Nat) (L : List Pr) (qo : hget H bo = some (flatP L)) (hL : L.length ≤ 400) :
    ACall sig lim 53 [.own 2 bo 0 L.length] H fun r H' => r = pairsA L ∧ H' = H := by
 have qx : True := trivial
 have qp : True := trivial
 have lo0 := hget_lt qo
 refine ACall_pure (fa := fa53) rfl rfl rfl rfl ?_
 have tr : ∀ a0 : AV, env0 fa53.keep [a0] = [(0,a0),(2,.any),(3,.any),(5,.any),(6,.any),(7,.any),(8,.any),(9,.any),(10,.any),(18,.any)] := fun a0 => rfl
 refine W_to (tr _) ?_; clear tr
 refine at_seq rfl ?_
 refine rg rfl ?_
 refine Rq ?_
 have tr : ∀ a b c d e f g h i j k : AV, let l := lc_pairsown_ok a b c d e f g h i j; trim ((2,k)::l) l = [(0,a),(2,k),(3,c),(5,d),(6,e),(7,f),(8,g),(9,h),(10,i),(18,j)] := by intros; rfl
 refine R_nil (tr ..) ?_; clear tr
 refine then_n ?_
 refine at_seq rfl ?_
 refine rg rfl ?_
 refine Rq ?_
 have tr : ∀ a b c d e f g h i j k : AV, let l := lc_pairsown_ok a b c d e f g h i j; trim ((3,k)::l) l = [(0,a),(2,b),(3,k),(5,d),(6,e),(7,f),(8,g),(9,h),(10,i),(18,j)] := by intros; rfl
 refine R_nil (tr ..) ?_; clear tr
 refine then_n ?_
 refine at_seq rfl ?_
 refine at_seq rfl ?_
 refine rg rfl ?_
 refine Rq ?_
 refine Rq ?_
 refine Rq ?_
 have tr : ∀ a b c d e f g h i j k m n : AV, let l := lc_pairsown_ok a b c d e f g h i j; trim ((9,n)::(8,m)::(7,k)::l) l = [(0,a),(2,b),(3,c),(5,d),(6,e),(7,k),(8,m),(9,n),(10,i),(18,j)] := by intros; rfl
 refine R_nil (tr ..) ?_; clear tr
 refine then_n ?_
 refine at_block rfl ?_
 refine loop_n rfl (fun mm kv H' => ∃ u : Nat, ∃ o : AV, ∃ x5 x6 x10 x18 : AV, (kv = [(3, o), (5, x5), (6, x6), (9, AV.i u), (10, x10), (18, x18)]) ∧ (mm = L.length - u) ∧ (H.length ≤ H'.length) ∧ (u ≤ L.length) ∧ (OutP H.length H' o (pairsN L u)) ∧ (hget H' bo = some (flatP L))) ⟨0, _, _, _, _, _, rfl, rfl, by exact Nat.le_refl _, by omega, by exact .inl ⟨rfl, rfl⟩, by exact qo⟩ (by rfl) ?_
 rintro mm kv HB ⟨u, o, x5, x6, x10, x18, rfl, rfl, hHB, hu, hO, qo⟩
 have tr : ∀ a b c d e f g h i j k m n o p q : AV, upd [(0,a),(2,b),(3,c),(5,d),(6,e),(7,f),(8,g),(9,h),(10,i),(18,j)] [(3,k),(5,m),(6,n),(9,o),(10,p),(18,q)] = [(0,a),(2,b),(3,k),(5,m),(6,n),(7,f),(8,g),(9,o),(10,p),(18,q)] := by intros; rfl
 refine W_to (tr ..) ?_; clear tr
 have hpl := pairs_len L u
 refine at_seq rfl ?_
 refine rg rfl ?_
 refine Rq ?_
 have tr : ∀ a b c d e f g h i j k : AV, let l := lc_pairsown_ok a b c d e f g h i j; trim ((10,k)::l) l = [(0,a),(2,b),(3,c),(5,d),(6,e),(7,f),(8,g),(9,h),(10,k),(18,j)] := by intros; rfl
 refine R_nil (tr ..) ?_; clear tr
 refine then_n ?_
 refine at_seq rfl ?_
 refine cdd (fun h1 => ?_) (fun h1 => ?_)
 ·
  try simp only [decide_eq_true_eq, decide_eq_false_iff_not, Bool.not_eq_true', Bool.not_eq_false', beq_iff_eq, beq_eq_false_iff_ne, ne_eq] at h1
  refine at_skip rfl ?_
  refine then_n ?_
  refine at_seq rfl ?_
  refine at_block rfl ?_
  refine at_seq rfl ?_
  refine rg rfl ?_
  have hO1 := hO
  refine Rq ?_
  refine R_q rfl (by simp (disch := first | omega | (simp only [List.length_map, List.length_append, List.length_set, List.length_cons, List.length_nil]; omega)) only [go_sem, ↓reduceIte, Nat.reduceEqDiff, reduceCtorEq, qx, qp, qo] <;> rfl) ?_
  refine A_alloc rfl ?_
  intro HC n4
  have en4 := n4.len
  have qo := (n4.old _ (hget_lt qo)).trans qo
  have qx := n4.new
  have hO := hO.mono fun b hb k hk => (n4.old _ (hget_lt hk)).trans hk
  have lqx := hget_lt qx
  refine A_store ty58 (by simp (disch := first | omega | (simp only [List.length_map, List.length_append, List.length_set, List.length_cons, List.length_nil]; omega)) only [go_sem, ↓reduceIte, Nat.reduceEqDiff, reduceCtorEq, qo] <;> rfl) (by simp (disch := first | omega | (simp only [List.length_map, List.length_append, List.length_set, List.length_cons, List.length_nil]; omega)) only [go_sem, ↓reduceIte, Nat.reduceEqDiff, reduceCtorEq, qx, qo] <;> rfl) qx ⟨by omega, rfl, by first | exact Nat.le_refl _ | simp⟩ (show _ = prC (gt L u) from rfl) ?_
  intro HD w4
  have ew4 := w4.len
  have qo := (w4.old _ (by omega)).trans qo
  have qx := w4.new
  have hO := hO1.mono fun b hb k hk => (w4.old _ (by have := hget_lt hk; omega)).trans ((n4.old _ (hget_lt hk)).trans hk)
  have tr : ∀ a b c d e f g h i j k m n : AV, let l := lc_pairsown_ok a b c d e f g h i j; trim ((5,n)::(12,m)::(11,k)::l) l = [(0,a),(2,b),(3,c),(5,n),(6,e),(7,f),(8,g),(9,h),(10,i),(18,j)] := by intros; rfl
  refine R_nil (tr ..) ?_; clear tr
  refine then_n ?_
  refine at_seq rfl ?_
  refine rg rfl ?_
  refine R_q rfl (by simp (disch := first | omega | (simp only [List.length_map, List.length_append, List.length_set, List.length_cons, List.length_nil]; omega)) only [go_sem, ↓reduceIte, Nat.reduceEqDiff, reduceCtorEq, qx, qp, qo] <;> rfl) ?_
  refine Rcall ?_
  refine ACall_eq (pair_ok _ _ _) ?_
  have hO1 := hO
  refine A_alloc rfl ?_
  intro HE n5
  have en5 := n5.len
  have qx := (n5.old _ (hget_lt qx)).trans qx
  have qo := (n5.old _ (hget_lt qo)).trans qo
  have qp := n5.new
  have lqx := hget_lt qx
  have lqp := hget_lt qp
  refine A_store ty58 (by simp (disch := first | omega | (simp only [List.length_map, List.length_append, List.length_set, List.length_cons, List.length_nil]; omega)) only [go_sem, ↓reduceIte, Nat.reduceEqDiff, reduceCtorEq] <;> rfl) (by simp (disch := first | omega | (simp only [List.length_map, List.length_append, List.length_set, List.length_cons, List.length_nil]; omega)) only [go_sem, ↓reduceIte, Nat.reduceEqDiff, reduceCtorEq, qp] <;> rfl) qp ⟨by omega, rfl, by first | exact Nat.le_refl _ | simp⟩ (show _ = prC (norm (gt L u)) from rfl) ?_
  intro HF w5
  have ew5 := w5.len
  have qo := (w5.old _ (by omega)).trans qo
  have qx := (w5.old _ (by omega)).trans qx
  have qp := w5.new
  have hO := hO1.mono fun b hb k hk => (w5.old _ (by have := hget_lt hk; omega)).trans ((n5.old _ (hget_lt hk)).trans hk)
  have tr : ∀ a b c d e f g h i j k m n : AV, let l := lc_pairsown_ok a b c d e f g h i j; trim ((6,n)::(14,m)::(13,k)::l) l = [(0,a),(2,b),(3,c),(5,d),(6,n),(7,f),(8,g),(9,h),(10,i),(18,j)] := by intros; rfl
  refine R_nil (tr ..) ?_; clear tr
  refine then_n ?_
  refine at_seq rfl ?_
  refine rg rfl ?_
  refine Rq ?_
  refine R_q rfl (by simp (disch := first | omega | (simp only [List.length_map, List.length_append, List.length_set, List.length_cons, List.length_nil]; omega)) only [go_sem, ↓reduceIte, Nat.reduceEqDiff, reduceCtorEq, qx, qp, qo] <;> rfl) ?_
  refine Rcall ?_
  refine ACall_eq (contains_ok _ H.length _ o _ _ hO (by omega)) ?_
  refine Rq ?_
  have tr : ∀ a b c d e f g h i j k m n o : AV, let l := lc_pairsown_ok a b c d e f g h i j; trim ((18,o)::(17,n)::(16,m)::(15,k)::l) l = [(0,a),(2,b),(3,c),(5,d),(6,e),(7,f),(8,g),(9,h),(10,i),(18,o)] := by intros; rfl
  refine R_nil (tr ..) ?_; clear tr
  refine then_n ?_
  refine cdd (fun h2 => ?_) (fun h2 => ?_)
  ·
   try simp only [decide_eq_true_eq, decide_eq_false_iff_not, Bool.not_eq_true', Bool.not_eq_false', beq_iff_eq, beq_eq_false_iff_ne, ne_eq] at h2
   refine rg rfl ?_
   refine Rq ?_
   refine R_q rfl (by simp (disch := first | omega | (simp only [List.length_map, List.length_append, List.length_set, List.length_cons, List.length_nil]; omega)) only [go_sem, ↓reduceIte, Nat.reduceEqDiff, reduceCtorEq, qx, qp, qo] <;> rfl) ?_
   have hob := fun b hb => hO.lt (b := b) hb
   refine A_buildSlice (bs41 _ _ _ _ (norm (gt L u)) (by simp (disch := first | omega | (simp only [List.length_map, List.length_append, List.length_set, List.length_cons, List.length_nil]; omega)) only [go_sem, ↓reduceIte, Nat.reduceEqDiff, reduceCtorEq, qx, qp])) ?_
   intro HG n7
   have en7 := n7.len
   have qx := (n7.old _ (hget_lt qx)).trans qx
   have qp := (n7.old _ (hget_lt qp)).trans qp
   have qo := (n7.old _ (hget_lt qo)).trans qo
   have qn := n7.new
   have hO := hO.mono fun b hb k hk => (n7.old _ (hget_lt hk)).trans hk
   have lqo := hget_lt qo
   obtain ⟨b, hbl, hbl2, hap⟩ := outP_append (lim := H.length) hO hob qn (Nat.le_refl _) (by omega) (by omega)
   refine A_append (by simp (disch := first | omega | (simp only [List.length_map, List.length_append, List.length_set, List.length_cons, List.length_nil]; omega)) only [go_sem, ↓reduceIte, Nat.reduceEqDiff, reduceCtorEq]; exact hap) ?_
   intro HK g7
   have eg7 := g7.len
   have qo := (g7.old _ (by omega) lqo).trans qo
   refine Rq ?_
   have tr : ∀ a b c d e f g h i j k m n o p : AV, let l := lc_pairsown_ok a b c d e f g h i j; trim ((3,p)::(22,o)::(21,n)::(20,m)::(19,k)::l) l = [(0,a),(2,b),(3,p),(5,d),(6,e),(7,f),(8,g),(9,h),(10,i),(18,j)] := by intros; rfl
   refine R_nil (tr ..) ?_; clear tr
   refine blk_n ?_
   refine then_n ?_
   refine rg rfl ?_
   refine Rq ?_
   refine Rq ?_
   have tr : ∀ a b c d e f g h i j k m : AV, let l := lc_pairsown_ok a b c d e f g h i j; trim ((9,m)::(23,k)::l) l = [(0,a),(2,b),(3,c),(5,d),(6,e),(7,f),(8,g),(9,m),(10,i),(18,j)] := by intros; rfl
   refine R_nil (tr ..) ?_; clear tr
   refine then_n ?_
   exact ⟨_, _, ⟨u + 1, (.own 2 HG.length 0 ((pairsN L u).length + 1)), _, _, _, _, rfl, rfl, by first | (show H.length ≤ HK.length; omega) | (show H.length ≤ HF.length; omega), by omega, by first | exact pairs_new g7 (by omega) (by assumption) | exact pairs_old hO (by assumption), by exact qo⟩, by rfl, by omega⟩
  ·
   try simp only [decide_eq_true_eq, decide_eq_false_iff_not, Bool.not_eq_true', Bool.not_eq_false', beq_iff_eq, beq_eq_false_iff_ne, ne_eq] at h2
   refine at_skip rfl ?_
   refine blk_n ?_
   refine then_n ?_
   refine rg rfl ?_
   refine Rq ?_
   refine Rq ?_
   have tr : ∀ a b c d e f g h i j k m : AV, let l := lc_pairsown_ok a b c d e f g h i j; trim ((9,m)::(23,k)::l) l = [(0,a),(2,b),(3,c),(5,d),(6,e),(7,f),(8,g),(9,m),(10,i),(18,j)] := by intros; rfl
   refine R_nil (tr ..) ?_; clear tr
   refine then_n ?_
   exact ⟨_, _, ⟨u + 1, o, _, _, _, _, rfl, rfl, by first | (show H.length ≤ HK.length; omega) | (show H.length ≤ HF.length; omega), by omega, by first | exact pairs_new g7 (by omega) (by assumption) | exact pairs_old hO (by assumption), by exact qo⟩, by rfl, by omega⟩
 ·
  try simp only [decide_eq_true_eq, decide_eq_false_iff_not, Bool.not_eq_true', Bool.not_eq_false', beq_iff_eq, beq_eq_false_iff_ne, ne_eq] at h1
  refine at_exit rfl ?_
  refine then_x ?_
  refine then_x ?_
  refine blk_x ?_
  refine then_n ?_
  refine at_seq rfl ?_
  refine rg rfl ?_
  refine Rq ?_
  refine Rq ?_
  have tr : ∀ a b c d e f g h i j k m : AV, let l := lc_pairsown_ok a b c d e f g h i j; trim ((2,m)::(24,k)::l) l = [(0,a),(2,m),(3,c),(5,d),(6,e),(7,f),(8,g),(9,h),(10,i),(18,j)] := by intros; rfl
  refine R_nil (tr ..) ?_; clear tr
  refine then_n ?_
  refine at_ret rfl ?_
  obtain rfl : u = L.length := by omega
  refine fpure ?_
  exact ⟨hO.frz, rfl⟩

abbrev lc_pairs_nil (a b c d e f g h i j : AV) : Env := [(0,a),(2,b),(3,c),(5,d),(6,e),(7,f),(8,g),(9,h),(10,i),(18,j)]
theorem pairs_nil (lim : Nat) (H : Heap) :
    ACall sig lim 53 [nilP] H fun r H' => r = nilP ∧ H' = H := by
 refine ACall_pure (fa := fa53) rfl rfl rfl rfl ?_
 have tr : ∀ a0 : AV, env0 fa53.keep [a0] = [(0,a0),(2,.any),(3,.any),(5,.any),(6,.any),(7,.any),(8,.any),(9,.any),(10,.any),(18,.any)] := fun a0 => rfl
 refine W_to (tr _) ?_; clear tr
 refine at_seq rfl ?_
 refine rg rfl ?_
 refine Rq ?_
 have tr : ∀ a b c d e f g h i j k : AV, let l := lc_pairs_nil a b c d e f g h i j; trim ((2,k)::l) l = [(0,a),(2,k),(3,c),(5,d),(6,e),(7,f),(8,g),(9,h),(10,i),(18,j)] := by intros; rfl
 refine R_nil (tr ..) ?_; clear tr
 refine then_n ?_
 refine at_seq rfl ?_
 refine rg rfl ?_
 refine Rq ?_
 have tr : ∀ a b c d e f g h i j k : AV, let l := lc_pairs_nil a b c d e f g h i j; trim ((3,k)::l) l = [(0,a),(2,b),(3,k),(5,d),(6,e),(7,f),(8,g),(9,h),(10,i),(18,j)] := by intros; rfl
 refine R_nil (tr ..) ?_; clear tr
 refine then_n ?_
 refine at_seq rfl ?_
 refine at_seq rfl ?_
 refine rg rfl ?_
 refine Rq ?_
 refine Rq ?_
 refine Rq ?_
 have tr : ∀ a b c d e f g h i j k m n : AV, let l := lc_pairs_nil a b c d e f g h i j; trim ((9,n)::(8,m)::(7,k)::l) l = [(0,a),(2,b),(3,c),(5,d),(6,e),(7,k),(8,m),(9,n),(10,i),(18,j)] := by intros; rfl
 refine R_nil (tr ..) ?_; clear tr
 refine then_n ?_
 refine at_block rfl ?_
 refine loop_n rfl (fun mm kv H' => ∃ u : Nat, ∃ x5 x6 x10 x18 : AV, (kv = [(3, nilP), (5, x5), (6, x6), (9, AV.i u), (10, x10), (18, x18)]) ∧ (mm = 0) ∧ (H' = H) ∧ (u = 0)) ⟨0, _, _, _, _, rfl, rfl, rfl, by rfl⟩ (by rfl) ?_
 rintro mm kv H' ⟨u, x5, x6, x10, x18, rfl, rfl, rfl, hu⟩
 have tr : ∀ a b c d e f g h i j k m n o p q : AV, upd [(0,a),(2,b),(3,c),(5,d),(6,e),(7,f),(8,g),(9,h),(10,i),(18,j)] [(3,k),(5,m),(6,n),(9,o),(10,p),(18,q)] = [(0,a),(2,b),(3,k),(5,m),(6,n),(7,f),(8,g),(9,o),(10,p),(18,q)] := by intros; rfl
 refine W_to (tr ..) ?_; clear tr
 refine at_seq rfl ?_
 refine rg rfl ?_
 refine Rq ?_
 have tr : ∀ a b c d e f g h i j k : AV, let l := lc_pairs_nil a b c d e f g h i j; trim ((10,k)::l) l = [(0,a),(2,b),(3,c),(5,d),(6,e),(7,f),(8,g),(9,h),(10,k),(18,j)] := by intros; rfl
 refine R_nil (tr ..) ?_; clear tr
 refine then_n ?_
 refine at_seq rfl ?_
 refine cdd (fun h1 => ?_) (fun h1 => ?_)
 ·
  try simp only [decide_eq_true_eq, decide_eq_false_iff_not, Bool.not_eq_true', Bool.not_eq_false', beq_iff_eq, beq_eq_false_iff_ne, ne_eq] at h1
  exfalso; omega
 ·
  try simp only [decide_eq_true_eq, decide_eq_false_iff_not, Bool.not_eq_true', Bool.not_eq_false', beq_iff_eq, beq_eq_false_iff_ne, ne_eq] at h1
  refine at_exit rfl ?_
  refine then_x ?_
  refine then_x ?_
  refine blk_x ?_
  refine then_n ?_
  refine at_seq rfl ?_
  refine rg rfl ?_
  refine Rq ?_
  refine Rq ?_
  have tr : ∀ a b c d e f g h i j k m : AV, let l := lc_pairs_nil a b c d e f g h i j; trim ((2,m)::(24,k)::l) l = [(0,a),(2,m),(3,c),(5,d),(6,e),(7,f),(8,g),(9,h),(10,i),(18,j)] := by intros; rfl
  refine R_nil (tr ..) ?_; clear tr
  refine then_n ?_
  refine at_ret rfl ?_
  refine fpure ?_
  refine ⟨?_, rfl⟩
  rfl

theorem pairs_any (lim lo : Nat) (H : Heap) (o : AV) (L : List Pr) (hO : OutP lo H o L) (hL : L.length ≤ 400) :
    ACall sig lim 53 [o] H fun r H' => r = pairsA L ∧ H' = H := by
  rcases hO with ⟨rfl, rfl⟩ | ⟨h0, b, rfl, h2, h3⟩
  · exact pairs_nil lim H
  · exact pairsown_ok lim H b L h3 hL

abbrev lc_indexsl_ok (a b c d e f g h i : AV) : Env := [(0,a),(1,b),(3,c),(4,d),(5,e),(7,f),(8,g),(9,h),(16,i)]
theorem indexsl_ok (lim : Nat) (H : Heap) (m : List Pr) (p : Pr) (hm : m.length ≤ 1000) :
    ACall sig lim 71 [prsAV m, .agg (prC p)] H fun r H' => (∃ k : Int, r = AV.i k ∧ ((0 ≤ k ∧ k < m.length ∧ gt m k.toNat = p) ∨ (k = -1 ∧ p ∉ m))) ∧ H' = H := by
 refine ACall_pure (fa := fa71) rfl rfl rfl rfl ?_
 have tr : ∀ a0 a1 : AV, env0 fa71.keep [a0, a1] = [(0,a0),(1,a1),(3,.any),(4,.any),(5,.any),(7,.any),(8,.any),(9,.any),(16,.any)] := fun a0 a1 => rfl
 refine W_to (tr _ _) ?_; clear tr
 refine at_seq rfl ?_
 refine rg rfl ?_
 refine R_box rfl (by simp (disch := first | omega | (simp only [List.length_map, List.length_append, List.length_set, List.length_cons, List.length_nil]; omega)) only [go_sem, ↓reduceIte, Nat.reduceEqDiff, reduceCtorEq] <;> rfl) rfl rfl ?_
 refine Rq ?_
 have tr : ∀ a b c d e f g h i j k : AV, let l := lc_indexsl_ok a b c d e f g h i; trim ((4,k)::(3,j)::l) l = [(0,a),(1,b),(3,j),(4,k),(5,e),(7,f),(8,g),(9,h),(16,i)] := by intros; rfl
 refine R_nil (tr ..) ?_; clear tr
 refine then_n ?_
 refine at_seq rfl ?_
 refine at_seq rfl ?_
 refine rg rfl ?_
 refine Rq ?_
 refine Rq ?_
 refine Rq ?_
 have tr : ∀ a b c d e f g h i j k m : AV, let l := lc_indexsl_ok a b c d e f g h i; trim ((8,m)::(7,k)::(6,j)::l) l = [(0,a),(1,b),(3,c),(4,d),(5,e),(7,k),(8,m),(9,h),(16,i)] := by intros; rfl
 refine R_nil (tr ..) ?_; clear tr
 refine then_n ?_
 refine at_block rfl ?_
 refine loop_n rfl (fun mm kv H' => ∃ u : Nat, ∃ x4 x5 x9 x16 : AV, (kv = [(4, x4), (5, x5), (8, AV.i u), (9, x9), (16, x16)]) ∧ (mm = m.length - u) ∧ (H' = H ++ [some (prC p)]) ∧ (u ≤ m.length) ∧ (∀ i, i < u → gt m i ≠ p)) ⟨0, _, _, _, _, rfl, rfl, rfl, by omega, by intro i hi; omega⟩ (by rfl) ?_
 rintro mm kv H' ⟨u, x4, x5, x9, x16, rfl, rfl, rfl, hu, hq⟩
 have tr : ∀ a b c d e f g h i j k m n o : AV, upd [(0,a),(1,b),(3,c),(4,d),(5,e),(7,f),(8,g),(9,h),(16,i)] [(4,j),(5,k),(8,m),(9,n),(16,o)] = [(0,a),(1,b),(3,c),(4,j),(5,k),(7,f),(8,m),(9,n),(16,o)] := by intros; rfl
 refine W_to (tr ..) ?_; clear tr
 refine at_seq rfl ?_
 refine rg rfl ?_
 refine Rq ?_
 have tr : ∀ a b c d e f g h i j : AV, let l := lc_indexsl_ok a b c d e f g h i; trim ((9,j)::l) l = [(0,a),(1,b),(3,c),(4,d),(5,e),(7,f),(8,g),(9,j),(16,i)] := by intros; rfl
 refine R_nil (tr ..) ?_; clear tr
 refine then_n ?_
 refine at_seq rfl ?_
 refine cdd (fun h1 => ?_) (fun h1 => ?_)
 ·
  try simp only [decide_eq_true_eq, decide_eq_false_iff_not, Bool.not_eq_true', Bool.not_eq_false', beq_iff_eq, beq_eq_false_iff_ne, ne_eq] at h1
  refine at_skip rfl ?_
  refine then_n ?_
  refine at_seq rfl ?_
  refine at_block rfl ?_
  refine at_seq rfl ?_
  refine rg rfl ?_
  refine Rq ?_
  refine Rq ?_
  have tr : ∀ a b c d e f g h i j k : AV, let l := lc_indexsl_ok a b c d e f g h i; trim ((5,k)::(10,j)::l) l = [(0,a),(1,b),(3,c),(4,d),(5,k),(7,f),(8,g),(9,h),(16,i)] := by intros; rfl
  refine R_nil (tr ..) ?_; clear tr
  refine then_n ?_
  refine at_seq rfl ?_
  refine rd rfl rfl ?_
  refine Qq ?_
  refine Qq ?_
  refine Qq ?_
  refine Qq ?_
  refine Qq ?_
  refine Qq ?_
  refine Q_nil ?_
  have tr : ∀ a b c d e f g h i j k m n o p : AV, let l := lc_indexsl_ok a b c d e f g h i; trim ((16,p)::(15,o)::(14,n)::(13,m)::(12,k)::(11,j)::l) l = [(0,a),(1,b),(3,c),(4,d),(5,e),(7,f),(8,g),(9,h),(16,p)] := by intros; rfl
  refine R_nil (tr ..) ?_; clear tr
  refine then_n ?_
  refine cdd (fun h2 => ?_) (fun h2 => ?_)
  ·
   try simp only [decide_eq_true_eq, decide_eq_false_iff_not, Bool.not_eq_true', Bool.not_eq_false', beq_iff_eq, beq_eq_false_iff_ne, ne_eq] at h2
   refine at_seq rfl ?_
   refine rg rfl ?_
   refine Rq ?_
   refine Rq ?_
   have tr : ∀ a b c d e f g h i j k : AV, let l := lc_indexsl_ok a b c d e f g h i; trim ((4,k)::(17,j)::l) l = [(0,a),(1,b),(3,c),(4,k),(5,e),(7,f),(8,g),(9,h),(16,i)] := by intros; rfl
   refine R_nil (tr ..) ?_; clear tr
   refine then_n ?_
   refine at_ret rfl ?_
   refine blk_r ?_
   refine then_r ?_
   refine then_r ?_
   refine blk_r ?_
   refine then_r ?_
   refine fpure ?_
   refine ⟨⟨_, rfl, .inl ⟨by omega, by omega, ?_⟩⟩, rfl⟩
   rw [Int.toNat_natCast]
   simp_all
  ·
   try simp only [decide_eq_true_eq, decide_eq_false_iff_not, Bool.not_eq_true', Bool.not_eq_false', beq_iff_eq, beq_eq_false_iff_ne, ne_eq] at h2
   refine at_skip rfl ?_
   refine blk_n ?_
   refine then_n ?_
   refine rg rfl ?_
   refine Rq ?_
   refine Rq ?_
   have tr : ∀ a b c d e f g h i j k : AV, let l := lc_indexsl_ok a b c d e f g h i; trim ((8,k)::(18,j)::l) l = [(0,a),(1,b),(3,c),(4,d),(5,e),(7,f),(8,k),(9,h),(16,i)] := by intros; rfl
   refine R_nil (tr ..) ?_; clear tr
   refine then_n ?_
   exact ⟨_, _, ⟨u + 1, _, _, _, _, rfl, rfl, rfl, by omega, by exact all_step hq (fun hh => by simp_all)⟩, by rfl, by omega⟩
 ·
  try simp only [decide_eq_true_eq, decide_eq_false_iff_not, Bool.not_eq_true', Bool.not_eq_false', beq_iff_eq, beq_eq_false_iff_ne, ne_eq] at h1
  refine at_exit rfl ?_
  refine then_x ?_
  refine then_x ?_
  refine blk_x ?_
  refine then_n ?_
  refine at_seq rfl ?_
  refine rg rfl ?_
  refine Rq ?_
  have tr : ∀ a b c d e f g h i j : AV, let l := lc_indexsl_ok a b c d e f g h i; trim ((4,j)::l) l = [(0,a),(1,b),(3,c),(4,j),(5,e),(7,f),(8,g),(9,h),(16,i)] := by intros; rfl
  refine R_nil (tr ..) ?_; clear tr
  refine then_n ?_
  refine at_ret rfl ?_
  refine fpure ?_
  refine ⟨⟨_, rfl, .inr ⟨rfl, fun hh => ?_⟩⟩, rfl⟩
  obtain ⟨i, hi, he⟩ := List.mem_iff_getElem.1 hh
  exact hq i (by omega) (by rw [gt_eq _ _ hi]; exact he)

end Go.Proofs.Ytdicnojnkbmdlaa
end
