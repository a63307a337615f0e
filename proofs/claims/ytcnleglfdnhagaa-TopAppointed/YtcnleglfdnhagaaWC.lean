/-
  Walks of chapter 55. The steps are written by program (walk.py).
-/
import Derived.Test.YtcnleglfdnhagaaMy
import Derived.Test.YtcnleglfdnhagaaSig
set_option linter.unusedSimpArgs false
set_option linter.unusedVariables false
set_option maxHeartbeats 4000000
set_option maxRecDepth 20000
namespace Go.Proofs.Ytcnleglfdnhagaa
open Go Go.Am
abbrev lc_clone24 (a b c : AV) : Env := [(0,a),(2,b),(4,c)]
theorem clone24 (lim : Nat) (H : Heap) (b : Nat) (c : List Int) (h0 : 0 < c.length) (h1 : c.length ≤ 1000) (hx : hget H b = some (c.map AV.i)) (hlim : lim ≤ H.length) : ACall sig lim 24 [.own 1 b 0 c.length] H fun r H' => ClW H H' r (c.map AV.i) c.length := by
 refine ACall_own (fa := fa24) rfl rfl rfl rfl ?_
 have tr : ∀ a0 : AV, env0 fa24.keep [a0] = [(0,a0),(2,.any),(4,.any)] := fun a0 => rfl
 refine W_to (tr _) ?_; clear tr
 refine at_seq rfl ?_
 refine rg rfl ?_
 refine Rq ?_
 have tr : ∀ a b c d : AV, let l := lc_clone24 a b c; trim ((2,d)::l) l = [(0,a),(2,d),(4,c)] := by intros; rfl
 refine R_nil (tr ..) ?_; clear tr
 refine then_n ?_
 refine at_seq rfl ?_
 refine at_seq rfl ?_
 refine rg rfl ?_
 refine Rq ?_
 refine R_q (r := .v (.bool false)) rfl (by simp (disch := first | omega | (simp only [List.length_map, List.length_append, List.length_set, List.length_cons, List.length_nil]; omega)) only [go_sem, ↓reduceIte, Nat.reduceEqDiff, reduceCtorEq] <;> rfl) ?_
 have tr : ∀ a b c d e : AV, let l := lc_clone24 a b c; trim ((4,e)::(3,d)::l) l = [(0,a),(2,b),(4,e)] := by intros; rfl
 refine R_nil (tr ..) ?_; clear tr
 refine then_n ?_
 refine cdd (fun h1 => ?_) (fun h1 => ?_)
 ·
  try simp only [decide_eq_true_eq, decide_eq_false_iff_not, Bool.not_eq_true', Bool.not_eq_false', beq_iff_eq, beq_eq_false_iff_ne, ne_eq] at h1
  refine at_seq rfl ?_
  refine rg rfl ?_
  refine Rq ?_
  have tr : ∀ a b c d : AV, let l := lc_clone24 a b c; trim ((2,d)::l) l = [(0,a),(2,d),(4,c)] := by intros; rfl
  refine R_nil (tr ..) ?_; clear tr
  refine then_n ?_
  refine at_ret rfl ?_
  refine then_r ?_
  exfalso; first | omega | (simp_all; done) | contradiction
 ·
  try simp only [decide_eq_true_eq, decide_eq_false_iff_not, Bool.not_eq_true', Bool.not_eq_false', beq_iff_eq, beq_eq_false_iff_ne, ne_eq] at h1
  refine at_skip rfl ?_
  refine then_n ?_
  refine at_seq rfl ?_
  refine rg rfl ?_
  refine A_buildSlice (bs25e _ _ _) ?_
  intro H1 n1
  have e1 := n1.len
  refine Rq ?_
  refine A_append (by simp (disch := first | omega | (simp only [List.length_map, List.length_append, List.length_set, List.length_cons, List.length_nil]; omega)) only [go_sem, ↓reduceIte, Nat.reduceEqDiff, reduceCtorEq]; exact app25g (.inr ⟨b, rfl, (n1.old _ (hget_lt hx)).trans hx⟩) n1.new (by omega) (by omega)) ?_
  intro H2 g2
  have e2 := g2.len
  refine Rq ?_
  have tr : ∀ a b c d e f g : AV, let l := lc_clone24 a b c; trim ((2,g)::(7,f)::(6,e)::(5,d)::l) l = [(0,a),(2,g),(4,c)] := by intros; rfl
  refine R_nil (tr ..) ?_; clear tr
  refine then_n ?_
  refine at_ret rfl ?_
  refine fin_own rfl (by simp only [go_sem, ↓reduceIte, Nat.reduceEqDiff]; rfl) ?_
  exact ⟨_, rfl, by omega, g2.new, fun c hc => (g2.old c (by omega) (by omega)).trans (n1.old c hc), (show H.length ≤ H2.length by omega)⟩

abbrev lc_clone40 (a b c : AV) : Env := [(0,a),(2,b),(4,c)]
theorem clone40 (lim : Nat) (H : Heap) (b : Nat) (c : List Bool) (h0 : 0 < c.length) (h1 : c.length ≤ 1000) (hx : hget H b = some (c.map bv)) (hlim : lim ≤ H.length) : ACall sig lim 40 [.own 1 b 0 c.length] H fun r H' => ClW H H' r (c.map bv) c.length := by
 refine ACall_own (fa := fa40) rfl rfl rfl rfl ?_
 have tr : ∀ a0 : AV, env0 fa40.keep [a0] = [(0,a0),(2,.any),(4,.any)] := fun a0 => rfl
 refine W_to (tr _) ?_; clear tr
 refine at_seq rfl ?_
 refine rg rfl ?_
 refine Rq ?_
 have tr : ∀ a b c d : AV, let l := lc_clone40 a b c; trim ((2,d)::l) l = [(0,a),(2,d),(4,c)] := by intros; rfl
 refine R_nil (tr ..) ?_; clear tr
 refine then_n ?_
 refine at_seq rfl ?_
 refine at_seq rfl ?_
 refine rg rfl ?_
 refine Rq ?_
 refine R_q (r := .v (.bool false)) rfl (by simp (disch := first | omega | (simp only [List.length_map, List.length_append, List.length_set, List.length_cons, List.length_nil]; omega)) only [go_sem, ↓reduceIte, Nat.reduceEqDiff, reduceCtorEq] <;> rfl) ?_
 have tr : ∀ a b c d e : AV, let l := lc_clone40 a b c; trim ((4,e)::(3,d)::l) l = [(0,a),(2,b),(4,e)] := by intros; rfl
 refine R_nil (tr ..) ?_; clear tr
 refine then_n ?_
 refine cdd (fun h1 => ?_) (fun h1 => ?_)
 ·
  try simp only [decide_eq_true_eq, decide_eq_false_iff_not, Bool.not_eq_true', Bool.not_eq_false', beq_iff_eq, beq_eq_false_iff_ne, ne_eq] at h1
  refine at_seq rfl ?_
  refine rg rfl ?_
  refine Rq ?_
  have tr : ∀ a b c d : AV, let l := lc_clone40 a b c; trim ((2,d)::l) l = [(0,a),(2,d),(4,c)] := by intros; rfl
  refine R_nil (tr ..) ?_; clear tr
  refine then_n ?_
  refine at_ret rfl ?_
  refine then_r ?_
  exfalso; first | omega | (simp_all; done) | contradiction
 ·
  try simp only [decide_eq_true_eq, decide_eq_false_iff_not, Bool.not_eq_true', Bool.not_eq_false', beq_iff_eq, beq_eq_false_iff_ne, ne_eq] at h1
  refine at_skip rfl ?_
  refine then_n ?_
  refine at_seq rfl ?_
  refine rg rfl ?_
  refine A_buildSlice (bs62e _ _ _) ?_
  intro H1 n1
  have e1 := n1.len
  refine Rq ?_
  refine A_append (by simp (disch := first | omega | (simp only [List.length_map, List.length_append, List.length_set, List.length_cons, List.length_nil]; omega)) only [go_sem, ↓reduceIte, Nat.reduceEqDiff, reduceCtorEq]; exact app62g ((n1.old _ (hget_lt hx)).trans hx) n1.new (by omega) (by omega)) ?_
  intro H2 g2
  have e2 := g2.len
  refine Rq ?_
  have tr : ∀ a b c d e f g : AV, let l := lc_clone40 a b c; trim ((2,g)::(7,f)::(6,e)::(5,d)::l) l = [(0,a),(2,g),(4,c)] := by intros; rfl
  refine R_nil (tr ..) ?_; clear tr
  refine then_n ?_
  refine at_ret rfl ?_
  refine fin_own rfl (by simp only [go_sem, ↓reduceIte, Nat.reduceEqDiff]; rfl) ?_
  exact ⟨_, rfl, by omega, g2.new, fun c hc => (g2.old c (by omega) (by omega)).trans (n1.old c hc), (show H.length ≤ H2.length by omega)⟩

abbrev lc_take_w (a b c : AV) : Env := [(0,a),(1,b),(2,c)]
theorem take_w (lim b bm bn bu : Nat) (rs : List Nat) (may : List (List Bool)) (n : Nat) (need used : List Int) (H : Heap) (S : Sta H b bm bn bu rs may n need) (hqu : hget H bu = some (used.map AV.i)) (hul : used.length = n) (hlu : lim ≤ bu) (hln : lim ≤ bn) (m u : Nat) (hm : m < need.length) (hu : u < n) (hnr : 0 ≤ gt need m ∧ gt need m ≤ 1000) :
    ACall sig lim 26 [.ptr b 0, AV.i (m : Int), AV.i (u : Int)] H fun r H' => r = .tup [] ∧ TkW H H' bn bu (need.set m (gt need m - 1)) (used.set u (-2)) := by
 have hst := S.st
 have hnd := S.nd
 refine ACall_own (fa := fa26) rfl rfl rfl rfl ?_
 have tr : ∀ a0 a1 a2 : AV, env0 fa26.keep [a0, a1, a2] = [(0,a0),(1,a1),(2,a2)] := fun a0 a1 a2 => rfl
 refine W_to (tr _ _ _) ?_; clear tr
 refine at_seq rfl ?_
 refine rg rfl ?_
 refine Rq ?_
 refine Rq ?_
 refine Rq ?_
 refine R_q rfl (by simp (disch := first | omega | (simp only [List.length_map, List.length_append, List.length_set, List.length_cons, List.length_nil]; omega)) only [go_sem, ↓reduceIte, Nat.reduceEqDiff, reduceCtorEq, hst, hnd, hqu]; rfl) ?_
 refine Rq ?_
 refine Rq ?_
 refine A_store ty3 (by simp (disch := first | omega | (simp only [List.length_map, List.length_append, List.length_set, List.length_cons, List.length_nil]; omega)) only [go_sem, ↓reduceIte, Nat.reduceEqDiff, reduceCtorEq, hst, hnd, hqu] <;> rfl) (by simp (disch := first | omega | (simp only [List.length_map, List.length_append, List.length_set, List.length_cons, List.length_nil]; omega)) only [go_sem, ↓reduceIte, Nat.reduceEqDiff, reduceCtorEq, hst, hnd, hqu] <;> rfl) hqu ⟨hlu, rfl, by simp only [List.length_map]; show u + 1 ≤ _; omega⟩ (setm AV.i used u (-2) (by omega)) ?_
 intro H1 w1
 have hst := (w1.old _ (Ne.symm S.ub)).trans hst
 have hnd := (w1.old _ (Ne.symm S.un)).trans hnd
 have tr : ∀ a b c d e f g h i : AV, let l := lc_take_w a b c; trim ((11,i)::(10,h)::(9,g)::(8,f)::(7,e)::(6,d)::l) l = [(0,a),(1,b),(2,c)] := by intros; rfl
 refine R_nil (tr ..) ?_; clear tr
 refine then_n ?_
 refine rg rfl ?_
 refine Rq ?_
 refine Rq ?_
 refine Rq ?_
 refine R_q rfl (by simp (disch := first | omega | (simp only [List.length_map, List.length_append, List.length_set, List.length_cons, List.length_nil]; omega)) only [go_sem, ↓reduceIte, Nat.reduceEqDiff, reduceCtorEq, hst, hnd, hqu]; rfl) ?_
 refine Rq ?_
 refine Rq ?_
 refine R_q rfl (by simp (disch := first | omega | (simp only [List.length_map, List.length_append, List.length_set, List.length_cons, List.length_nil]; omega)) only [go_sem, ↓reduceIte, Nat.reduceEqDiff, reduceCtorEq, hst, hnd, hqu]; rfl) ?_
 refine Rq ?_
 refine Rq ?_
 refine A_store ty3 (by simp (disch := first | omega | (simp only [List.length_map, List.length_append, List.length_set, List.length_cons, List.length_nil]; omega)) only [go_sem, ↓reduceIte, Nat.reduceEqDiff, reduceCtorEq, hst, hnd, hqu] <;> rfl) (by simp (disch := first | omega | (simp only [List.length_map, List.length_append, List.length_set, List.length_cons, List.length_nil]; omega)) only [go_sem, ↓reduceIte, Nat.reduceEqDiff, reduceCtorEq, hst, hnd, hqu] <;> rfl) hnd ⟨hln, rfl, by simp only [List.length_map]; show m + 1 ≤ _; omega⟩ (setm AV.i need m _ (by omega)) ?_
 intro H2 w2
 have tr : ∀ a b c d e f g h i j k m : AV, let l := lc_take_w a b c; trim ((20,m)::(19,k)::(18,j)::(17,i)::(16,h)::(15,g)::(14,f)::(13,e)::(12,d)::l) l = [(0,a),(1,b),(2,c)] := by intros; rfl
 refine R_nil (tr ..) ?_; clear tr
 refine fin_own_n rfl rfl ?_
 exact ⟨rfl, w2.new, (w2.old _ S.un).trans w1.new, fun c h1 h2 => (w2.old c h2).trans (w1.old c h1), w2.len.trans w1.len⟩

end Go.Proofs.Ytcnleglfdnhagaa
