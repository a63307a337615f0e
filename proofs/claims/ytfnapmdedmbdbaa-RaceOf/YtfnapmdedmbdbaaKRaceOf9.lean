/-
  Texts of RaceOf, part 10 of 16. Walks of chapter 51. The steps are written by program (walk.py).
-/
import Derived.Test.YtfnapmdedmbdbaaKRaceOf7
import Derived.Test.YtfnapmdedmbdbaaKRaceOf5
import Derived.Test.YtfnapmdedmbdbaaKRaceOf1
import Derived.Test.YtfnapmdedmbdbaaKRaceOf8
section
set_option linter.unusedSimpArgs false
set_option linter.unusedVariables false
set_option maxHeartbeats 1000000
set_option maxRecDepth 20000
namespace Go.Proofs.Ytfnapmdedmbdbaa
open Go Go.Am
abbrev lc_count_ok (a b c d e f g h i j k : AV) : Env := [(0,a),(1,b),(2,c),(3,d),(4,e),(5,f),(6,g),(8,h),(54,i),(62,j),(78,k)]
theorem count_ok (lim : Nat) (H : Heap) (b : Nat) (pre post : List AV) (z : St) (hlim : lim ≤ b) (hb : hget H b = some (pre ++ (stL z ++ post))) (u : Nat) (hu : u ≤ 400) (hz : StI u z.tm z) (p : Pl) (r q o a w : Int) (hr : 0 ≤ r ∧ r ≤ 2000) (hq : 0 ≤ q ∧ q ≤ 1000) (hor : 0 ≤ o ∧ o ≤ 2000) (ha : 0 ≤ a ∧ a ≤ 1000) (hw : w = 1 ∨ w = 2) :
    ACall sig lim 25 [.ptr b pre.length, .agg (plC p), AV.i r, AV.i q, AV.i o, AV.i a, AV.i w] H fun x H' => x = .tup [] ∧ hget H' b = some (pre ++ (stL (cnS z p.wi r q o a w) ++ post)) ∧ But b H H' := by
 unfold StI at hz
 refine ACall_own (fa := fa25) rfl rfl rfl rfl ?_
 have tr : ∀ a0 a1 a2 a3 a4 a5 a6 : AV, env0 fa25.keep [a0, a1, a2, a3, a4, a5, a6] = [(0,a0),(1,a1),(2,a2),(3,a3),(4,a4),(5,a5),(6,a6),(8,.any),(54,.any),(62,.any),(78,.any)] := fun a0 a1 a2 a3 a4 a5 a6 => rfl
 refine W_to (tr _ _ _ _ _ _ _) ?_; clear tr
 refine at_seq rfl ?_
 refine rg rfl ?_
 refine A_box rfl (by simp (disch := first | omega | (simp only [List.length_map, List.length_append, List.length_set, List.length_cons, List.length_nil]; omega)) only [go_sem, ↓reduceIte, Nat.reduceEqDiff, reduceCtorEq] <;> rfl) ?_
 intro H1 n1
 have ho : But b H H1 := But.new n1
 have qp := n1.new
 have hbl := hget_lt hb
 have hpb : H.length ≠ b := by omega
 have qb := (n1.old _ hbl).trans hb
 rw [st_app] at qb
 have tr : ∀ a b c d e f g h i j k m : AV, let l := lc_count_ok a b c d e f g h i j k; trim ((8,m)::l) l = [(0,a),(1,b),(2,c),(3,d),(4,e),(5,f),(6,g),(8,m),(54,i),(62,j),(78,k)] := by intros; rfl
 refine R_nil (tr ..) ?_; clear tr
 refine then_n ?_
 refine at_seq rfl ?_
 refine rg rfl ?_
 refine Rq ?_
 refine Rq ?_
 refine Rq ?_
 refine R_q rfl (by simp (disch := first | omega | (simp only [List.length_map, List.length_append, List.length_set, List.length_cons, List.length_nil]; omega)) only [go_sem, ↓reduceIte, Nat.reduceEqDiff, reduceCtorEq, qb, qp] <;> rfl) ?_
 refine Rq ?_
 refine Rq ?_
 refine Rq ?_
 refine A_store ty3 (by simp (disch := first | omega | (simp only [List.length_map, List.length_append, List.length_set, List.length_cons, List.length_nil]; omega)) only [go_sem, ↓reduceIte, Nat.reduceEqDiff, reduceCtorEq, qb, qp] <;> rfl) (by simp (disch := first | omega | (simp only [List.length_map, List.length_append, List.length_set, List.length_cons, List.length_nil]; omega)) only [go_sem, ↓reduceIte, Nat.reduceEqDiff, reduceCtorEq, qb, qp] <;> rfl) qb ⟨hlim, rfl, by simp; omega⟩ (k' := _) (by rw [setL_one, sAr] <;> rfl) ?_
 intro H2 w2
 have ho := ho.wrote w2
 have qp := (w2.old _ hpb).trans qp
 have qb := w2.new
 simp only [List.set_cons_succ, List.set_cons_zero] at qb
 have tr : ∀ a b c d e f g h i j k m n o p q r s : AV, let l := lc_count_ok a b c d e f g h i j k; trim ((20,s)::(19,r)::(18,q)::(17,p)::(16,o)::(15,n)::(14,m)::l) l = [(0,a),(1,b),(2,c),(3,d),(4,e),(5,f),(6,g),(8,h),(54,i),(62,j),(78,k)] := by intros; rfl
 refine R_nil (tr ..) ?_; clear tr
 refine then_n ?_
 refine at_seq rfl ?_
 refine rg rfl ?_
 refine Rq ?_
 refine Rq ?_
 refine Rq ?_
 refine R_q rfl (by simp (disch := first | omega | (simp only [List.length_map, List.length_append, List.length_set, List.length_cons, List.length_nil]; omega)) only [go_sem, ↓reduceIte, Nat.reduceEqDiff, reduceCtorEq, qb, qp] <;> rfl) ?_
 refine Rq ?_
 refine Rq ?_
 refine Rq ?_
 refine Rq ?_
 refine A_store ty3 (by simp (disch := first | omega | (simp only [List.length_map, List.length_append, List.length_set, List.length_cons, List.length_nil]; omega)) only [go_sem, ↓reduceIte, Nat.reduceEqDiff, reduceCtorEq, qb, qp] <;> rfl) (by simp (disch := first | omega | (simp only [List.length_map, List.length_append, List.length_set, List.length_cons, List.length_nil]; omega)) only [go_sem, ↓reduceIte, Nat.reduceEqDiff, reduceCtorEq, qb, qp] <;> rfl) qb ⟨hlim, rfl, by simp; omega⟩ (k' := _) (by rw [setL_one, sAr] <;> rfl) ?_
 intro H2 w2
 have ho := ho.wrote w2
 have qp := (w2.old _ hpb).trans qp
 have qb := w2.new
 simp only [List.set_cons_succ, List.set_cons_zero] at qb
 have tr : ∀ a b c d e f g h i j k m n o p q r s t : AV, let l := lc_count_ok a b c d e f g h i j k; trim ((28,t)::(27,s)::(26,r)::(25,q)::(24,p)::(23,o)::(22,n)::(21,m)::l) l = [(0,a),(1,b),(2,c),(3,d),(4,e),(5,f),(6,g),(8,h),(54,i),(62,j),(78,k)] := by intros; rfl
 refine R_nil (tr ..) ?_; clear tr
 refine then_n ?_
 refine at_seq rfl ?_
 refine rg rfl ?_
 refine Rq ?_
 refine Rq ?_
 refine Rq ?_
 refine R_q rfl (by simp (disch := first | omega | (simp only [List.length_map, List.length_append, List.length_set, List.length_cons, List.length_nil]; omega)) only [go_sem, ↓reduceIte, Nat.reduceEqDiff, reduceCtorEq, qb, qp] <;> rfl) ?_
 refine Rq ?_
 refine Rq ?_
 refine Rq ?_
 refine Rq ?_
 refine A_store ty3 (by simp (disch := first | omega | (simp only [List.length_map, List.length_append, List.length_set, List.length_cons, List.length_nil]; omega)) only [go_sem, ↓reduceIte, Nat.reduceEqDiff, reduceCtorEq, qb, qp] <;> rfl) (by simp (disch := first | omega | (simp only [List.length_map, List.length_append, List.length_set, List.length_cons, List.length_nil]; omega)) only [go_sem, ↓reduceIte, Nat.reduceEqDiff, reduceCtorEq, qb, qp] <;> rfl) qb ⟨hlim, rfl, by simp; omega⟩ (k' := _) (by rw [setL_one, sAr] <;> rfl) ?_
 intro H2 w2
 have ho := ho.wrote w2
 have qp := (w2.old _ hpb).trans qp
 have qb := w2.new
 simp only [List.set_cons_succ, List.set_cons_zero] at qb
 have tr : ∀ a b c d e f g h i j k m n o p q r s t : AV, let l := lc_count_ok a b c d e f g h i j k; trim ((36,t)::(35,s)::(34,r)::(33,q)::(32,p)::(31,o)::(30,n)::(29,m)::l) l = [(0,a),(1,b),(2,c),(3,d),(4,e),(5,f),(6,g),(8,h),(54,i),(62,j),(78,k)] := by intros; rfl
 refine R_nil (tr ..) ?_; clear tr
 refine then_n ?_
 refine at_seq rfl ?_
 refine rg rfl ?_
 refine Rq ?_
 refine Rq ?_
 refine Rq ?_
 refine R_q rfl (by simp (disch := first | omega | (simp only [List.length_map, List.length_append, List.length_set, List.length_cons, List.length_nil]; omega)) only [go_sem, ↓reduceIte, Nat.reduceEqDiff, reduceCtorEq, qb, qp] <;> rfl) ?_
 refine Rq ?_
 refine Rq ?_
 refine Rq ?_
 refine Rq ?_
 refine A_store ty3 (by simp (disch := first | omega | (simp only [List.length_map, List.length_append, List.length_set, List.length_cons, List.length_nil]; omega)) only [go_sem, ↓reduceIte, Nat.reduceEqDiff, reduceCtorEq, qb, qp] <;> rfl) (by simp (disch := first | omega | (simp only [List.length_map, List.length_append, List.length_set, List.length_cons, List.length_nil]; omega)) only [go_sem, ↓reduceIte, Nat.reduceEqDiff, reduceCtorEq, qb, qp] <;> rfl) qb ⟨hlim, rfl, by simp; omega⟩ (k' := _) (by rw [setL_one, sAr] <;> rfl) ?_
 intro H2 w2
 have ho := ho.wrote w2
 have qp := (w2.old _ hpb).trans qp
 have qb := w2.new
 simp only [List.set_cons_succ, List.set_cons_zero] at qb
 have tr : ∀ a b c d e f g h i j k m n o p q r s t : AV, let l := lc_count_ok a b c d e f g h i j k; trim ((44,t)::(43,s)::(42,r)::(41,q)::(40,p)::(39,o)::(38,n)::(37,m)::l) l = [(0,a),(1,b),(2,c),(3,d),(4,e),(5,f),(6,g),(8,h),(54,i),(62,j),(78,k)] := by intros; rfl
 refine R_nil (tr ..) ?_; clear tr
 refine then_n ?_
 refine at_seq rfl ?_
 refine rg rfl ?_
 refine Rq ?_
 refine Rq ?_
 refine Rq ?_
 refine R_q rfl (by simp (disch := first | omega | (simp only [List.length_map, List.length_append, List.length_set, List.length_cons, List.length_nil]; omega)) only [go_sem, ↓reduceIte, Nat.reduceEqDiff, reduceCtorEq, qb, qp] <;> rfl) ?_
 refine Rq ?_
 refine Rq ?_
 refine Rq ?_
 refine Rq ?_
 refine A_store ty3 (by simp (disch := first | omega | (simp only [List.length_map, List.length_append, List.length_set, List.length_cons, List.length_nil]; omega)) only [go_sem, ↓reduceIte, Nat.reduceEqDiff, reduceCtorEq, qb, qp] <;> rfl) (by simp (disch := first | omega | (simp only [List.length_map, List.length_append, List.length_set, List.length_cons, List.length_nil]; omega)) only [go_sem, ↓reduceIte, Nat.reduceEqDiff, reduceCtorEq, qb, qp] <;> rfl) qb ⟨hlim, rfl, by simp; omega⟩ (k' := _) (by rw [setL_one, sAr] <;> rfl) ?_
 intro H2 w2
 have ho := ho.wrote w2
 have qp := (w2.old _ hpb).trans qp
 have qb := w2.new
 simp only [List.set_cons_succ, List.set_cons_zero] at qb
 have tr : ∀ a b c d e f g h i j k m n o p q r s t : AV, let l := lc_count_ok a b c d e f g h i j k; trim ((52,t)::(51,s)::(50,r)::(49,q)::(48,p)::(47,o)::(46,n)::(45,m)::l) l = [(0,a),(1,b),(2,c),(3,d),(4,e),(5,f),(6,g),(8,h),(54,i),(62,j),(78,k)] := by intros; rfl
 refine R_nil (tr ..) ?_; clear tr
 refine then_n ?_
 refine at_seq rfl ?_
 refine rg rfl ?_
 refine Rq ?_
 refine R_q rfl (by simp (disch := first | omega | (simp only [List.length_map, List.length_append, List.length_set, List.length_cons, List.length_nil]; omega)) only [go_sem, ↓reduceIte, Nat.reduceEqDiff, reduceCtorEq, qb, qp] <;> rfl) ?_
 have tr : ∀ a b c d e f g h i j k m n : AV, let l := lc_count_ok a b c d e f g h i j k; trim ((54,n)::(53,m)::l) l = [(0,a),(1,b),(2,c),(3,d),(4,e),(5,f),(6,g),(8,h),(54,n),(62,j),(78,k)] := by intros; rfl
 refine R_nil (tr ..) ?_; clear tr
 refine then_n ?_
 refine at_block rfl ?_
 refine at_seq rfl ?_
 refine rg rfl ?_
 refine Rq ?_
 refine Rq ?_
 have tr : ∀ a b c d e f g h i j k m n : AV, let l := lc_count_ok a b c d e f g h i j k; trim ((62,n)::(63,m)::l) l = [(0,a),(1,b),(2,c),(3,d),(4,e),(5,f),(6,g),(8,h),(54,i),(62,n),(78,k)] := by intros; rfl
 refine R_nil (tr ..) ?_; clear tr
 refine then_n ?_
 refine cdd (fun h1 => ?_) (fun h1 => ?_)
 ·
  try simp only [decide_eq_true_eq, decide_eq_false_iff_not, decide_eq_decide, Bool.not_eq_true', Bool.not_eq_false', beq_iff_eq, beq_eq_false_iff_ne, ne_eq, Bool.and_eq_true, Bool.and_eq_false_iff, decide_not] at h1
  refine at_seq rfl ?_
  refine rg rfl ?_
  refine Rq ?_
  refine Rq ?_
  refine Rq ?_
  refine R_q rfl (by simp (disch := first | omega | (simp only [List.length_map, List.length_append, List.length_set, List.length_cons, List.length_nil]; omega)) only [go_sem, ↓reduceIte, Nat.reduceEqDiff, reduceCtorEq, qb, qp] <;> rfl) ?_
  refine Rq ?_
  refine Rq ?_
  refine Rq ?_
  refine A_store ty3 (by simp (disch := first | omega | (simp only [List.length_map, List.length_append, List.length_set, List.length_cons, List.length_nil]; omega)) only [go_sem, ↓reduceIte, Nat.reduceEqDiff, reduceCtorEq, qb, qp] <;> rfl) (by simp (disch := first | omega | (simp only [List.length_map, List.length_append, List.length_set, List.length_cons, List.length_nil]; omega)) only [go_sem, ↓reduceIte, Nat.reduceEqDiff, reduceCtorEq, qb, qp] <;> rfl) qb ⟨hlim, rfl, by simp; omega⟩ (k' := _) (by rw [setL_one, sAr] <;> rfl) ?_
  intro H2 w2
  have ho := ho.wrote w2
  have qp := (w2.old _ hpb).trans qp
  have qb := w2.new
  simp only [List.set_cons_succ, List.set_cons_zero] at qb
  have tr : ∀ a b c d e f g h i j k m n o p q r s : AV, let l := lc_count_ok a b c d e f g h i j k; trim ((70,s)::(69,r)::(68,q)::(67,p)::(66,o)::(65,n)::(64,m)::l) l = [(0,a),(1,b),(2,c),(3,d),(4,e),(5,f),(6,g),(8,h),(54,i),(62,j),(78,k)] := by intros; rfl
  refine R_nil (tr ..) ?_; clear tr
  refine then_n ?_
  refine rg rfl ?_
  refine Rq ?_
  refine Rq ?_
  refine Rq ?_
  refine R_q rfl (by simp (disch := first | omega | (simp only [List.length_map, List.length_append, List.length_set, List.length_cons, List.length_nil]; omega)) only [go_sem, ↓reduceIte, Nat.reduceEqDiff, reduceCtorEq, qb, qp] <;> rfl) ?_
  refine Rq ?_
  refine Rq ?_
  refine Rq ?_
  refine A_store ty3 (by simp (disch := first | omega | (simp only [List.length_map, List.length_append, List.length_set, List.length_cons, List.length_nil]; omega)) only [go_sem, ↓reduceIte, Nat.reduceEqDiff, reduceCtorEq, qb, qp] <;> rfl) (by simp (disch := first | omega | (simp only [List.length_map, List.length_append, List.length_set, List.length_cons, List.length_nil]; omega)) only [go_sem, ↓reduceIte, Nat.reduceEqDiff, reduceCtorEq, qb, qp] <;> rfl) qb ⟨hlim, rfl, by simp; omega⟩ (k' := _) (by rw [setL_one, sAr] <;> rfl) ?_
  intro H2 w2
  have ho := ho.wrote w2
  have qp := (w2.old _ hpb).trans qp
  have qb := w2.new
  simp only [List.set_cons_succ, List.set_cons_zero] at qb
  have tr : ∀ a b c d e f g h i j k m n o p q r s : AV, let l := lc_count_ok a b c d e f g h i j k; trim ((77,s)::(76,r)::(75,q)::(74,p)::(73,o)::(72,n)::(71,m)::l) l = [(0,a),(1,b),(2,c),(3,d),(4,e),(5,f),(6,g),(8,h),(54,i),(62,j),(78,k)] := by intros; rfl
  refine R_nil (tr ..) ?_; clear tr
  refine blk_n ?_
  refine fin_own_n rfl rfl ?_
  refine ⟨rfl, qb.trans ?_, ho⟩
  refine congrArg (fun k => some (pre ++ k)) ?_
  first | (rw [cn_0 (by assumption)] <;> rfl) | (rw [cn_w (by assumption) (by assumption)] <;> rfl) | (rw [cn_l (by assumption) (by assumption)] <;> rfl)
 ·
  try simp only [decide_eq_true_eq, decide_eq_false_iff_not, decide_eq_decide, Bool.not_eq_true', Bool.not_eq_false', beq_iff_eq, beq_eq_false_iff_ne, ne_eq, Bool.and_eq_true, Bool.and_eq_false_iff, decide_not] at h1
  refine at_seq rfl ?_
  refine rg rfl ?_
  refine Rq ?_
  refine Rq ?_
  refine Rq ?_
  have tr : ∀ a b c d e f g h i j k m n o : AV, let l := lc_count_ok a b c d e f g h i j k; trim ((78,o)::(80,n)::(79,m)::l) l = [(0,a),(1,b),(2,c),(3,d),(4,e),(5,f),(6,g),(8,h),(54,i),(62,j),(78,o)] := by intros; rfl
  refine R_nil (tr ..) ?_; clear tr
  refine then_n ?_
  refine cdd (fun h2 => ?_) (fun h2 => ?_)
  ·
   try simp only [decide_eq_true_eq, decide_eq_false_iff_not, decide_eq_decide, Bool.not_eq_true', Bool.not_eq_false', beq_iff_eq, beq_eq_false_iff_ne, ne_eq, Bool.and_eq_true, Bool.and_eq_false_iff, decide_not] at h2
   refine at_seq rfl ?_
   refine rg rfl ?_
   refine Rq ?_
   refine Rq ?_
   refine Rq ?_
   refine R_q rfl (by simp (disch := first | omega | (simp only [List.length_map, List.length_append, List.length_set, List.length_cons, List.length_nil]; omega)) only [go_sem, ↓reduceIte, Nat.reduceEqDiff, reduceCtorEq, qb, qp] <;> rfl) ?_
   refine Rq ?_
   refine Rq ?_
   refine Rq ?_
   refine A_store ty3 (by simp (disch := first | omega | (simp only [List.length_map, List.length_append, List.length_set, List.length_cons, List.length_nil]; omega)) only [go_sem, ↓reduceIte, Nat.reduceEqDiff, reduceCtorEq, qb, qp] <;> rfl) (by simp (disch := first | omega | (simp only [List.length_map, List.length_append, List.length_set, List.length_cons, List.length_nil]; omega)) only [go_sem, ↓reduceIte, Nat.reduceEqDiff, reduceCtorEq, qb, qp] <;> rfl) qb ⟨hlim, rfl, by simp; omega⟩ (k' := _) (by rw [setL_one, sAr] <;> rfl) ?_
   intro H2 w2
   have ho := ho.wrote w2
   have qp := (w2.old _ hpb).trans qp
   have qb := w2.new
   simp only [List.set_cons_succ, List.set_cons_zero] at qb
   have tr : ∀ a b c d e f g h i j k m n o p q r s : AV, let l := lc_count_ok a b c d e f g h i j k; trim ((87,s)::(86,r)::(85,q)::(84,p)::(83,o)::(82,n)::(81,m)::l) l = [(0,a),(1,b),(2,c),(3,d),(4,e),(5,f),(6,g),(8,h),(54,i),(62,j),(78,k)] := by intros; rfl
   refine R_nil (tr ..) ?_; clear tr
   refine then_n ?_
   refine rg rfl ?_
   refine Rq ?_
   refine Rq ?_
   refine Rq ?_
   refine R_q rfl (by simp (disch := first | omega | (simp only [List.length_map, List.length_append, List.length_set, List.length_cons, List.length_nil]; omega)) only [go_sem, ↓reduceIte, Nat.reduceEqDiff, reduceCtorEq, qb, qp] <;> rfl) ?_
   refine Rq ?_
   refine Rq ?_
   refine Rq ?_
   refine A_store ty3 (by simp (disch := first | omega | (simp only [List.length_map, List.length_append, List.length_set, List.length_cons, List.length_nil]; omega)) only [go_sem, ↓reduceIte, Nat.reduceEqDiff, reduceCtorEq, qb, qp] <;> rfl) (by simp (disch := first | omega | (simp only [List.length_map, List.length_append, List.length_set, List.length_cons, List.length_nil]; omega)) only [go_sem, ↓reduceIte, Nat.reduceEqDiff, reduceCtorEq, qb, qp] <;> rfl) qb ⟨hlim, rfl, by simp; omega⟩ (k' := _) (by rw [setL_one, sAr] <;> rfl) ?_
   intro H2 w2
   have ho := ho.wrote w2
   have qp := (w2.old _ hpb).trans qp
   have qb := w2.new
   simp only [List.set_cons_succ, List.set_cons_zero] at qb
   have tr : ∀ a b c d e f g h i j k m n o p q r s : AV, let l := lc_count_ok a b c d e f g h i j k; trim ((94,s)::(93,r)::(92,q)::(91,p)::(90,o)::(89,n)::(88,m)::l) l = [(0,a),(1,b),(2,c),(3,d),(4,e),(5,f),(6,g),(8,h),(54,i),(62,j),(78,k)] := by intros; rfl
   refine R_nil (tr ..) ?_; clear tr
   refine blk_n ?_
   refine fin_own_n rfl rfl ?_
   refine ⟨rfl, qb.trans ?_, ho⟩
   refine congrArg (fun k => some (pre ++ k)) ?_
   first | (rw [cn_0 (by assumption)] <;> rfl) | (rw [cn_w (by assumption) (by assumption)] <;> rfl) | (rw [cn_l (by assumption) (by assumption)] <;> rfl)
  ·
   try simp only [decide_eq_true_eq, decide_eq_false_iff_not, decide_eq_decide, Bool.not_eq_true', Bool.not_eq_false', beq_iff_eq, beq_eq_false_iff_ne, ne_eq, Bool.and_eq_true, Bool.and_eq_false_iff, decide_not] at h2
   refine rg rfl ?_
   refine Rq ?_
   refine Rq ?_
   refine Rq ?_
   refine R_q rfl (by simp (disch := first | omega | (simp only [List.length_map, List.length_append, List.length_set, List.length_cons, List.length_nil]; omega)) only [go_sem, ↓reduceIte, Nat.reduceEqDiff, reduceCtorEq, qb, qp] <;> rfl) ?_
   refine Rq ?_
   refine Rq ?_
   refine Rq ?_
   refine A_store ty3 (by simp (disch := first | omega | (simp only [List.length_map, List.length_append, List.length_set, List.length_cons, List.length_nil]; omega)) only [go_sem, ↓reduceIte, Nat.reduceEqDiff, reduceCtorEq, qb, qp] <;> rfl) (by simp (disch := first | omega | (simp only [List.length_map, List.length_append, List.length_set, List.length_cons, List.length_nil]; omega)) only [go_sem, ↓reduceIte, Nat.reduceEqDiff, reduceCtorEq, qb, qp] <;> rfl) qb ⟨hlim, rfl, by simp; omega⟩ (k' := _) (by rw [setL_one, sAr] <;> rfl) ?_
   intro H2 w2
   have ho := ho.wrote w2
   have qp := (w2.old _ hpb).trans qp
   have qb := w2.new
   simp only [List.set_cons_succ, List.set_cons_zero] at qb
   have tr : ∀ a b c d e f g h i j k m n o p q r s : AV, let l := lc_count_ok a b c d e f g h i j k; trim ((61,s)::(60,r)::(59,q)::(58,p)::(57,o)::(56,n)::(55,m)::l) l = [(0,a),(1,b),(2,c),(3,d),(4,e),(5,f),(6,g),(8,h),(54,i),(62,j),(78,k)] := by intros; rfl
   refine R_nil (tr ..) ?_; clear tr
   refine blk_n ?_
   refine fin_own_n rfl rfl ?_
   refine ⟨rfl, qb.trans ?_, ho⟩
   refine congrArg (fun k => some (pre ++ k)) ?_
   first | (rw [cn_0 (by assumption)] <;> rfl) | (rw [cn_w (by assumption) (by assumption)] <;> rfl) | (rw [cn_l (by assumption) (by assumption)] <;> rfl)

theorem count2_ok (lim : Nat) (H : Heap) (b : Nat) (zs : List St) (h : Nat) (hh : h < zs.length) (hlim : lim ≤ b) (hb : hget H b = some (flatZ zs)) (u : Nat) (hu : u ≤ 400) (hz : StI u (gz zs h).tm (gz zs h)) (p : Pl) (r q o a w : Int) (hr : 0 ≤ r ∧ r ≤ 2000) (hq : 0 ≤ q ∧ q ≤ 1000) (hor : 0 ≤ o ∧ o ≤ 2000) (ha : 0 ≤ a ∧ a ≤ 1000) (hw : w = 1 ∨ w = 2) :
    ACall sig lim 25 [.ptr b (h * 10), .agg (plC p), AV.i r, AV.i q, AV.i o, AV.i a, AV.i w] H fun x H' => x = .tup [] ∧ hget H' b = some (flatZ (zs.set h (cnS (gz zs h) p.wi r q o a w))) ∧ But b H H' := by
  have e := count_ok lim H b (flatZ (zs.take h)) (flatZ (zs.drop (h + 1))) (gz zs h) hlim (by rw [hb, flatZ_cut hh]) u hu hz p r q o a w hr hq hor ha hw
  rw [take_len hh, ← flatZ_put hh] at e
  exact e
end Go.Proofs.Ytfnapmdedmbdbaa
end
section
set_option linter.unusedSimpArgs false
set_option linter.unusedVariables false
set_option maxHeartbeats 1000000
set_option maxRecDepth 20000
namespace Go.Proofs.Ytfnapmdedmbdbaa
open Go Go.Am
abbrev lc_within_ok (a b c : AV) : Env := [(0,a),(1,b),(4,c)]
theorem within_ok (lim : Nat) (H : Heap) (n hi : Int) : ACall sig lim 42 [AV.i n, AV.i hi] H fun r H' => r = .v (.bool (decide (0 ≤ n ∧ n ≤ hi))) ∧ H' = H := by
 refine ACall_pure (fa := fa42) rfl rfl rfl rfl ?_
 have tr : ∀ a0 a1 : AV, env0 fa42.keep [a0, a1] = [(0,a0),(1,a1),(4,.any)] := fun a0 a1 => rfl
 refine W_to (tr _ _) ?_; clear tr
 refine at_seq rfl ?_
 refine rg rfl ?_
 refine Rq ?_
 have tr : ∀ a b c d : AV, let l := lc_within_ok a b c; trim ((4,d)::l) l = [(0,a),(1,b),(4,d)] := by intros; rfl
 refine R_nil (tr ..) ?_; clear tr
 refine then_n ?_
 refine at_seq rfl ?_
 refine rg rfl ?_
 refine Rq ?_
 refine Rq ?_
 refine Rq ?_
 refine Rp_split (fun h1 => ?_) (fun h1 => ?_)
 ·
  try simp only [decide_eq_true_eq, decide_eq_false_iff_not, decide_eq_decide, Bool.not_eq_true', Bool.not_eq_false', beq_iff_eq, beq_eq_false_iff_ne, ne_eq, Bool.and_eq_true, Bool.and_eq_false_iff, decide_not] at h1
  refine Ry ?_
  refine Rq ?_
  refine Ry ?_
  refine Rq ?_
  refine Ry ?_
  refine Rq ?_
  refine Rq ?_
  refine Rq ?_
  have tr : ∀ a b c d e f g h i j k : AV, let l := lc_within_ok a b c; trim ((4,k)::(11,j)::(10,i)::(9,h)::(8,g)::(7,f)::(6,e)::(5,d)::l) l = [(0,a),(1,b),(4,k)] := by intros; rfl
  refine R_nil (tr ..) ?_; clear tr
  refine then_n ?_
  refine at_ret rfl ?_
  refine fpure ?_
  refine ⟨?_, rfl⟩
  refine congrArg (fun b => AV.v (.bool b)) ?_
  first | rfl | exact (decide_eq_false (by omega)).symm | exact (decide_eq_true (by omega)).symm | (rw [decide_eq_decide]; omega) | (simp; omega)
 ·
  try simp only [decide_eq_true_eq, decide_eq_false_iff_not, decide_eq_decide, Bool.not_eq_true', Bool.not_eq_false', beq_iff_eq, beq_eq_false_iff_ne, ne_eq, Bool.and_eq_true, Bool.and_eq_false_iff, decide_not] at h1
  refine Rn ?_
  refine Rn ?_
  refine Rn ?_
  refine Rq ?_
  refine Rq ?_
  have tr : ∀ a b c d e f g h i j k : AV, let l := lc_within_ok a b c; trim ((4,k)::(11,j)::(10,i)::(9,h)::(8,g)::(7,f)::(6,e)::(5,d)::l) l = [(0,a),(1,b),(4,k)] := by intros; rfl
  refine R_nil (tr ..) ?_; clear tr
  refine then_n ?_
  refine at_ret rfl ?_
  refine fpure ?_
  refine ⟨?_, rfl⟩
  refine congrArg (fun b => AV.v (.bool b)) ?_
  first | rfl | exact (decide_eq_false (by omega)).symm | exact (decide_eq_true (by omega)).symm | (rw [decide_eq_decide]; omega) | (simp; omega)

abbrev lc_in_ok (a b : AV) : Env := [(0,a),(2,b)]
theorem in_ok (lim : Nat) (H : Heap) (n : Int) : ACall sig lim 82 [AV.i n] H fun r H' => r = .v (.bool (decide (inS n))) ∧ H' = H := by
 refine ACall_pure (fa := fa82) rfl rfl rfl rfl ?_
 have tr : ∀ a0 : AV, env0 fa82.keep [a0] = [(0,a0),(2,.any)] := fun a0 => rfl
 refine W_to (tr _) ?_; clear tr
 refine at_seq rfl ?_
 refine rg rfl ?_
 refine Rq ?_
 have tr : ∀ a b c : AV, let l := lc_in_ok a b; trim ((2,c)::l) l = [(0,a),(2,c)] := by intros; rfl
 refine R_nil (tr ..) ?_; clear tr
 refine then_n ?_
 refine at_seq rfl ?_
 refine rg rfl ?_
 refine Rq ?_
 refine Rq ?_
 refine Rq ?_
 refine Rp_split (fun h1 => ?_) (fun h1 => ?_)
 ·
  try simp only [decide_eq_true_eq, decide_eq_false_iff_not, decide_eq_decide, Bool.not_eq_true', Bool.not_eq_false', beq_iff_eq, beq_eq_false_iff_ne, ne_eq, Bool.and_eq_true, Bool.and_eq_false_iff, decide_not] at h1
  refine Ry ?_
  refine Rq ?_
  refine Ry ?_
  refine Rq ?_
  refine Rq ?_
  refine Rq ?_
  have tr : ∀ a b c d e f g h i : AV, let l := lc_in_ok a b; trim ((2,i)::(8,h)::(7,g)::(6,f)::(5,e)::(4,d)::(3,c)::l) l = [(0,a),(2,i)] := by intros; rfl
  refine R_nil (tr ..) ?_; clear tr
  refine then_n ?_
  refine at_ret rfl ?_
  refine fpure ?_
  refine ⟨?_, rfl⟩
  refine congrArg (fun b => AV.v (.bool b)) ?_
  first | rfl | exact (decide_eq_false (by (unfold inS; omega))).symm | exact (decide_eq_true (by (unfold inS; omega))).symm | (rw [decide_eq_decide]; (unfold inS; omega)) | (unfold inS; simp; omega)
 ·
  try simp only [decide_eq_true_eq, decide_eq_false_iff_not, decide_eq_decide, Bool.not_eq_true', Bool.not_eq_false', beq_iff_eq, beq_eq_false_iff_ne, ne_eq, Bool.and_eq_true, Bool.and_eq_false_iff, decide_not] at h1
  refine Rn ?_
  refine Rn ?_
  refine Rq ?_
  refine Rq ?_
  have tr : ∀ a b c d e f g h i : AV, let l := lc_in_ok a b; trim ((2,i)::(8,h)::(7,g)::(6,f)::(5,e)::(4,d)::(3,c)::l) l = [(0,a),(2,i)] := by intros; rfl
  refine R_nil (tr ..) ?_; clear tr
  refine then_n ?_
  refine at_ret rfl ?_
  refine fpure ?_
  refine ⟨?_, rfl⟩
  refine congrArg (fun b => AV.v (.bool b)) ?_
  first | rfl | exact (decide_eq_false (by (unfold inS; omega))).symm | exact (decide_eq_true (by (unfold inS; omega))).symm | (rw [decide_eq_decide]; (unfold inS; omega)) | (unfold inS; simp; omega)

abbrev lc_sign_ok (a b c : AV) : Env := [(0,a),(2,b),(3,c)]
theorem sign_ok (lim : Nat) (H : Heap) (b : Bool) : ACall sig lim 49 [.v (.bool b)] H fun r H' => r = AV.i (if b = true then -1 else 1) ∧ H' = H := by
 refine ACall_pure (fa := fa49) rfl rfl rfl rfl ?_
 have tr : ∀ a0 : AV, env0 fa49.keep [a0] = [(0,a0),(2,.any),(3,.any)] := fun a0 => rfl
 refine W_to (tr _) ?_; clear tr
 refine at_seq rfl ?_
 refine rg rfl ?_
 refine Rq ?_
 have tr : ∀ a b c d : AV, let l := lc_sign_ok a b c; trim ((2,d)::l) l = [(0,a),(2,d),(3,c)] := by intros; rfl
 refine R_nil (tr ..) ?_; clear tr
 refine then_n ?_
 refine at_seq rfl ?_
 refine at_seq rfl ?_
 refine rg rfl ?_
 refine Rq ?_
 have tr : ∀ a b c d : AV, let l := lc_sign_ok a b c; trim ((3,d)::l) l = [(0,a),(2,b),(3,d)] := by intros; rfl
 refine R_nil (tr ..) ?_; clear tr
 refine then_n ?_
 refine cdd (fun h1 => ?_) (fun h1 => ?_)
 ·
  try simp only [decide_eq_true_eq, decide_eq_false_iff_not, decide_eq_decide, Bool.not_eq_true', Bool.not_eq_false', beq_iff_eq, beq_eq_false_iff_ne, ne_eq, Bool.and_eq_true, Bool.and_eq_false_iff, decide_not] at h1
  refine at_seq rfl ?_
  refine rg rfl ?_
  refine Rq ?_
  have tr : ∀ a b c d : AV, let l := lc_sign_ok a b c; trim ((2,d)::l) l = [(0,a),(2,d),(3,c)] := by intros; rfl
  refine R_nil (tr ..) ?_; clear tr
  refine then_n ?_
  refine at_ret rfl ?_
  refine then_r ?_
  refine fpure ?_
  refine ⟨?_, rfl⟩
  first | rfl | (rw [if_pos (by assumption)] <;> rfl) | (rw [if_neg (by simp_all)] <;> rfl) | (simp_all <;> rfl)
 ·
  try simp only [decide_eq_true_eq, decide_eq_false_iff_not, decide_eq_decide, Bool.not_eq_true', Bool.not_eq_false', beq_iff_eq, beq_eq_false_iff_ne, ne_eq, Bool.and_eq_true, Bool.and_eq_false_iff, decide_not] at h1
  refine at_skip rfl ?_
  refine then_n ?_
  refine at_seq rfl ?_
  refine rg rfl ?_
  refine Rq ?_
  have tr : ∀ a b c d : AV, let l := lc_sign_ok a b c; trim ((2,d)::l) l = [(0,a),(2,d),(3,c)] := by intros; rfl
  refine R_nil (tr ..) ?_; clear tr
  refine then_n ?_
  refine at_ret rfl ?_
  refine fpure ?_
  refine ⟨?_, rfl⟩
  first | rfl | (rw [if_pos (by assumption)] <;> rfl) | (rw [if_neg (by simp_all)] <;> rfl) | (simp_all <;> rfl)

abbrev lc_rrate_ok (a b c d e f g h i j : AV) : Env := [(0,a),(1,b),(2,c),(3,d),(4,e),(5,f),(6,g),(7,h),(17,i),(19,j)]
theorem rrate_ok (lim : Nat) (H : Heap) (z : St) (hok : okS z) : ACall sig lim 70 [stA z] H fun r H' => r = .tup [AV.i (rxn z), AV.i (rxd z)] ∧ H' = H := by
 have hpr := prod_rng hok
 refine ACall_pure (fa := fa70) rfl rfl rfl rfl ?_
 have tr : ∀ a0 : AV, env0 fa70.keep [a0] = [(0,a0),(1,.any),(2,.any),(3,.any),(4,.any),(5,.any),(6,.any),(7,.any),(17,.any),(19,.any)] := fun a0 => rfl
 refine W_to (tr _) ?_; clear tr
 refine at_seq rfl ?_
 refine rg rfl ?_
 refine R_box rfl (by simp (disch := first | omega | (simp only [List.length_map, List.length_append, List.length_set, List.length_cons, List.length_nil]; omega)) only [go_sem, ↓reduceIte, Nat.reduceEqDiff, reduceCtorEq] <;> rfl) rfl rfl ?_
 refine Rq ?_
 refine Rq ?_
 have tr : ∀ a b c d e f g h i j k m n : AV, let l := lc_rrate_ok a b c d e f g h i j; trim ((3,n)::(2,m)::(1,k)::l) l = [(0,a),(1,k),(2,m),(3,n),(4,e),(5,f),(6,g),(7,h),(17,i),(19,j)] := by intros; rfl
 refine R_nil (tr ..) ?_; clear tr
 refine then_n ?_
 refine at_seq rfl ?_
 refine rd rfl rfl ?_
 refine Qq ?_
 refine Qq ?_
 refine Qq ?_
 refine Qq ?_
 refine Qq ?_
 refine Qq ?_
 refine Qq ?_
 refine Qq ?_
 refine Qq ?_
 refine Qq ?_
 refine Qq ?_
 refine Qq ?_
 refine Q_nil ?_
 have tr : ∀ a b c d e f g h i j k m n o p q r s t u v w : AV, let l := lc_rrate_ok a b c d e f g h i j; trim ((7,w)::(6,v)::(5,u)::(4,t)::(15,s)::(14,r)::(13,q)::(12,p)::(11,o)::(10,n)::(9,m)::(8,k)::l) l = [(0,a),(1,b),(2,c),(3,d),(4,t),(5,u),(6,v),(7,w),(17,i),(19,j)] := by intros; rfl
 refine R_nil (tr ..) ?_; clear tr
 refine then_n ?_
 refine seq_cut rfl (fun s => ∃ x17 : AV, s = ⟨[(0, stA z), (1, .ptr H.length 0), (2, AV.i 0), (3, AV.i 0), (4, AV.i (nil0 z.bf z.rf)), (5, AV.i (one z.bf)), (6, AV.i (z.ra)), (7, AV.i (z.ba)), (17, x17), (19, .any)], H ++ [some (stL z)]⟩) ?_ ?_
 ·
  refine at_seq rfl ?_
  refine rg rfl ?_
  refine Rq ?_
  refine Rq ?_
  have tr : ∀ a b c d e f g h i j k m : AV, let l := lc_rrate_ok a b c d e f g h i j; trim ((17,m)::(16,k)::l) l = [(0,a),(1,b),(2,c),(3,d),(4,e),(5,f),(6,g),(7,h),(17,m),(19,j)] := by intros; rfl
  refine R_nil (tr ..) ?_; clear tr
  refine then_n ?_
  refine cdd (fun h1 => ?_) (fun h1 => ?_)
  ·
   try simp only [decide_eq_true_eq, decide_eq_false_iff_not, decide_eq_decide, Bool.not_eq_true', Bool.not_eq_false', beq_iff_eq, beq_eq_false_iff_ne, ne_eq, Bool.and_eq_true, Bool.and_eq_false_iff, decide_not] at h1
   refine rg rfl ?_
   refine Rq ?_
   refine Rq ?_
   have tr : ∀ a b c d e f g h i j k m : AV, let l := lc_rrate_ok a b c d e f g h i j; trim ((5,m)::(4,k)::l) l = [(0,a),(1,b),(2,c),(3,d),(4,k),(5,m),(6,g),(7,h),(17,i),(19,j)] := by intros; rfl
   refine R_nil (tr ..) ?_; clear tr
   refine then_n ?_
   exact ⟨_, by first | (rw [nil0_y (by assumption : z.bf = 0), one_y (by assumption : z.bf = 0)]) | (rw [nil0_n (by assumption : ¬ z.bf = 0), one_n (by assumption : ¬ z.bf = 0)])⟩
  ·
   try simp only [decide_eq_true_eq, decide_eq_false_iff_not, decide_eq_decide, Bool.not_eq_true', Bool.not_eq_false', beq_iff_eq, beq_eq_false_iff_ne, ne_eq, Bool.and_eq_true, Bool.and_eq_false_iff, decide_not] at h1
   refine at_skip rfl ?_
   refine then_n ?_
   exact ⟨_, by first | (rw [nil0_y (by assumption : z.bf = 0), one_y (by assumption : z.bf = 0)]) | (rw [nil0_n (by assumption : ¬ z.bf = 0), one_n (by assumption : ¬ z.bf = 0)])⟩
 ·
  rintro s ⟨x17, rfl⟩
  refine seq_cut rfl (fun s => ∃ x17 x19 : AV, s = ⟨[(0, stA z), (1, .ptr H.length 0), (2, AV.i 0), (3, AV.i 0), (4, AV.i (nil0 z.bf z.rf)), (5, AV.i (one z.bf)), (6, AV.i (nil0 z.ba z.ra)), (7, AV.i (one z.ba)), (17, x17), (19, x19)], H ++ [some (stL z)]⟩) ?_ ?_
  ·
   refine at_seq rfl ?_
   refine rg rfl ?_
   refine Rq ?_
   refine Rq ?_
   have tr : ∀ a b c d e f g h i j k m : AV, let l := lc_rrate_ok a b c d e f g h i j; trim ((19,m)::(18,k)::l) l = [(0,a),(1,b),(2,c),(3,d),(4,e),(5,f),(6,g),(7,h),(17,i),(19,m)] := by intros; rfl
   refine R_nil (tr ..) ?_; clear tr
   refine then_n ?_
   refine cdd (fun h2 => ?_) (fun h2 => ?_)
   ·
    try simp only [decide_eq_true_eq, decide_eq_false_iff_not, decide_eq_decide, Bool.not_eq_true', Bool.not_eq_false', beq_iff_eq, beq_eq_false_iff_ne, ne_eq, Bool.and_eq_true, Bool.and_eq_false_iff, decide_not] at h2
    refine rg rfl ?_
    refine Rq ?_
    refine Rq ?_
    have tr : ∀ a b c d e f g h i j k m : AV, let l := lc_rrate_ok a b c d e f g h i j; trim ((7,m)::(6,k)::l) l = [(0,a),(1,b),(2,c),(3,d),(4,e),(5,f),(6,k),(7,m),(17,i),(19,j)] := by intros; rfl
    refine R_nil (tr ..) ?_; clear tr
    refine then_n ?_
    exact ⟨_, _, by first | (rw [nil0_y (by assumption : z.ba = 0), one_y (by assumption : z.ba = 0)]) | (rw [nil0_n (by assumption : ¬ z.ba = 0), one_n (by assumption : ¬ z.ba = 0)])⟩
   ·
    try simp only [decide_eq_true_eq, decide_eq_false_iff_not, decide_eq_decide, Bool.not_eq_true', Bool.not_eq_false', beq_iff_eq, beq_eq_false_iff_ne, ne_eq, Bool.and_eq_true, Bool.and_eq_false_iff, decide_not] at h2
    refine at_skip rfl ?_
    refine then_n ?_
    exact ⟨_, _, by first | (rw [nil0_y (by assumption : z.ba = 0), one_y (by assumption : z.ba = 0)]) | (rw [nil0_n (by assumption : ¬ z.ba = 0), one_n (by assumption : ¬ z.ba = 0)])⟩
  ·
   rintro s ⟨x17, x19, rfl⟩
   refine at_seq rfl ?_
   refine rg rfl ?_
   refine Rq ?_
   refine Rq ?_
   refine Rq ?_
   refine Rq ?_
   refine Rq ?_
   refine Rq ?_
   refine Rq ?_
   refine Rq ?_
   refine Rq ?_
   refine Rq ?_
   refine Rq ?_
   refine Rq ?_
   have tr : ∀ a b c d e f g h i j k m n o p q r s t u v w : AV, let l := lc_rrate_ok a b c d e f g h i j; trim ((3,w)::(2,v)::(29,u)::(28,t)::(27,s)::(26,r)::(25,q)::(24,p)::(23,o)::(22,n)::(21,m)::(20,k)::l) l = [(0,a),(1,b),(2,v),(3,w),(4,e),(5,f),(6,g),(7,h),(17,i),(19,j)] := by intros; rfl
   refine R_nil (tr ..) ?_; clear tr
   refine then_n ?_
   refine at_ret rfl ?_
   refine fpure ?_
   refine ⟨?_, rfl⟩
   rfl

abbrev lc_valid_ok (a b c : AV) : Env := [(0,a),(1,b),(2,c)]
theorem valid_ok (lim : Nat) (H : Heap) (z : St) : ACall sig lim 69 [stA z] H fun r H' => r = .v (.bool (decide (okS z))) ∧ H' = H := by
 refine ACall_pure (fa := fa69) rfl rfl rfl rfl ?_
 have tr : ∀ a0 : AV, env0 fa69.keep [a0] = [(0,a0),(1,.any),(2,.any)] := fun a0 => rfl
 refine W_to (tr _) ?_; clear tr
 refine at_seq rfl ?_
 refine rg rfl ?_
 refine R_box rfl (by simp (disch := first | omega | (simp only [List.length_map, List.length_append, List.length_set, List.length_cons, List.length_nil]; omega)) only [go_sem, ↓reduceIte, Nat.reduceEqDiff, reduceCtorEq] <;> rfl) rfl rfl ?_
 refine Rq ?_
 have tr : ∀ a b c d e : AV, let l := lc_valid_ok a b c; trim ((2,e)::(1,d)::l) l = [(0,a),(1,d),(2,e)] := by intros; rfl
 refine R_nil (tr ..) ?_; clear tr
 refine then_n ?_
 refine at_seq rfl ?_
 refine rg rfl ?_
 refine Rq ?_
 refine Rq ?_
 refine Rcall ?_
 refine ACall_eq (in_ok _ _ _) ?_
 refine Rq ?_
 refine Rp_split (fun h1 => ?_) (fun h1 => ?_)
 ·
  try simp only [decide_eq_true_eq, decide_eq_false_iff_not, decide_eq_decide, Bool.not_eq_true', Bool.not_eq_false', beq_iff_eq, beq_eq_false_iff_ne, ne_eq, Bool.and_eq_true, Bool.and_eq_false_iff, decide_not] at h1
  refine Ry ?_
  refine Rq ?_
  refine Ry ?_
  refine Rq ?_
  refine Ry ?_
  refine Rcall ?_
  refine ACall_eq (in_ok _ _ _) ?_
  refine Rq ?_
  refine Rq ?_
  refine Rp_split (fun h2 => ?_) (fun h2 => ?_)
  ·
   try simp only [decide_eq_true_eq, decide_eq_false_iff_not, decide_eq_decide, Bool.not_eq_true', Bool.not_eq_false', beq_iff_eq, beq_eq_false_iff_ne, ne_eq, Bool.and_eq_true, Bool.and_eq_false_iff, decide_not] at h2
   refine Ry ?_
   refine Rq ?_
   refine Ry ?_
   refine Rq ?_
   refine Ry ?_
   refine Rcall ?_
   refine ACall_eq (in_ok _ _ _) ?_
   refine Rq ?_
   refine Rq ?_
   refine Rp_split (fun h3 => ?_) (fun h3 => ?_)
   ·
    try simp only [decide_eq_true_eq, decide_eq_false_iff_not, decide_eq_decide, Bool.not_eq_true', Bool.not_eq_false', beq_iff_eq, beq_eq_false_iff_ne, ne_eq, Bool.and_eq_true, Bool.and_eq_false_iff, decide_not] at h3
    refine Ry ?_
    refine Rq ?_
    refine Ry ?_
    refine Rq ?_
    refine Ry ?_
    refine Rcall ?_
    refine ACall_eq (in_ok _ _ _) ?_
    refine Rq ?_
    refine Rq ?_
    have tr : ∀ a b c d e f g h i j k m n o p q r s t u v w : AV, let l := lc_valid_ok a b c; trim ((2,w)::(20,v)::(19,u)::(18,t)::(17,s)::(16,r)::(15,q)::(14,p)::(13,o)::(12,n)::(11,m)::(10,k)::(9,j)::(8,i)::(7,h)::(6,g)::(5,f)::(4,e)::(3,d)::l) l = [(0,a),(1,b),(2,w)] := by intros; rfl
    refine R_nil (tr ..) ?_; clear tr
    refine then_n ?_
    refine at_ret rfl ?_
    refine fpure ?_
    refine ⟨?_, rfl⟩
    refine congrArg (fun b => AV.v (.bool b)) ?_
    first | rfl | exact (decide_eq_false (fun h => absurd h.1 (by assumption))).symm | exact (decide_eq_false (fun h => absurd h.2.1 (by assumption))).symm | exact (decide_eq_false (fun h => absurd h.2.2.1 (by assumption))).symm | (rw [decide_eq_decide]; exact ⟨fun h => ⟨by assumption, by assumption, by assumption, h⟩, fun h => h.2.2.2⟩)
   ·
    try simp only [decide_eq_true_eq, decide_eq_false_iff_not, decide_eq_decide, Bool.not_eq_true', Bool.not_eq_false', beq_iff_eq, beq_eq_false_iff_ne, ne_eq, Bool.and_eq_true, Bool.and_eq_false_iff, decide_not] at h3
    refine Rn ?_
    refine Rn ?_
    refine Rn ?_
    refine Rq ?_
    refine Rq ?_
    have tr : ∀ a b c d e f g h i j k m n o p q r s t u v w : AV, let l := lc_valid_ok a b c; trim ((2,w)::(20,v)::(19,u)::(18,t)::(17,s)::(16,r)::(15,q)::(14,p)::(13,o)::(12,n)::(11,m)::(10,k)::(9,j)::(8,i)::(7,h)::(6,g)::(5,f)::(4,e)::(3,d)::l) l = [(0,a),(1,b),(2,w)] := by intros; rfl
    refine R_nil (tr ..) ?_; clear tr
    refine then_n ?_
    refine at_ret rfl ?_
    refine fpure ?_
    refine ⟨?_, rfl⟩
    refine congrArg (fun b => AV.v (.bool b)) ?_
    first | rfl | exact (decide_eq_false (fun h => absurd h.1 (by assumption))).symm | exact (decide_eq_false (fun h => absurd h.2.1 (by assumption))).symm | exact (decide_eq_false (fun h => absurd h.2.2.1 (by assumption))).symm | (rw [decide_eq_decide]; exact ⟨fun h => ⟨by assumption, by assumption, by assumption, h⟩, fun h => h.2.2.2⟩)
  ·
   try simp only [decide_eq_true_eq, decide_eq_false_iff_not, decide_eq_decide, Bool.not_eq_true', Bool.not_eq_false', beq_iff_eq, beq_eq_false_iff_ne, ne_eq, Bool.and_eq_true, Bool.and_eq_false_iff, decide_not] at h2
   refine Rn ?_
   refine Rn ?_
   refine Rn ?_
   refine Rq ?_
   refine Rq ?_
   refine Rn ?_
   refine Rn ?_
   refine Rn ?_
   refine Rq ?_
   refine Rq ?_
   have tr : ∀ a b c d e f g h i j k m n o p q r s t u v w : AV, let l := lc_valid_ok a b c; trim ((2,w)::(20,v)::(19,u)::(18,t)::(17,s)::(16,r)::(15,q)::(14,p)::(13,o)::(12,n)::(11,m)::(10,k)::(9,j)::(8,i)::(7,h)::(6,g)::(5,f)::(4,e)::(3,d)::l) l = [(0,a),(1,b),(2,w)] := by intros; rfl
   refine R_nil (tr ..) ?_; clear tr
   refine then_n ?_
   refine at_ret rfl ?_
   refine fpure ?_
   refine ⟨?_, rfl⟩
   refine congrArg (fun b => AV.v (.bool b)) ?_
   first | rfl | exact (decide_eq_false (fun h => absurd h.1 (by assumption))).symm | exact (decide_eq_false (fun h => absurd h.2.1 (by assumption))).symm | exact (decide_eq_false (fun h => absurd h.2.2.1 (by assumption))).symm | (rw [decide_eq_decide]; exact ⟨fun h => ⟨by assumption, by assumption, by assumption, h⟩, fun h => h.2.2.2⟩)
 ·
  try simp only [decide_eq_true_eq, decide_eq_false_iff_not, decide_eq_decide, Bool.not_eq_true', Bool.not_eq_false', beq_iff_eq, beq_eq_false_iff_ne, ne_eq, Bool.and_eq_true, Bool.and_eq_false_iff, decide_not] at h1
  refine Rn ?_
  refine Rn ?_
  refine Rn ?_
  refine Rq ?_
  refine Rq ?_
  refine Rn ?_
  refine Rn ?_
  refine Rn ?_
  refine Rq ?_
  refine Rq ?_
  refine Rn ?_
  refine Rn ?_
  refine Rn ?_
  refine Rq ?_
  refine Rq ?_
  have tr : ∀ a b c d e f g h i j k m n o p q r s t u v w : AV, let l := lc_valid_ok a b c; trim ((2,w)::(20,v)::(19,u)::(18,t)::(17,s)::(16,r)::(15,q)::(14,p)::(13,o)::(12,n)::(11,m)::(10,k)::(9,j)::(8,i)::(7,h)::(6,g)::(5,f)::(4,e)::(3,d)::l) l = [(0,a),(1,b),(2,w)] := by intros; rfl
  refine R_nil (tr ..) ?_; clear tr
  refine then_n ?_
  refine at_ret rfl ?_
  refine fpure ?_
  refine ⟨?_, rfl⟩
  refine congrArg (fun b => AV.v (.bool b)) ?_
  first | rfl | exact (decide_eq_false (fun h => absurd h.1 (by assumption))).symm | exact (decide_eq_false (fun h => absurd h.2.1 (by assumption))).symm | exact (decide_eq_false (fun h => absurd h.2.2.1 (by assumption))).symm | (rw [decide_eq_decide]; exact ⟨fun h => ⟨by assumption, by assumption, by assumption, h⟩, fun h => h.2.2.2⟩)

end Go.Proofs.Ytfnapmdedmbdbaa
end
