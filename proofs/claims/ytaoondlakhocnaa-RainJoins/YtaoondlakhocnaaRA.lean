/-
  Walks of chapters 37, 39 and 40. The steps are written by program (walk.py).
-/
import Derived.Test.YtaoondlakhocnaaTy
set_option linter.unusedSimpArgs false
set_option linter.unusedVariables false
set_option maxHeartbeats 40000000
set_option maxRecDepth 4000
namespace Go.Proofs.Ytaoondlakhocnaa
open Go Go.Am

abbrev rowAV (r : List Int) : AV := .sl r.length (r.map AV.i)
abbrev rowsAV (r : List (List Int)) : AV := .sl r.length (r.map rowAV)
def okN (n : Int) : Prop := 0 ≤ n ∧ n ≤ 10000
def SameLen (r : List (List Int)) : Prop := ∀ u, u < r.length → (gt r u).length = (gt r 0).length
def InRange (r : List (List Int)) : Prop := ∀ u, u < r.length → ∀ w, w < (gt r u).length → okN (gt (gt r u) w)
open Classical in
noncomputable def shapeS (r : List (List Int)) : Int :=
  if r.length < 2 ∨ (gt r 0).length = 0 then 1 else
  if 91 < r.length ∨ 10 < (gt r 0).length then 9 else
  if ¬ SameLen r then 1 else if ¬ InRange r then 2 else 0
def Zero0 (r : List (List Int)) : Prop := ∀ w, w < (gt r 0).length → gt (gt r 0) w = 0
open Classical in
noncomputable def endsS (r : List (List Int)) : Int :=
  if ¬ Zero0 r then 1 else if gt (gt r (r.length - 1)) 0 ≠ 10000 then 12 else 0
open Classical in
noncomputable def rawS (r : List (List Int)) : Int := if shapeS r ≠ 0 then shapeS r else endsS r
def Down (r : List (List Int)) : Prop := ∀ u, u < r.length → ∀ w, w < (gt r u).length → (0 < u → gt (gt r (u - 1)) w ≤ gt (gt r u) w) ∧ (w + 1 < (gt r u).length → gt (gt r u) (w + 1) ≤ gt (gt r u) w)
def Conc (r : List (List Int)) : Prop := ∀ u, u < r.length → 2 ≤ u → ∀ w, w < (gt r u).length → gt (gt r u) w - gt (gt r (u - 1)) w ≤ gt (gt r (u - 1)) w - gt (gt r (u - 2)) w
open Classical in
noncomputable def checkS (r : List (List Int)) : Int := if shapeS r ≠ 0 then shapeS r else if endsS r ≠ 0 then endsS r else if ¬ Down r then 8 else if ¬ Conc r then 13 else 0
/-- What a table without an error of its shape is. -/
structure Shaped (r : List (List Int)) : Prop where
  two : 2 ≤ r.length
  most : r.length ≤ 91
  one : 0 < (gt r 0).length
  ten : (gt r 0).length ≤ 10
  len : SameLen r
  rng : InRange r
theorem shaped_of {r : List (List Int)} (h : shapeS r = 0) : Shaped r := by
  unfold shapeS at h
  split at h
  · cases h
  · split at h
    · cases h
    · split at h
      · cases h
      · split at h
        · cases h
        · rename_i h1 h2 h3 h4
          exact ⟨by omega, by omega, by omega, by omega, Classical.not_not.mp h3, Classical.not_not.mp h4⟩
theorem Shaped.lenU {r : List (List Int)} (h : Shaped r) {u : Nat} (hu : u < r.length) : (gt r u).length = (gt r 0).length := h.len u hu

abbrev Tb := List (List Int)
theorem raw_zero {r : Tb} (h : rawS r = 0) : shapeS r = 0 ∧ endsS r = 0 := by
  unfold rawS at h
  split at h
  · rename_i h1; exact absurd h h1
  · rename_i h1; exact ⟨Classical.not_not.mp h1, h⟩
theorem raw_check {r : Tb} (h : rawS r ≠ 0) : rawS r = checkS r := by
  unfold rawS checkS
  unfold rawS at h
  split
  · rfl
  · rename_i h1
    rw [if_neg h1] at h
    rw [if_pos h]

abbrev lc_overs_ok (a b c : AV) : Env := [(0,a),(1,b),(2,c)]
theorem overs_ok (lim : Nat) (H : Heap) (rows : Tb) (h91 : rows.length ≤ 91) (h2 : 2 ≤ rows.length) :
    ACall sig lim 56 [.agg [rowsAV rows]] H fun r H' => r = AV.i ((rows.length : Int) - 1) ∧ H' = H := by
 refine ACall_pure (fa := fa56) rfl rfl rfl rfl ?_
 have tr : ∀ a0 : AV, env0 fa56.keep [a0] = [(0,a0),(1,.any),(2,.any)] := fun a0 => rfl
 refine W_to (tr _) ?_; clear tr
 refine at_seq rfl ?_
 refine rg rfl ?_
 refine R_box rfl (by simp (disch := first | omega | (simp only [List.length_map, List.length_append, List.length_set, List.length_cons, List.length_nil]; omega)) only [go_sem, ↓reduceIte, Nat.reduceEqDiff, reduceCtorEq]; rfl) rfl rfl ?_
 refine Rq ?_
 have tr : ∀ a b c d e : AV, let l := lc_overs_ok a b c; trim ((2,e)::(1,d)::l) l = [(0,a),(1,d),(2,e)] := by intros; rfl
 refine R_nil (tr ..) ?_; clear tr
 refine then_n ?_
 refine at_seq rfl ?_
 refine rg rfl ?_
 refine Rq ?_
 refine Rq ?_
 refine Rq ?_
 refine Rq ?_
 refine Rq ?_
 refine Rq ?_
 have tr : ∀ a b c d e f g h i : AV, let l := lc_overs_ok a b c; trim ((2,i)::(7,h)::(6,g)::(5,f)::(4,e)::(3,d)::l) l = [(0,a),(1,b),(2,i)] := by intros; rfl
 refine R_nil (tr ..) ?_; clear tr
 refine then_n ?_
 refine at_ret rfl ?_
 refine fpure ?_
 refine ⟨?_, rfl⟩
 congr 2
 omega

abbrev lc_rovers_ok (a b c : AV) : Env := [(0,a),(1,b),(2,c)]
theorem rovers_ok (lim : Nat) (H : Heap) (rows : Tb) (h91 : rows.length ≤ 91) (h2 : 2 ≤ rows.length) :
    ACall sig lim 59 [.agg [rowsAV rows]] H fun r H' => r = AV.i ((rows.length : Int) - 1) ∧ H' = H := by
 refine ACall_pure (fa := fa59) rfl rfl rfl rfl ?_
 have tr : ∀ a0 : AV, env0 fa59.keep [a0] = [(0,a0),(1,.any),(2,.any)] := fun a0 => rfl
 refine W_to (tr _) ?_; clear tr
 refine at_seq rfl ?_
 refine rg rfl ?_
 refine R_box rfl (by simp (disch := first | omega | (simp only [List.length_map, List.length_append, List.length_set, List.length_cons, List.length_nil]; omega)) only [go_sem, ↓reduceIte, Nat.reduceEqDiff, reduceCtorEq]; rfl) rfl rfl ?_
 refine Rq ?_
 have tr : ∀ a b c d e : AV, let l := lc_rovers_ok a b c; trim ((2,e)::(1,d)::l) l = [(0,a),(1,d),(2,e)] := by intros; rfl
 refine R_nil (tr ..) ?_; clear tr
 refine then_n ?_
 refine at_seq rfl ?_
 refine rg rfl ?_
 refine Rq ?_
 refine Rq ?_
 refine Rq ?_
 refine Rq ?_
 refine Rq ?_
 refine Rq ?_
 have tr : ∀ a b c d e f g h i : AV, let l := lc_rovers_ok a b c; trim ((2,i)::(7,h)::(6,g)::(5,f)::(4,e)::(3,d)::l) l = [(0,a),(1,b),(2,i)] := by intros; rfl
 refine R_nil (tr ..) ?_; clear tr
 refine then_n ?_
 refine at_ret rfl ?_
 refine fpure ?_
 refine ⟨?_, rfl⟩
 congr 2
 omega

abbrev lc_wickets_ok (a b c d : AV) : Env := [(0,a),(1,b),(2,c),(6,d)]
theorem wickets_ok (lim : Nat) (H : Heap) (rows : Tb) (h2 : 2 ≤ rows.length) :
    ACall sig lim 57 [.agg [rowsAV rows]] H fun r H' => r = AV.i (gt rows 0).length ∧ H' = H := by
 refine ACall_pure (fa := fa57) rfl rfl rfl rfl ?_
 have tr : ∀ a0 : AV, env0 fa57.keep [a0] = [(0,a0),(1,.any),(2,.any),(6,.any)] := fun a0 => rfl
 refine W_to (tr _) ?_; clear tr
 refine at_seq rfl ?_
 refine rg rfl ?_
 refine R_box rfl (by simp (disch := first | omega | (simp only [List.length_map, List.length_append, List.length_set, List.length_cons, List.length_nil]; omega)) only [go_sem, ↓reduceIte, Nat.reduceEqDiff, reduceCtorEq]; rfl) rfl rfl ?_
 refine Rq ?_
 have tr : ∀ a b c d e f : AV, let l := lc_wickets_ok a b c d; trim ((2,f)::(1,e)::l) l = [(0,a),(1,e),(2,f),(6,d)] := by intros; rfl
 refine R_nil (tr ..) ?_; clear tr
 refine then_n ?_
 refine at_seq rfl ?_
 refine at_seq rfl ?_
 refine rg rfl ?_
 refine Rq ?_
 refine Rq ?_
 refine Rq ?_
 refine Rq ?_
 have tr : ∀ a b c d e f g h : AV, let l := lc_wickets_ok a b c d; trim ((6,h)::(5,g)::(4,f)::(3,e)::l) l = [(0,a),(1,b),(2,c),(6,h)] := by intros; rfl
 refine R_nil (tr ..) ?_; clear tr
 refine then_n ?_
 refine cdd (fun h1 => ?_) (fun h1 => ?_)
 ·
  try simp only [decide_eq_true_eq, decide_eq_false_iff_not, Bool.not_eq_true', Bool.not_eq_false', beq_iff_eq, beq_eq_false_iff_ne, ne_eq] at h1
  refine at_seq rfl ?_
  refine rg rfl ?_
  refine Rq ?_
  have tr : ∀ a b c d e : AV, let l := lc_wickets_ok a b c d; trim ((2,e)::l) l = [(0,a),(1,b),(2,e),(6,d)] := by intros; rfl
  refine R_nil (tr ..) ?_; clear tr
  refine then_n ?_
  refine at_ret rfl ?_
  refine then_r ?_
  exfalso; omega
 ·
  try simp only [decide_eq_true_eq, decide_eq_false_iff_not, Bool.not_eq_true', Bool.not_eq_false', beq_iff_eq, beq_eq_false_iff_ne, ne_eq] at h1
  refine at_skip rfl ?_
  refine then_n ?_
  refine at_seq rfl ?_
  refine rg rfl ?_
  refine Rq ?_
  refine Rq ?_
  refine Rq ?_
  refine Rq ?_
  refine Rq ?_
  refine Rq ?_
  have tr : ∀ a b c d e f g h i j : AV, let l := lc_wickets_ok a b c d; trim ((2,j)::(11,i)::(10,h)::(9,g)::(8,f)::(7,e)::l) l = [(0,a),(1,b),(2,j),(6,d)] := by intros; rfl
  refine R_nil (tr ..) ?_; clear tr
  refine then_n ?_
  refine at_ret rfl ?_
  refine fpure ?_
  exact ⟨rfl, rfl⟩

abbrev lc_rwickets_ok (a b c d : AV) : Env := [(0,a),(1,b),(2,c),(6,d)]
theorem rwickets_ok (lim : Nat) (H : Heap) (rows : Tb) (h2 : 2 ≤ rows.length) :
    ACall sig lim 60 [.agg [rowsAV rows]] H fun r H' => r = AV.i (gt rows 0).length ∧ H' = H := by
 refine ACall_pure (fa := fa60) rfl rfl rfl rfl ?_
 have tr : ∀ a0 : AV, env0 fa60.keep [a0] = [(0,a0),(1,.any),(2,.any),(6,.any)] := fun a0 => rfl
 refine W_to (tr _) ?_; clear tr
 refine at_seq rfl ?_
 refine rg rfl ?_
 refine R_box rfl (by simp (disch := first | omega | (simp only [List.length_map, List.length_append, List.length_set, List.length_cons, List.length_nil]; omega)) only [go_sem, ↓reduceIte, Nat.reduceEqDiff, reduceCtorEq]; rfl) rfl rfl ?_
 refine Rq ?_
 have tr : ∀ a b c d e f : AV, let l := lc_rwickets_ok a b c d; trim ((2,f)::(1,e)::l) l = [(0,a),(1,e),(2,f),(6,d)] := by intros; rfl
 refine R_nil (tr ..) ?_; clear tr
 refine then_n ?_
 refine at_seq rfl ?_
 refine at_seq rfl ?_
 refine rg rfl ?_
 refine Rq ?_
 refine Rq ?_
 refine Rq ?_
 refine Rq ?_
 have tr : ∀ a b c d e f g h : AV, let l := lc_rwickets_ok a b c d; trim ((6,h)::(5,g)::(4,f)::(3,e)::l) l = [(0,a),(1,b),(2,c),(6,h)] := by intros; rfl
 refine R_nil (tr ..) ?_; clear tr
 refine then_n ?_
 refine cdd (fun h1 => ?_) (fun h1 => ?_)
 ·
  try simp only [decide_eq_true_eq, decide_eq_false_iff_not, Bool.not_eq_true', Bool.not_eq_false', beq_iff_eq, beq_eq_false_iff_ne, ne_eq] at h1
  refine at_seq rfl ?_
  refine rg rfl ?_
  refine Rq ?_
  have tr : ∀ a b c d e : AV, let l := lc_rwickets_ok a b c d; trim ((2,e)::l) l = [(0,a),(1,b),(2,e),(6,d)] := by intros; rfl
  refine R_nil (tr ..) ?_; clear tr
  refine then_n ?_
  refine at_ret rfl ?_
  refine then_r ?_
  exfalso; omega
 ·
  try simp only [decide_eq_true_eq, decide_eq_false_iff_not, Bool.not_eq_true', Bool.not_eq_false', beq_iff_eq, beq_eq_false_iff_ne, ne_eq] at h1
  refine at_skip rfl ?_
  refine then_n ?_
  refine at_seq rfl ?_
  refine rg rfl ?_
  refine Rq ?_
  refine Rq ?_
  refine Rq ?_
  refine Rq ?_
  refine Rq ?_
  refine Rq ?_
  have tr : ∀ a b c d e f g h i j : AV, let l := lc_rwickets_ok a b c d; trim ((2,j)::(11,i)::(10,h)::(9,g)::(8,f)::(7,e)::l) l = [(0,a),(1,b),(2,j),(6,d)] := by intros; rfl
  refine R_nil (tr ..) ?_; clear tr
  refine then_n ?_
  refine at_ret rfl ?_
  refine fpure ?_
  exact ⟨rfl, rfl⟩

end Go.Proofs.Ytaoondlakhocnaa
