/-
  Fixtures, matches with their days and grounds, and matches that are played again, as cells. Plain definitions and lemmas.
-/
import Derived.Test.YtkjgmpjnhfmecaaTy
import Derived.Test.YtkjgmpjnhfmecaaAmU
set_option linter.unusedVariables false
set_option linter.unusedSimpArgs false
namespace Go.Proofs.Ytkjgmpjnhfmecaa
open Go Go.Am

theorem cut_of {F : List AV} {C : List AV} {z o : Nat} (hC : C.length = z) (h : ∀ k, k < z → F[o + k]? = C[k]?) : (F.drop o).take z = C := by
  apply List.ext_getElem?
  intro j
  rw [List.getElem?_take, List.getElem?_drop]
  by_cases hj : j < z
  · rw [if_pos hj, h j hj]
  · rw [if_neg hj, List.getElem?_eq_none (by omega)]
/-- Rows of records of z cells. -/
theorem rec_len {α : Type} {f : α → List AV} {z : Nat} (hf : ∀ d, (f d).length = z) (l : List α) : (l.map f).flatten.length = l.length * z := by
  induction l with
  | nil => simp
  | cons s l ih => rw [List.map_cons, List.flatten_cons, List.length_append, ih, hf, List.length_cons, Nat.add_mul]; omega
theorem rec_get {α : Type} [Inhabited α] {f : α → List AV} {z : Nat} (hf : ∀ d, (f d).length = z) : ∀ (l : List α) (u k : Nat), u < l.length → k < z → (l.map f).flatten[u * z + k]? = (f (gt l u))[k]?
  | [], u, k, h, _ => by simp at h
  | s :: l, 0, k, _, hk => by
    rw [List.map_cons, List.flatten_cons, Nat.zero_mul, Nat.zero_add, List.getElem?_append_left (by rw [hf]; exact hk)]
    rfl
  | s :: l, u + 1, k, h, hk => by
    have ih := rec_get hf l u k (by simpa using h) hk
    rw [List.map_cons, List.flatten_cons, List.getElem?_append_right (by rw [hf, Nat.add_mul]; omega)]
    rw [show (u + 1) * z + k - (f s).length = u * z + k by rw [hf, Nat.add_mul]; omega, ih]
    rfl
theorem rec_cut {α : Type} [Inhabited α] {f : α → List AV} {z : Nat} (hf : ∀ d, (f d).length = z) (l : List α) (u : Nat) (h : u < l.length) : (((l.map f).flatten).drop (u * z)).take z = f (gt l u) :=
  cut_of (hf _) fun k hk => rec_get hf l u k h hk
theorem gt_eq {α : Type} [Inhabited α] (l : List α) (i : Nat) (h : i < l.length) : gt l i = l[i] := by simp [gt, h]
theorem gt_set {α : Type} [Inhabited α] (l : List α) (i j : Nat) (x : α) (h : i < l.length) : gt (l.set i x) j = if i = j then x else gt l j := by
  simp only [gt, List.getD_eq_getElem?_getD, List.getElem?_set]
  by_cases hij : i = j
  · subst hij; simp [h]
  · simp [hij]
theorem gt_snoc {α : Type} [Inhabited α] (l : List α) (x : α) (j : Nat) : gt (l ++ [x]) j = if j < l.length then gt l j else if j = l.length then x else default := by
  simp only [gt, List.getD_eq_getElem?_getD]
  by_cases h : j < l.length
  · rw [List.getElem?_append_left h, if_pos h]
  · rw [List.getElem?_append_right (by omega), if_neg h]
    by_cases h2 : j = l.length
    · subst h2; simp
    · rw [if_neg h2, List.getElem?_eq_none (by simp; omega)]; rfl
theorem ext_gt {α : Type} [Inhabited α] {l m : List α} (h : l.length = m.length) (hh : ∀ k, k < l.length → gt l k = gt m k) : l = m := by
  apply List.ext_getElem h
  intro i h1 h2
  rw [← gt_eq l i h1, ← gt_eq m i h2]
  exact hh i h1
theorem all_step {p : Nat → Prop} {u : Nat} (h : ∀ i, i < u → p i) (hu : p u) : ∀ i, i < u + 1 → p i := fun i hi => by
  by_cases hiu : i = u
  · subst hiu; exact hu
  · exact h i (by omega)

structure Fx where
  (r h a : Int)
instance : Inhabited Fx := ⟨⟨0, 0, 0⟩⟩
abbrev fxC (x : Fx) : List AV := [AV.i x.r, AV.i x.h, AV.i x.a]
def flatF (l : List Fx) : List AV := (l.map fxC).flatten
abbrev fxsAV (l : List Fx) : AV := .sl l.length (flatF l)
theorem flatF_len (l : List Fx) : (flatF l).length = l.length * 3 := rec_len (f := fxC) (z := 3) (fun _ => rfl) l
theorem flatF0 (l : List Fx) (u : Nat) (h : u < l.length) : (flatF l)[u * 3]? = some (AV.i (gt l u).r) := rec_get (f := fxC) (z := 3) (fun _ => rfl) l u 0 h (by omega)
theorem flatF1 (l : List Fx) (u : Nat) (h : u < l.length) : (flatF l)[u * 3 + 1]? = some (AV.i (gt l u).h) := rec_get (f := fxC) (z := 3) (fun _ => rfl) l u 1 h (by omega)
theorem flatF2 (l : List Fx) (u : Nat) (h : u < l.length) : (flatF l)[u * 3 + 2]? = some (AV.i (gt l u).a) := rec_get (f := fxC) (z := 3) (fun _ => rfl) l u 2 h (by omega)
structure Pd where
  (r h a d g : Int)
instance : Inhabited Pd := ⟨⟨0, 0, 0, 0, 0⟩⟩
abbrev pdC (x : Pd) : List AV := [AV.i x.r, AV.i x.h, AV.i x.a, AV.i x.d, AV.i x.g]
def flatP (l : List Pd) : List AV := (l.map pdC).flatten
abbrev pdsAV (l : List Pd) : AV := .sl l.length (flatP l)
theorem flatP_len (l : List Pd) : (flatP l).length = l.length * 5 := rec_len (f := pdC) (z := 5) (fun _ => rfl) l
structure Jb where
  (f t : Int)
instance : Inhabited Jb := ⟨⟨0, 0⟩⟩
abbrev jbC (x : Jb) : List AV := [AV.i x.f, AV.i x.t]
def flatJ (l : List Jb) : List AV := (l.map jbC).flatten
abbrev jbsAV (l : List Jb) : AV := .sl l.length (flatJ l)
theorem flatJ_len (l : List Jb) : (flatJ l).length = l.length * 2 := rec_len (f := jbC) (z := 2) (fun _ => rfl) l
abbrev intsAV (l : List Int) : AV := .sl l.length (l.map AV.i)
abbrev nilO : AV := .v (.slice none 0 0)
abbrev ssC (first rest : Int) (gr : List Int) : List AV := [AV.i first, AV.i rest, intsAV gr]
end Go.Proofs.Ytkjgmpjnhfmecaa
