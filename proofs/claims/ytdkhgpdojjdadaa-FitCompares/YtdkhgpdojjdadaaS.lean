/-
  What the reference's raising in place goes by.
-/
import Derived.Test.YtdkhgpdojjdadaaQ
import Derived.Test.YtdkhgpdojjdadaaL
import Derived.Test.YtdkhgpdojjdadaaWR
set_option linter.unusedVariables false
namespace Go.Proofs.Ytdkhgpdojjdadaa
open Go Go.Am

section
variable {raw l0 : Tb} {lm b p : Nat} {bs : Nat → Nat} {m : Nat} {D : Nat → Nat → Prop} {H0 H : Heap} {l : Tb} {ch : Bool}
theorem RJ.raise2 (h : RJ raw l0 lm b p bs m D H0 H l ch) (hr : Rect raw m) {u w : Nat} (hu : u < l.length) (hw : w < m) (hp : p ≠ bs u) {x : Int} (hx : x = wantedS l u w) (hg : gt (gt l u) w < x) (D' : Nat → Nat → Prop) :
    RJ raw l0 lm b p bs m D' H0 (hset H (bs u) (some (((gt l u).set w x).map AV.i))) (updT l u w x) true := by
  subst hx; exact h.raise hr hu hw hp hg D'
theorem RJ.keep2 (h : RJ raw l0 lm b p bs m D H0 H l ch) {u w : Nat} (hw : wantedS l u w ≤ gt (gt l u) w) {D' : Nat → Nat → Prop} (hD : ∀ i j, D' i j → D i j ∨ (i = u ∧ j = w)) : RJ raw l0 lm b p bs m D' H0 H l ch :=
  { h with no := fun hc => ⟨(h.no hc).1, fun i j h1 h2 h3 => by
      rcases hD i j h1 with h4 | ⟨rfl, rfl⟩
      · exact (h.no hc).2 i j h4 h2 h3
      · exact hw⟩ }
end
theorem Tab.mono {lm lm' : Nat} {H : Heap} {b : Nat} {bs : Nat → Nat} {l : Tb} (T : Tab lm H b bs l) (h : lm' ≤ lm) : Tab lm' H b bs l := by
  obtain ⟨h1, h2, h3, h4, h5, h6⟩ := T
  exact ⟨h1, h2, h3, h4, Nat.le_trans h h5, fun i hi => Nat.le_trans h (h6 i hi)⟩
theorem OutT.mono {lm lm' : Nat} {H : Heap} {o : AV} {l : Tb} (h : OutT lm H o l) (hh : lm' ≤ lm) : OutT lm' H o l := by
  rcases h with h | ⟨b, bs, h1, T⟩
  · exact .inl h
  · exact .inr ⟨b, bs, h1, T.mono hh⟩
theorem OutT.grow {lm : Nat} {H : Heap} {o : AV} {l : Tb} (h : OutT lm H o l) (Y : Heap) : OutT lm (H ++ Y) o l := by
  rcases h with h | ⟨b, bs, h1, T⟩
  · exact .inl h
  · exact .inr ⟨b, bs, h1, T.grow Y⟩
theorem bs37_0 (lim : Nat) (H : Heap) (ev : Operand → AV) : effV Try.prog lim (.buildSlice 37 0 #[]) ev H = some (.own 1 H.length 0 0, H ++ [some []]) := by
  simp only [effV, tk37, ty2]
  rfl
theorem app37e (lim : Nat) (A X : Heap) (r : List Int) (hl : lim ≤ A.length) (h : r.length ≤ 1000000) :
    appendV Try.prog lim (A ++ X ++ [some []]) 37 (.own 1 (A ++ X).length 0 0) (rowAV r) = some (.own 1 (A ++ (X ++ [none])).length 0 r.length, A ++ (X ++ [none]) ++ [some (r.map AV.i)]) := by
  have hk : hget (A ++ X ++ [some []]) (A ++ X).length = some [] := by rw [hget_app]; rfl
  simp only [appendV, tk37, ty2, srcCells, List.length_map, Nat.mul_one, Nat.le_refl, if_true, hk]
  rw [show List.take r.length (r.map AV.i) = r.map AV.i from List.take_of_length_le (by simp)]
  rw [if_pos ⟨rfl, by decide, storable_ints r⟩, if_pos ⟨by simp; omega, trivial, by simp, by omega, by omega⟩]
  rw [hset_app]
  simp [List.append_assoc]
/-- The repaired table is one: two that are least and closed are the same. -/
theorem least_uniq {r t t' : Tb} (i : Inv r t) (c : Closed t) (i' : Inv r t') (c' : Closed t') : t = t' :=
  LeT.antisymm (i.same.symm.trans i'.same) (i.least t' i'.same c' i'.le) (i'.least t i.same c i.le)
/-- The first row of a raw table is never raised. -/
theorem row0 {r t : Tb} (h : rawS r = 0) (i : Inv r t) {w : Nat} (hw : w < (gt t 0).length) : wantedS t 0 w ≤ gt (gt t 0) w := by
  have hz := raw_zero h
  have sh := shaped_of hz.1
  have he := ends_zero hz.2
  have hr : Rect r (gt r 0).length := sh.len
  have ht := i.same.rect hr
  have hl := i.same.len
  have s2 := sh.two
  have e0 : (gt t 0).length = (gt r 0).length := ht 0 (by omega)
  have hfull : LeT t (fullT r) := i.least _ (fullT_same r) (fullT_closed hr) fun u hu w hw => by
    rw [fullT_gt r u w hu hw]
    split
    · rename_i h0; subst h0; exact Int.le_of_eq (he.1 w hw)
    · exact (sh.rng u hu w hw).2
  have z : ∀ w, w < (gt t 0).length → gt (gt t 0) w = 0 := fun w hw => by
    have := hfull 0 (by omega) w hw
    rw [fullT_gt r 0 w (by omega) (by omega), if_pos rfl] at this
    have := (i.rng 0 (by omega) w hw).1
    omega
  rw [wantedS, if_neg (by omega), m2, if_neg (by omega), m1]
  split
  · rw [z w hw, z (w + 1) (by assumption)]; omega
  · exact Int.le_refl _
theorem closed_raised {r t : Tb} (h : rawS r = 0) (i : Inv r t) (hc : ∀ u w, 0 < u → u < t.length → w < (gt r 0).length → wantedS t u w ≤ gt (gt t u) w) : Closed t := by
  have sh := shaped_of (raw_zero h).1
  have hr : Rect r (gt r 0).length := sh.len
  have ht := i.same.rect hr
  intro u hu w hw
  by_cases h0 : u = 0
  · subst h0; exact row0 h i hw
  · exact hc u w (by omega) hu (by rw [ht u hu] at hw; exact hw)
end Go.Proofs.Ytdkhgpdojjdadaa
