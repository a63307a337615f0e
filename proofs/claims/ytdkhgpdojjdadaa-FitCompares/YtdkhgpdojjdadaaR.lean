/-
  A table in memory whose numbers are replaced one by one.
-/
import Derived.Test.YtdkhgpdojjdadaaQ
import Derived.Test.YtdkhgpdojjdadaaWM
set_option linter.unusedVariables false
namespace Go.Proofs.Ytdkhgpdojjdadaa
open Go Go.Am

structure MJ (a : Tb) (f : Nat → Nat → Int) (lm b0 : Nat) (bs : Nat → Nat) (D : Nat → Nat → Prop) (H0 H : Heap) (l : Tb) : Prop where
  tab : Tab lm H b0 bs l
  same : Same2 a l
  done : ∀ i j, i < a.length → j < (gt a i).length → D i j → gt (gt l i) j = f i j
  left : ∀ i j, i < a.length → j < (gt a i).length → ¬ D i j → gt (gt l i) j = gt (gt a i) j
  size : H.length = H0.length
  frame : ∀ q, q < lm → hget H q = hget H0 q

theorem MJ.start {a : Tb} {f : Nat → Nat → Int} {lm b0 : Nat} {bs : Nat → Nat} {D : Nat → Nat → Prop} {H : Heap} (T : Tab lm H b0 bs a) (hD : ∀ i j, i < a.length → j < (gt a i).length → ¬ D i j) : MJ a f lm b0 bs D H H a :=
  ⟨T, Same2.refl _, fun i j hi hj h => absurd h (hD i j hi hj), fun _ _ _ _ _ => rfl, rfl, fun _ _ => rfl⟩
section
variable {a : Tb} {f : Nat → Nat → Int} {lm b0 : Nat} {bs : Nat → Nat} {D D' : Nat → Nat → Prop} {H0 H : Heap} {l : Tb}
theorem MJ.congr (h : MJ a f lm b0 bs D H0 H l) (hd : ∀ i j, i < a.length → j < (gt a i).length → (D' i j ↔ D i j)) : MJ a f lm b0 bs D' H0 H l :=
  { h with done := fun i j hi hj hD => h.done i j hi hj ((hd i j hi hj).1 hD), left := fun i j hi hj hD => h.left i j hi hj (fun hh => hD ((hd i j hi hj).2 hh)) }
theorem MJ.put (h : MJ a f lm b0 bs D H0 H l) {u w : Nat} (hu : u < a.length) (hw : w < (gt a u).length) (x : Int) (hx : x = f u w) (hd : ∀ i j, i < a.length → j < (gt a i).length → (D' i j ↔ D i j ∨ (i = u ∧ j = w))) :
    MJ a f lm b0 bs D' H0 (hset H (bs u) (some (((gt l u).set w x).map AV.i))) (updT l u w x) := by
  have hu' : u < l.length := by rw [← h.same.len]; exact hu
  have hw' : w < (gt l u).length := by rw [← h.same.row u hu]; exact hw
  have hl := h.tab.low u hu'
  refine ⟨h.tab.upd u w x hu', h.same.trans (upd_same l u w x hu'), ?_, ?_, by rw [hset_len, h.size], ?_⟩
  · intro i j hi hj hD
    rw [upd_gt l u w x hu' i j hw']
    split
    · rename_i e; obtain ⟨rfl, rfl⟩ := e; exact hx
    · rename_i e
      rcases (hd i j hi hj).1 hD with h1 | h1
      · exact h.done i j hi hj h1
      · exact absurd ⟨h1.1.symm, h1.2.symm⟩ e
  · intro i j hi hj hD
    rw [upd_gt l u w x hu' i j hw']
    split
    · rename_i e; obtain ⟨rfl, rfl⟩ := e; exact absurd ((hd u w hi hj).2 (Or.inr ⟨rfl, rfl⟩)) hD
    · exact h.left i j hi hj (fun hh => hD ((hd i j hi hj).2 (Or.inl hh)))
  · intro q hq
    rw [hget_set _ _ _ _ (by omega)]
    exact h.frame q hq
end
end Go.Proofs.Ytdkhgpdojjdadaa
