/-
  A pair of numbers, opened.
-/
import Derived.Test.YtokhmkkifmhfmaaDoorO
set_option linter.unusedVariables false
set_option linter.unusedSimpArgs false
set_option maxRecDepth 10000
namespace Go.Proofs.YtokhmkkifmhfmaaDoor
open Go Go.Am Go.ChangeShapes Go.WideShapes Go.ChangeAt Go.RowKit
section
variable {H : Type} {enc : TypeId × Value → H} {W : World} {base : Nat} {r : Reach} {v : Value} {d : DataW H} {p : List MemPlace}
theorem two {α : Type} (l : List α) (h : l.length = 2) : ∃ a b, l = [a, b] := by
  match l, h with
  | [a, b], _ => exact ⟨a, b, rfl⟩
theorem okWide_arr {m : Nat} {e t : TypeId} (ht : Tryd.prog.underlying t = some (.array m e)) (h : Value.okWide Tryd.prog W r base t v) : ∃ cs, v = .agg cs ∧ cs.size = Tryd.prog.cellsOf t := by
  simp only [Value.okWide, ht] at h
  obtain ⟨cs, h1, h2, _⟩ := h
  exact ⟨cs, h1, h2⟩
theorem open_42 (hval : Value.okWide Tryd.prog W r base 42 v) (h : DataW.Trod enc Tryd.prog W 0 (fun _ => true) true 42 v d p) :
    ∃ (a b : Int) (ha : -9223372036854775808 ≤ a ∧ a ≤ 9223372036854775807) (hb : -9223372036854775808 ≤ b ∧ b ≤ 9223372036854775807), Den [] (In W) W (.agg [AV.i a, AV.i b]) v := by
  obtain ⟨cs, rfl, hs⟩ := okWide_arr Tryd.underlying42 hval
  obtain ⟨⟨l, hl⟩, hx⟩ := open_agg opens42 h
  obtain ⟨a, b, e⟩ := two l hl
  subst e
  exact ⟨a.val, b.val, a.property, b.property, hx⟩
end
end Go.Proofs.YtokhmkkifmhfmaaDoor
