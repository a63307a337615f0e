/-
  Strings, opened.
-/
import Derived.Test.YtokhmkkifmhfmaaDoorO
set_option linter.unusedVariables false
set_option linter.unusedSimpArgs false
set_option maxRecDepth 20000
namespace Go.Proofs.YtokhmkkifmhfmaaDoor
open Go Go.Am Go.ChangeShapes Go.WideShapes Go.ChangeAt Go.RowKit
section
variable {H : Type} {enc : TypeId × Value → H} {W : World} {base : Nat} {r : Reach} {v : Value} {d : DataW H} {p : List MemPlace}
theorem open_9 (hval : Value.okWide Tryd.prog W r base 9 v) (h : DataW.Trod enc Tryd.prog W 0 (fun _ => true) true 9 v d p) : ∃ s : ByteArray, Den [] (In W) W (.v (.string s)) v := by
  obtain ⟨s, rfl⟩ := okWide_string Tryd.underlying9 hval
  exact ⟨s, .v _⟩
end
end Go.Proofs.YtokhmkkifmhfmaaDoor
