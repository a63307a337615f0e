/-
  The arguments of the statements of chapter 48, opened.
-/
import Derived.Test.YtocmcdejkoejhaaDoorOp
import Derived.ProofKit
import Derived.OpenShut
set_option linter.unusedVariables false
set_option linter.unusedSimpArgs false
set_option maxRecDepth 10000
namespace Go.Proofs.YtocmcdejkoejhaaDoor
open Go Go.Am Go.ChangeShapes Go.WideShapes Go.ChangeAt Go.RowKit
section
variable {H : Type} {enc : TypeId × Value → H} {W : World} {base : Nat} {r : Reach} {v : Value} {d : DataW H} {p : List MemPlace}
theorem open_2 (hval : Value.okWide Tryd.prog W r base 2 v) (h : DataW.Trod enc Tryd.prog W 0 (fun _ => true) true 2 v d p) : ∃ n : Int, Den [] (In W) W (AV.i n) v := by
  obtain ⟨fuel, hf⟩ := h
  obtain ⟨n, rfl⟩ := okWide_int Tryd.underlying2 hval
  exact ⟨n, by obtain ⟨m, hm, _⟩ := DataW.trod_int Tryd.underlying2 hf; cases hm; exact .v _⟩
theorem open_3 (hval : Value.okWide Tryd.prog W r base 3 v) (h : DataW.Trod enc Tryd.prog W 0 (fun _ => true) true 3 v d p) : ∃ n : Int, Den [] (In W) W (AV.i n) v := by
  obtain ⟨fuel, hf⟩ := h
  obtain ⟨n, rfl⟩ := okWide_int Tryd.underlying3 hval
  exact ⟨n, by obtain ⟨m, hm, _⟩ := DataW.trod_int Tryd.underlying3 hf; cases hm; exact .v _⟩
end
end Go.Proofs.YtocmcdejkoejhaaDoor
