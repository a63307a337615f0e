/-
  The arguments of the statements of chapter 51, opened.
-/
import Derived.Test.YtfnapmdedmbdbaaDoorOp
import Derived.Test.YtfnapmdedmbdbaaDoorP
import Derived.ProofKit
import Derived.OpenShut
set_option linter.unusedVariables false
set_option linter.unusedSimpArgs false
set_option maxRecDepth 10000
namespace Go.Proofs.YtfnapmdedmbdbaaDoor
open Go Go.Am Go.ChangeShapes Go.WideShapes Go.ChangeAt Go.RowKit
def st23 (x : D23) : St := ⟨x.1.val, x.2.1.val, x.2.2.1.val, x.2.2.2.1.val, x.2.2.2.2.1.val, x.2.2.2.2.2.1.val, x.2.2.2.2.2.2.1.val, x.2.2.2.2.2.2.2.1.val, x.2.2.2.2.2.2.2.2.1.val, x.2.2.2.2.2.2.2.2.2.val⟩
theorem c23_st (x : D23) : c23 x = stL (st23 x) := rfl
section
variable {H : Type} {enc : TypeId × Value → H} {W : World} {base : Nat} {r : Reach} {v : Value} {d : DataW H} {p : List MemPlace}
theorem open_23 (hval : Value.okWide Tryd.prog W r base 23 v) (h : DataW.Trod enc Tryd.prog W 0 (fun _ => true) true 23 v d p) : ∃ z : St, Den [] (In W) W (stA z) v := by
  obtain ⟨cs, rfl, hs⟩ := okWide_struct Tryd.underlying23 hval
  obtain ⟨x, hx⟩ := open_agg opens23 h
  rw [c23_st] at hx
  exact ⟨_, hx⟩
theorem open_3 (hval : Value.okWide Tryd.prog W r base 3 v) (h : DataW.Trod enc Tryd.prog W 0 (fun _ => true) true 3 v d p) : ∃ (n : Int) (hn : -9223372036854775808 ≤ n ∧ n ≤ 9223372036854775807), Den [] (In W) W (AV.i n) v := by
  obtain ⟨n, rfl⟩ := okWide_int Tryd.underlying3 hval
  obtain ⟨fuel, hf⟩ := h
  obtain ⟨x, hx⟩ := opens3 _ _ _ _ _ _ _ hf
  exact ⟨x.val, x.property, hx.2 0 _ _ rfl rfl⟩
end
end Go.Proofs.YtfnapmdedmbdbaaDoor
