/-
  The arguments of the statements of chapter 2, opened.
-/
import Derived.Test.YtokhmkkifmhfmaaDoorOp
import Derived.Test.YtokhmkkifmhfmaaDoorA
import Derived.ProofKit
import Derived.OpenShut
set_option linter.unusedVariables false
set_option linter.unusedSimpArgs false
set_option maxRecDepth 10000
namespace Go.Proofs.YtokhmkkifmhfmaaDoor
open Go Go.Am Go.ChangeShapes Go.WideShapes Go.ChangeAt Go.RowKit
section
variable {H : Type} {enc : TypeId × Value → H} {W : World} {base : Nat} {r : Reach} {v : Value} {d : DataW H} {p : List MemPlace}
theorem open_2 (hval : Value.okWide Tryd.prog W r base 2 v) (h : DataW.Trod enc Tryd.prog W 0 (fun _ => true) true 2 v d p) : ∃ (n : Int) (hn : -9223372036854775808 ≤ n ∧ n ≤ 9223372036854775807), Den [] (In W) W (AV.i n) v := by
  obtain ⟨n, rfl⟩ := okWide_int Tryd.underlying2 hval
  obtain ⟨fuel, hf⟩ := h
  obtain ⟨x, hx⟩ := opens2 _ _ _ _ _ _ _ hf
  exact ⟨x.val, x.property, hx.2 0 _ _ rfl rfl⟩
theorem open_24 (hval : Value.okWide Tryd.prog W r base 24 v) (h : DataW.Trod enc Tryd.prog W 0 (fun _ => true) true 24 v d p) : ∃ (x : Int) (hx : Fw x), Den [] (In W) W (wv x) v := by
  obtain ⟨cs, rfl, hs⟩ := okWide_struct Tryd.underlying24 hval
  obtain ⟨x, hx⟩ := open_agg opens24 h
  have h1 := x.1.property
  have h2 := x.2.property
  refine ⟨x.1.val * 18446744073709551616 + x.2.val, by unfold Fw; omega, ?_⟩
  have e : c24 x = [AV.i ((x.1.val * 18446744073709551616 + x.2.val) / 18446744073709551616), u6 ((x.1.val * 18446744073709551616 + x.2.val) % 18446744073709551616)] := by
    show c2 x.1 ++ (c22 x.2 ++ []) = _
    rw [show (x.1.val * 18446744073709551616 + x.2.val) / 18446744073709551616 = x.1.val by omega, show (x.1.val * 18446744073709551616 + x.2.val) % 18446744073709551616 = x.2.val by omega]
    rfl
  rw [e] at hx
  exact hx
end
end Go.Proofs.YtokhmkkifmhfmaaDoor
