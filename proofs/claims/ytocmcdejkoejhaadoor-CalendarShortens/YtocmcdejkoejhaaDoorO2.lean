/-
  Lists of days, opened.
-/
import Derived.Test.YtocmcdejkoejhaaDoorO
import Derived.Test.YtocmcdejkoejhaaDoorK2
set_option linter.unusedVariables false
set_option linter.unusedSimpArgs false
set_option maxRecDepth 10000
namespace Go.Proofs.YtocmcdejkoejhaaDoor
open Go Go.Am Go.ChangeShapes Go.WideShapes Go.ChangeAt Go.RowKit
def inOf (d : D37) : List Int := d.map fun x => x.val
theorem c37_eq (d : D37) : c37 d = [intsAV (inOf d)] := by
  show [AV.sl d.length (d.map c2).flatten] = _
  rw [show (d.map c2).flatten = (inOf d).map AV.i by rw [inOf, List.map_map]; exact flat_one (fun x : I64 => AV.i x.val) d, inOf, intsAV, List.length_map]
section
variable {H : Type} {enc : TypeId × Value → H} {W : World} {base : Nat} {r : Reach} {v : Value} {d : DataW H} {p : List MemPlace}
theorem open_37 (hval : Value.okWide Tryd.prog W r base 37 v) (h : DataW.Trod enc Tryd.prog W 0 (fun _ => true) true 37 v d p) :
    ∃ l : List Int, Den [] (In W) W (intsAV l) v := by
  obtain ⟨a, len, cap, rfl⟩ := okWide_slice Tryd.underlying37 hval
  obtain ⟨fuel, hf⟩ := h
  obtain ⟨x, hx⟩ := opens37 _ _ _ _ _ _ _ hf
  rw [c37_eq] at hx
  exact ⟨inOf x, hx.2 0 _ _ rfl rfl⟩
end
end Go.Proofs.YtocmcdejkoejhaaDoor
