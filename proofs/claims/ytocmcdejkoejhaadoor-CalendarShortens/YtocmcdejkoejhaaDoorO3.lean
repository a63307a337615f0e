/-
  Travel tables and visits, opened.
-/
import Derived.Test.YtocmcdejkoejhaaDoorO2
import Derived.Test.YtocmcdejkoejhaaDoorK4
set_option linter.unusedVariables false
set_option linter.unusedSimpArgs false
set_option maxRecDepth 10000
namespace Go.Proofs.YtocmcdejkoejhaaDoor
open Go Go.Am Go.ChangeShapes Go.WideShapes Go.ChangeAt Go.RowKit
theorem c40_eq (d : D40) : c40 d = [rowsAV (d.map inOf)] := by
  have e : (d.map c37).flatten = (d.map inOf).map intsAV := by
    rw [show d.map c37 = d.map (fun x => [intsAV (inOf x)]) from List.map_congr_left fun x _ => c37_eq x, flat_one (fun x => intsAV (inOf x)) d, List.map_map]
    rfl
  show [AV.sl d.length (d.map c37).flatten] = _
  rw [e, rowsAV, List.length_map]
def viOf (d : D57) : Vi := ⟨d.1.val, d.2.val⟩
theorem c57_eq (d : D57) : c57 d = viC (viOf d) := rfl
theorem c41_eq (d : D41) : c41 d = [visAV (d.map viOf)] := by
  have e : (d.map c57) = (d.map viOf).map viC := by
    rw [List.map_map]
    exact List.map_congr_left fun x _ => c57_eq x
  show [AV.sl d.length (d.map c57).flatten] = _
  rw [e, visAV, List.length_map]
  rfl
section
variable {H : Type} {enc : TypeId × Value → H} {W : World} {base : Nat} {r : Reach} {v : Value} {d : DataW H} {p : List MemPlace}
theorem den_len {φ : Phi} {I : Nat → Prop} {w : World} {n : Nat} {l : List AV} {x : Value} (h : Den φ I w (.sl n l) x) : n ≤ 9223372036854775807 := by
  cases h with
  | sl0 => omega
  | sl _ _ c a Y hn hc ha hI hY hD => have : c ≤ 9223372036854775807 := hc; omega
theorem open_40 (hval : Value.okWide Tryd.prog W r base 40 v) (h : DataW.Trod enc Tryd.prog W 0 (fun _ => true) true 40 v d p) :
    ∃ (t : List (List Int)) (hL : t.length ≤ 9223372036854775807), Den [] (In W) W (rowsAV t) v := by
  obtain ⟨a, len, cap, rfl⟩ := okWide_slice Tryd.underlying40 hval
  obtain ⟨fuel, hf⟩ := h
  obtain ⟨x, hx⟩ := opens40 _ _ _ _ _ _ _ hf
  rw [c40_eq] at hx
  exact ⟨x.map inOf, den_len (hx.2 0 _ _ rfl rfl), hx.2 0 _ _ rfl rfl⟩
theorem open_41 (hval : Value.okWide Tryd.prog W r base 41 v) (h : DataW.Trod enc Tryd.prog W 0 (fun _ => true) true 41 v d p) :
    ∃ l : List Vi, Den [] (In W) W (visAV l) v := by
  obtain ⟨a, len, cap, rfl⟩ := okWide_slice Tryd.underlying41 hval
  obtain ⟨fuel, hf⟩ := h
  obtain ⟨x, hx⟩ := opens41 _ _ _ _ _ _ _ hf
  rw [c41_eq] at hx
  exact ⟨x.map viOf, hx.2 0 _ _ rfl rfl⟩
end
end Go.Proofs.YtocmcdejkoejhaaDoor
