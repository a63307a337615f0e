/-
  The arguments of the statements of chapter 53, opened.
-/
import Derived.Test.YtdicnojnkbmdlaaOp
import Derived.Test.YtdicnojnkbmdlaaS
set_option linter.unusedVariables false
set_option linter.unusedSimpArgs false
set_option maxRecDepth 10000
namespace Go.Proofs.Ytdicnojnkbmdlaa
open Go Go.Am Go.ChangeShapes Go.WideShapes Go.ChangeAt Go.RowKit
theorem list2 {α : Type} {l : List α} (h : l.length = 2) : ∃ x y, l = [x, y] := by
  match l, h with
  | [x, y], _ => exact ⟨x, y, rfl⟩
def prOf (d : D58) : Pr := ⟨(gt d.val 0).val, (gt d.val 1).val⟩
theorem c58_eq (d : D58) : c58 d = prC (prOf d) := by
  obtain ⟨l, h⟩ := d
  obtain ⟨x, y, rfl⟩ := list2 h
  rfl
theorem c41_eq (d : D41) : c41 d = [prsAV (d.map prOf)] := by
  have e : (d.map c58) = (d.map prOf).map prC := by
    rw [List.map_map]
    exact List.map_congr_left fun x _ => c58_eq x
  show [AV.sl d.length (d.map c58).flatten] = _
  rw [e]
  simp only [prsAV, flatP, List.length_map]
abbrev intOf (d : D40) : List Int := d.map (·.val)
theorem c40_eq (d : D40) : c40 d = [intsAV (intOf d)] := by
  simp only [c40, c3, flat_one, intsAV, intOf, List.length_map, List.map_map, Function.comp_def]
section
variable {H : Type} {enc : TypeId × Value → H} {W : World} {base : Nat} {r : Reach} {v : Value} {d : DataW H} {p : List MemPlace}
theorem open_43 (hval : Value.okWide Try.prog W r base 43 v) (h : DataW.Trod enc Try.prog W 0 (fun _ => true) true 43 v d p) :
    ∃ (P : List Int) (L : List Pr), Den [] (In W) W (.agg (raceC P L)) v := by
  obtain ⟨cs, rfl, hs⟩ := okWide_struct Try.underlying43 hval
  obtain ⟨x, hx⟩ := open_agg opens43 h
  have e : c43 x = raceC (intOf x.1) (x.2.map prOf) := by
    show c40 x.1 ++ (c41 x.2 ++ []) = _
    rw [c40_eq, c41_eq]; rfl
  rw [e] at hx
  exact ⟨_, _, hx⟩
theorem open_40 (hval : Value.okWide Try.prog W r base 40 v) (h : DataW.Trod enc Try.prog W 0 (fun _ => true) true 40 v d p) :
    ∃ l : List Int, Den [] (In W) W (intsAV l) v := by
  obtain ⟨a, len, cap, rfl⟩ := okWide_slice Try.underlying40 hval
  obtain ⟨fuel, hf⟩ := h
  obtain ⟨x, hx⟩ := opens40 _ _ _ _ _ _ _ hf
  rw [c40_eq] at hx
  exact ⟨intOf x, hx.2 0 _ _ rfl rfl⟩
theorem open_3 (hval : Value.okWide Try.prog W r base 3 v) (h : DataW.Trod enc Try.prog W 0 (fun _ => true) true 3 v d p) : ∃ n : Int, Den [] (In W) W (AV.i n) v := by
  obtain ⟨fuel, hf⟩ := h
  obtain ⟨n, rfl⟩ := okWide_int Try.underlying3 hval
  exact ⟨n, by obtain ⟨m, hm, _⟩ := DataW.trod_int Try.underlying3 hf; cases hm; exact .v _⟩
end
end Go.Proofs.Ytdicnojnkbmdlaa
