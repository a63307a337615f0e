/-
  The arguments of TopReserve, opened.
-/
import Derived.Test.YtkjgmpjnhfmecaaOp
import Derived.Test.YtkjgmpjnhfmecaaNw
import Derived.Test.YtkjgmpjnhfmecaaBt
set_option linter.unusedVariables false
set_option linter.unusedSimpArgs false
set_option maxRecDepth 10000
namespace Go.Proofs.Ytkjgmpjnhfmecaa
open Go Go.Am Go.ChangeShapes Go.WideShapes Go.ChangeAt Go.RowKit
theorem c22_eq (d : D22) : c22 d = [intsAV (d.map fun x => x.val)] := by
  show [AV.sl d.length (d.map c3).flatten] = _
  rw [intsAV, List.length_map, List.map_map, show (d.map c3).flatten = d.map fun x => AV.i x.val from flat_one _ _]
  rfl
theorem list4 {α : Type} {l : List α} (h : l.length = 4) : ∃ x y z w, l = [x, y, z, w] := by
  match l, h with
  | [x, y, z, w], _ => exact ⟨x, y, z, w, rfl⟩
section
variable {H : Type} {enc : TypeId × Value → H} {W : World} {base : Nat} {r : Reach} {v : Value} {d : DataW H} {p : List MemPlace}
theorem okWide_arr {t e : TypeId} {n : Nat} (ht : Try.prog.underlying t = some (.array n e)) (hval : Value.okWide Try.prog W r base t v) : ∃ cs, v = .agg cs := by
  simp only [Value.okWide, ht, Cell.okWide] at hval
  cases v <;> simp_all [Cell.ok]
theorem open_5 (hval : Value.okWide Try.prog W r base 5 v) (h : DataW.Trod enc Try.prog W 0 (fun _ => true) true 5 v d p) : ∃ (k : Int) (hk : 0 ≤ k ∧ k ≤ 255), Den [] (In W) W (.v (.int .u8 k)) v := by
  obtain ⟨n, rfl⟩ := okWide_int Try.underlying5 hval
  obtain ⟨fuel, hf⟩ := h
  obtain ⟨x, hx⟩ := opens5 _ _ _ _ _ _ _ hf
  exact ⟨x.val, x.property, hx.2 0 _ _ rfl rfl⟩
theorem open_24 (hval : Value.okWide Try.prog W r base 24 v) (h : DataW.Trod enc Try.prog W 0 (fun _ => true) true 24 v d p) :
    ∃ (f0 r0 : Int) (G : List Int), Den [] (In W) W (.agg [AV.i f0, AV.i r0, intsAV G]) v := by
  obtain ⟨cs, rfl, hs⟩ := okWide_struct Try.underlying24 hval
  obtain ⟨x, hx⟩ := open_agg opens24 h
  have e : c24 x = [AV.i x.1.val, AV.i x.2.1.val, intsAV (x.2.2.map fun y => y.val)] := by
    show c2 x.1 ++ (c2 x.2.1 ++ (c22 x.2.2 ++ [])) = _
    rw [c22_eq]; rfl
  rw [e] at hx
  exact ⟨_, _, _, hx⟩
theorem open_25 (hval : Value.okWide Try.prog W r base 25 v) (h : DataW.Trod enc Try.prog W 0 (fun _ => true) true 25 v d p) :
    ∃ (l0 l1 l2 l3 : Int) (b0 : 0 ≤ l0 ∧ l0 ≤ 255) (b1 : 0 ≤ l1 ∧ l1 ≤ 255) (b2 : 0 ≤ l2 ∧ l2 ≤ 255) (b3 : 0 ≤ l3 ∧ l3 ≤ 255), Den [] (In W) W (.agg [u8A l0, u8A l1, u8A l2, u8A l3]) v := by
  obtain ⟨cs, rfl⟩ := okWide_arr Try.underlying25 hval
  obtain ⟨x, hx⟩ := open_agg opens25 h
  obtain ⟨a, b, c, e, he⟩ := list4 x.property
  have e2 : c25 x = [u8A a.val, u8A b.val, u8A c.val, u8A e.val] := by
    show (x.val.map c5).flatten = _
    rw [he]; rfl
  rw [e2] at hx
  exact ⟨_, _, _, _, a.property, b.property, c.property, e.property, hx⟩
end
end Go.Proofs.Ytkjgmpjnhfmecaa
