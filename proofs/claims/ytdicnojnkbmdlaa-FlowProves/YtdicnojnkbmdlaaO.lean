/-
  The arguments of the statements of chapters 52 and 53, opened.
-/
import Derived.Test.YtdicnojnkbmdlaaOp
import Derived.Test.YtdicnojnkbmdlaaP
set_option linter.unusedVariables false
set_option linter.unusedSimpArgs false
set_option maxRecDepth 10000
namespace Go.Proofs.Ytdicnojnkbmdlaa
open Go Go.Am Go.ChangeShapes Go.WideShapes Go.ChangeAt Go.RowKit

abbrev edOf (d : D66) : Ed := ⟨d.1.val, d.2.1.val, d.2.2.val⟩
theorem c22_eq (d : D22) : c22 d = [edgesAV (d.map edOf)] := by
  simp only [c22, c66, c2, c3, edgesAV, flatE, List.length_map, List.map_map, Function.comp_def]
  rfl
abbrev inOf (d : D27) : List Int := d.map (·.val)
theorem c27_eq (d : D27) : c27 d = [intsAV (inOf d)] := by
  simp only [c27, c2, flat_one, intsAV, inOf, List.length_map, List.map_map, Function.comp_def]
theorem c28_eq (d : D28) : c28 d = [boolsAV d] := by
  simp only [c28, c4, flat_one, List.length_map, List.map_map, Function.comp_def]

section
variable {H : Type} {enc : TypeId × Value → H} {W : World} {base : Nat} {r : Reach} {v : Value} {d : DataW H} {p : List MemPlace}
theorem open_24 (hval : Value.okWide Try.prog W r base 24 v) (h : DataW.Trod enc Try.prog W 0 (fun _ => true) true 24 v d p) :
    ∃ (n s t : Int) (E : List Ed), Den [] (In W) W (.agg (graphC n s t E)) v := by
  obtain ⟨cs, rfl, hs⟩ := okWide_struct Try.underlying24 hval
  obtain ⟨x, hx⟩ := open_agg opens24 h
  have e : c24 x = graphC x.1.val x.2.1.val x.2.2.1.val (x.2.2.2.map edOf) := by
    show c3 x.1 ++ (c3 x.2.1 ++ (c3 x.2.2.1 ++ (c22 x.2.2.2 ++ []))) = _
    rw [c22_eq]; rfl
  rw [e] at hx
  exact ⟨_, _, _, _, hx⟩
theorem open_27 (hval : Value.okWide Try.prog W r base 27 v) (h : DataW.Trod enc Try.prog W 0 (fun _ => true) true 27 v d p) :
    ∃ l : List Int, Den [] (In W) W (intsAV l) v := by
  obtain ⟨a, len, cap, rfl⟩ := okWide_slice Try.underlying27 hval
  obtain ⟨fuel, hf⟩ := h
  obtain ⟨x, hx⟩ := opens27 _ _ _ _ _ _ _ hf
  rw [c27_eq] at hx
  exact ⟨inOf x, hx.2 0 _ _ rfl rfl⟩
theorem open_28 (hval : Value.okWide Try.prog W r base 28 v) (h : DataW.Trod enc Try.prog W 0 (fun _ => true) true 28 v d p) :
    ∃ l : List Bool, Den [] (In W) W (boolsAV l) v := by
  obtain ⟨a, len, cap, rfl⟩ := okWide_slice Try.underlying28 hval
  obtain ⟨fuel, hf⟩ := h
  obtain ⟨x, hx⟩ := opens28 _ _ _ _ _ _ _ hf
  rw [c28_eq] at hx
  exact ⟨x, hx.2 0 _ _ rfl rfl⟩
end
end Go.Proofs.Ytdicnojnkbmdlaa
