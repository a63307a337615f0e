/-
  What came in, type by type: its parts, opened. Written by program (opens.py).
-/
import Derived.Test.YtkjgmpjnhfmecaaSy
import Derived.Test.YtkjgmpjnhfmecaaAmO
import Derived.KernelRfl
set_option linter.unusedVariables false
namespace Go.Proofs.Ytkjgmpjnhfmecaa
open Go Go.Am

instance : Inhabited I64 := ⟨⟨0, by decide⟩⟩
instance : Inhabited Str := ⟨⟨⟨#[]⟩, by decide⟩⟩
instance : Inhabited U16 := ⟨⟨0, by decide⟩⟩
instance : Inhabited U8 := ⟨⟨0, by decide⟩⟩
theorem flat_one {α : Type} (g : α → AV) (l : List α) : (l.map fun d => [g d]).flatten = l.map g := by induction l with | nil => rfl | cons a l ih => rw [List.map_cons, List.flatten_cons, ih]; rfl
theorem co5 : Try.prog.cellsOf 5 = 1 := by kernel_rfl
abbrev D5 := U8
abbrev c5 : D5 → List AV := fun d => [.v (.int .u8 d.val)]
theorem cl5 (d : D5) : (c5 d).length = 1 := rfl
theorem opens5 : Opens Try.prog 5 c5 := opens_u8 Try.underlying5
theorem co24 : Try.prog.cellsOf 24 = 3 := by kernel_rfl
theorem co2 : Try.prog.cellsOf 2 = 1 := by kernel_rfl
abbrev D2 := I64
abbrev c2 : D2 → List AV := fun d => [.v (.int .i64 d.val)]
theorem cl2 (d : D2) : (c2 d).length = 1 := rfl
theorem opens2 : Opens Try.prog 2 c2 := opens_i64 Try.underlying2
theorem co22 : Try.prog.cellsOf 22 = 1 := by kernel_rfl
theorem co3 : Try.prog.cellsOf 3 = 1 := by kernel_rfl
abbrev D3 := I64
abbrev c3 : D3 → List AV := fun d => [.v (.int .i64 d.val)]
theorem cl3 (d : D3) : (c3 d).length = 1 := rfl
theorem opens3 : Opens Try.prog 3 c3 := opens_i64 Try.underlying3
abbrev D22 := List D3
abbrev c22 : D22 → List AV := fun l => [.sl l.length (l.map c3).flatten]
theorem cl22 (d : D22) : (c22 d).length = 1 := rfl
theorem opens22 : Opens Try.prog 22 c22 := opens_slice Try.underlying22 co3 (by decide) opens3 cl3
abbrev D24 := D2 × D2 × D22
abbrev c24 : D24 → List AV := fun d => c2 d.1 ++ (c2 d.2.1 ++ (c22 d.2.2 ++ ([])))
theorem cl24 (d : D24) : (c24 d).length = 3 := rfl
theorem opens24 : Opens Try.prog 24 c24 := by
  intro H enc w held n cs x h
  obtain ⟨xs, m, _, rfl, hl, hlen, hf⟩ := DataW.trod_struct Try.underlying24 h
  rw [co24] at hl
  have g0 := hf 0 _ rfl
  rw [List.getElem?_eq_getElem (by rw [hlen]; decide)] at g0
  obtain ⟨d0, E0⟩ := opens2 _ _ _ _ _ _ _ g0
  have D0 : DLs w (c2 d0) ((cs.drop 0).take (Try.prog.cellsOf 2)) := E0
  rw [co2] at D0
  have g1 := hf 1 _ rfl
  rw [List.getElem?_eq_getElem (by rw [hlen]; decide)] at g1
  obtain ⟨d1, E1⟩ := opens2 _ _ _ _ _ _ _ g1
  have D1 : DLs w (c2 d1) ((cs.drop 1).take (Try.prog.cellsOf 2)) := E1
  rw [co2] at D1
  have g2 := hf 2 _ rfl
  rw [List.getElem?_eq_getElem (by rw [hlen]; decide)] at g2
  obtain ⟨d2, E2⟩ := opens22 _ _ _ _ _ _ _ g2
  have D2 : DLs w (c22 d2) ((cs.drop 2).take (Try.prog.cellsOf 22)) := E2
  rw [co22] at D2
  refine ⟨(d0, d1, d2), ?_⟩
  have key : DLs w (c24 (d0, d1, d2)) (cs.drop 0) := dls_split D0 (cl2 _) (dls_split D1 (cl2 _) (dls_split D2 (cl22 _) (dls_end (by rw [hl]))))
  rwa [List.drop_zero] at key
theorem co25 : Try.prog.cellsOf 25 = 4 := by kernel_rfl
abbrev D25 := {l : List D5 // l.length = 4}
abbrev c25 : D25 → List AV := fun l => (l.val.map c5).flatten
theorem cl25 (d : D25) : (c25 d).length = 4 := by rw [flat_unilen cl5, d.property]
theorem opens25 : Opens Try.prog 25 c25 := opens_array Try.underlying25 co5 (by rw [co25]) opens5 cl5
end Go.Proofs.Ytkjgmpjnhfmecaa
