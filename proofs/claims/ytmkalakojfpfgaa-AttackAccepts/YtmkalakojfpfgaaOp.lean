/-
  What came in, type by type: its parts, opened. Written by program (opens.py).
-/
import Derived.Test.YtmkalakojfpfgaaSig
import Derived.Test.YtmkalakojfpfgaaAmO
import Derived.KernelRfl
set_option linter.unusedVariables false
namespace Go.Proofs.Ytmkalakojfpfgaa
open Go Go.Am

instance : Inhabited I64 := ⟨⟨0, by decide⟩⟩
instance : Inhabited U16 := ⟨⟨0, by decide⟩⟩
theorem flat_one {α : Type} (g : α → AV) (l : List α) : (l.map fun d => [g d]).flatten = l.map g := by induction l with | nil => rfl | cons a l ih => rw [List.map_cons, List.flatten_cons, ih]; rfl
theorem co24 : Try.prog.cellsOf 24 = 3 := by kernel_rfl
theorem co22 : Try.prog.cellsOf 22 = 1 := by kernel_rfl
theorem co35 : Try.prog.cellsOf 35 = 1 := by kernel_rfl
theorem co2 : Try.prog.cellsOf 2 = 1 := by kernel_rfl
abbrev D2 := I64
abbrev c2 : D2 → List AV := fun d => [.v (.int .i64 d.val)]
theorem cl2 (d : D2) : (c2 d).length = 1 := rfl
theorem opens2 : Opens Try.prog 2 c2 := opens_i64 Try.underlying2
abbrev D35 := List D2
abbrev c35 : D35 → List AV := fun l => [.sl l.length (l.map c2).flatten]
theorem cl35 (d : D35) : (c35 d).length = 1 := rfl
theorem opens35 : Opens Try.prog 35 c35 := opens_slice Try.underlying35 co2 (by decide) opens2 cl2
abbrev D22 := List D35
abbrev c22 : D22 → List AV := fun l => [.sl l.length (l.map c35).flatten]
theorem cl22 (d : D22) : (c22 d).length = 1 := rfl
theorem opens22 : Opens Try.prog 22 c22 := opens_slice Try.underlying22 co35 (by decide) opens35 cl35
theorem co3 : Try.prog.cellsOf 3 = 1 := by kernel_rfl
abbrev D3 := I64
abbrev c3 : D3 → List AV := fun d => [.v (.int .i64 d.val)]
theorem cl3 (d : D3) : (c3 d).length = 1 := rfl
theorem opens3 : Opens Try.prog 3 c3 := opens_i64 Try.underlying3
abbrev D24 := D22 × D3 × D3
abbrev c24 : D24 → List AV := fun d => c22 d.1 ++ (c3 d.2.1 ++ (c3 d.2.2 ++ ([])))
theorem cl24 (d : D24) : (c24 d).length = 3 := rfl
theorem opens24 : Opens Try.prog 24 c24 := by
  intro H enc w held n cs x h
  obtain ⟨xs, m, _, rfl, hl, hlen, hf⟩ := DataW.trod_struct Try.underlying24 h
  rw [co24] at hl
  have g0 := hf 0 _ rfl
  rw [List.getElem?_eq_getElem (by rw [hlen]; decide)] at g0
  obtain ⟨d0, E0⟩ := opens22 _ _ _ _ _ _ _ g0
  have D0 : DLs w (c22 d0) ((cs.drop 0).take (Try.prog.cellsOf 22)) := E0
  rw [co22] at D0
  have g1 := hf 1 _ rfl
  rw [List.getElem?_eq_getElem (by rw [hlen]; decide)] at g1
  obtain ⟨d1, E1⟩ := opens3 _ _ _ _ _ _ _ g1
  have D1 : DLs w (c3 d1) ((cs.drop 1).take (Try.prog.cellsOf 3)) := E1
  rw [co3] at D1
  have g2 := hf 2 _ rfl
  rw [List.getElem?_eq_getElem (by rw [hlen]; decide)] at g2
  obtain ⟨d2, E2⟩ := opens3 _ _ _ _ _ _ _ g2
  have D2 : DLs w (c3 d2) ((cs.drop 2).take (Try.prog.cellsOf 3)) := E2
  rw [co3] at D2
  refine ⟨(d0, d1, d2), ?_⟩
  have key : DLs w (c24 (d0, d1, d2)) (cs.drop 0) := dls_split D0 (cl22 _) (dls_split D1 (cl3 _) (dls_split D2 (cl3 _) (dls_end (by rw [hl]))))
  rwa [List.drop_zero] at key
theorem co25 : Try.prog.cellsOf 25 = 1 := by kernel_rfl
abbrev D25 := List D3
abbrev c25 : D25 → List AV := fun l => [.sl l.length (l.map c3).flatten]
theorem cl25 (d : D25) : (c25 d).length = 1 := rfl
theorem opens25 : Opens Try.prog 25 c25 := opens_slice Try.underlying25 co3 (by decide) opens3 cl3
theorem co42 : Try.prog.cellsOf 42 = 3 := by kernel_rfl
abbrev D42 := {l : List D2 // l.length = 3}
abbrev c42 : D42 → List AV := fun l => (l.val.map c2).flatten
theorem cl42 (d : D42) : (c42 d).length = 3 := by rw [flat_unilen cl2, d.property]
theorem opens42 : Opens Try.prog 42 c42 := opens_array Try.underlying42 co2 (by rw [co42]) opens2 cl2
end Go.Proofs.Ytmkalakojfpfgaa
