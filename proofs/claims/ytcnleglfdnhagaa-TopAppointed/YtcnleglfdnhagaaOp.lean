/-
  What came in, type by type: its parts, opened. Written by program (opens.py).
-/
import Derived.Test.YtcnleglfdnhagaaSig
import Derived.Test.YtcnleglfdnhagaaAmO
import Derived.KernelRfl
set_option linter.unusedVariables false
namespace Go.Proofs.Ytcnleglfdnhagaa
open Go Go.Am

instance : Inhabited I64 := ⟨⟨0, by decide⟩⟩
instance : Inhabited Str := ⟨⟨⟨#[]⟩, by decide⟩⟩
instance : Inhabited U16 := ⟨⟨0, by decide⟩⟩
instance : Inhabited U8 := ⟨⟨0, by decide⟩⟩
theorem flat_one {α : Type} (g : α → AV) (l : List α) : (l.map fun d => [g d]).flatten = l.map g := by induction l with | nil => rfl | cons a l ih => rw [List.map_cons, List.flatten_cons, ih]; rfl
theorem co22 : Try.prog.cellsOf 22 = 1 := by kernel_rfl
theorem co32 : Try.prog.cellsOf 32 = 4 := by kernel_rfl
theorem co3 : Try.prog.cellsOf 3 = 1 := by kernel_rfl
abbrev D3 := I64
abbrev c3 : D3 → List AV := fun d => [.v (.int .i64 d.val)]
theorem cl3 (d : D3) : (c3 d).length = 1 := rfl
theorem opens3 : Opens Try.prog 3 c3 := opens_i64 Try.underlying3
theorem co2 : Try.prog.cellsOf 2 = 1 := by kernel_rfl
abbrev D2 := I64
abbrev c2 : D2 → List AV := fun d => [.v (.int .i64 d.val)]
theorem cl2 (d : D2) : (c2 d).length = 1 := rfl
theorem opens2 : Opens Try.prog 2 c2 := opens_i64 Try.underlying2
theorem co9 : Try.prog.cellsOf 9 = 1 := by kernel_rfl
abbrev D9 := Str
abbrev c9 : D9 → List AV := fun d => [.v (.string d.val)]
theorem cl9 (d : D9) : (c9 d).length = 1 := rfl
theorem opens9 : Opens Try.prog 9 c9 := opens_string Try.underlying9
abbrev D32 := D3 × D2 × D9 × D9
abbrev c32 : D32 → List AV := fun d => c3 d.1 ++ (c2 d.2.1 ++ (c9 d.2.2.1 ++ (c9 d.2.2.2 ++ ([]))))
theorem cl32 (d : D32) : (c32 d).length = 4 := rfl
theorem opens32 : Opens Try.prog 32 c32 := by
  intro H enc w held n cs x h
  obtain ⟨xs, m, _, rfl, hl, hlen, hf⟩ := DataW.trod_struct Try.underlying32 h
  rw [co32] at hl
  have g0 := hf 0 _ rfl
  rw [List.getElem?_eq_getElem (by rw [hlen]; decide)] at g0
  obtain ⟨d0, E0⟩ := opens3 _ _ _ _ _ _ _ g0
  have D0 : DLs w (c3 d0) ((cs.drop 0).take (Try.prog.cellsOf 3)) := E0
  rw [co3] at D0
  have g1 := hf 1 _ rfl
  rw [List.getElem?_eq_getElem (by rw [hlen]; decide)] at g1
  obtain ⟨d1, E1⟩ := opens2 _ _ _ _ _ _ _ g1
  have D1 : DLs w (c2 d1) ((cs.drop 1).take (Try.prog.cellsOf 2)) := E1
  rw [co2] at D1
  have g2 := hf 2 _ rfl
  rw [List.getElem?_eq_getElem (by rw [hlen]; decide)] at g2
  obtain ⟨d2, E2⟩ := opens9 _ _ _ _ _ _ _ g2
  have D2 : DLs w (c9 d2) ((cs.drop 2).take (Try.prog.cellsOf 9)) := E2
  rw [co9] at D2
  have g3 := hf 3 _ rfl
  rw [List.getElem?_eq_getElem (by rw [hlen]; decide)] at g3
  obtain ⟨d3, E3⟩ := opens9 _ _ _ _ _ _ _ g3
  have D3 : DLs w (c9 d3) ((cs.drop 3).take (Try.prog.cellsOf 9)) := E3
  rw [co9] at D3
  refine ⟨(d0, d1, d2, d3), ?_⟩
  have key : DLs w (c32 (d0, d1, d2, d3)) (cs.drop 0) := dls_split D0 (cl3 _) (dls_split D1 (cl2 _) (dls_split D2 (cl9 _) (dls_split D3 (cl9 _) (dls_end (by rw [hl])))))
  rwa [List.drop_zero] at key
abbrev D22 := List D32
abbrev c22 : D22 → List AV := fun l => [.sl l.length (l.map c32).flatten]
theorem cl22 (d : D22) : (c22 d).length = 1 := rfl
theorem opens22 : Opens Try.prog 22 c22 := opens_slice Try.underlying22 co32 (by decide) opens32 cl32
theorem co23 : Try.prog.cellsOf 23 = 1 := by kernel_rfl
theorem co35 : Try.prog.cellsOf 35 = 3 := by kernel_rfl
theorem co33 : Try.prog.cellsOf 33 = 1 := by kernel_rfl
abbrev D33 := List D2
abbrev c33 : D33 → List AV := fun l => [.sl l.length (l.map c2).flatten]
theorem cl33 (d : D33) : (c33 d).length = 1 := rfl
theorem opens33 : Opens Try.prog 33 c33 := opens_slice Try.underlying33 co2 (by decide) opens2 cl2
abbrev D35 := D9 × D9 × D33
abbrev c35 : D35 → List AV := fun d => c9 d.1 ++ (c9 d.2.1 ++ (c33 d.2.2 ++ ([])))
theorem cl35 (d : D35) : (c35 d).length = 3 := rfl
theorem opens35 : Opens Try.prog 35 c35 := by
  intro H enc w held n cs x h
  obtain ⟨xs, m, _, rfl, hl, hlen, hf⟩ := DataW.trod_struct Try.underlying35 h
  rw [co35] at hl
  have g0 := hf 0 _ rfl
  rw [List.getElem?_eq_getElem (by rw [hlen]; decide)] at g0
  obtain ⟨d0, E0⟩ := opens9 _ _ _ _ _ _ _ g0
  have D0 : DLs w (c9 d0) ((cs.drop 0).take (Try.prog.cellsOf 9)) := E0
  rw [co9] at D0
  have g1 := hf 1 _ rfl
  rw [List.getElem?_eq_getElem (by rw [hlen]; decide)] at g1
  obtain ⟨d1, E1⟩ := opens9 _ _ _ _ _ _ _ g1
  have D1 : DLs w (c9 d1) ((cs.drop 1).take (Try.prog.cellsOf 9)) := E1
  rw [co9] at D1
  have g2 := hf 2 _ rfl
  rw [List.getElem?_eq_getElem (by rw [hlen]; decide)] at g2
  obtain ⟨d2, E2⟩ := opens33 _ _ _ _ _ _ _ g2
  have D2 : DLs w (c33 d2) ((cs.drop 2).take (Try.prog.cellsOf 33)) := E2
  rw [co33] at D2
  refine ⟨(d0, d1, d2), ?_⟩
  have key : DLs w (c35 (d0, d1, d2)) (cs.drop 0) := dls_split D0 (cl9 _) (dls_split D1 (cl9 _) (dls_split D2 (cl33 _) (dls_end (by rw [hl]))))
  rwa [List.drop_zero] at key
abbrev D23 := List D35
abbrev c23 : D23 → List AV := fun l => [.sl l.length (l.map c35).flatten]
theorem cl23 (d : D23) : (c23 d).length = 1 := rfl
theorem opens23 : Opens Try.prog 23 c23 := opens_slice Try.underlying23 co35 (by decide) opens35 cl35
end Go.Proofs.Ytcnleglfdnhagaa
