/-
  What came in, type by type: its parts, opened. Written by program (opens.py).
-/
import Derived.Test.YtdicnojnkbmdlaaSig
import Derived.Test.YtdicnojnkbmdlaaAmO
import Derived.KernelRfl
set_option linter.unusedVariables false
namespace Go.Proofs.Ytdicnojnkbmdlaa
open Go Go.Am

instance : Inhabited I64 := ⟨⟨0, by decide⟩⟩
instance : Inhabited U16 := ⟨⟨0, by decide⟩⟩
theorem flat_one {α : Type} (g : α → AV) (l : List α) : (l.map fun d => [g d]).flatten = l.map g := by induction l with | nil => rfl | cons a l ih => rw [List.map_cons, List.flatten_cons, ih]; rfl
theorem co24 : Try.prog.cellsOf 24 = 4 := by kernel_rfl
theorem co3 : Try.prog.cellsOf 3 = 1 := by kernel_rfl
abbrev D3 := I64
abbrev c3 : D3 → List AV := fun d => [.v (.int .i64 d.val)]
theorem cl3 (d : D3) : (c3 d).length = 1 := rfl
theorem opens3 : Opens Try.prog 3 c3 := opens_i64 Try.underlying3
theorem co22 : Try.prog.cellsOf 22 = 1 := by kernel_rfl
theorem co66 : Try.prog.cellsOf 66 = 3 := by kernel_rfl
theorem co2 : Try.prog.cellsOf 2 = 1 := by kernel_rfl
abbrev D2 := I64
abbrev c2 : D2 → List AV := fun d => [.v (.int .i64 d.val)]
theorem cl2 (d : D2) : (c2 d).length = 1 := rfl
theorem opens2 : Opens Try.prog 2 c2 := opens_i64 Try.underlying2
abbrev D66 := D3 × D3 × D2
abbrev c66 : D66 → List AV := fun d => c3 d.1 ++ (c3 d.2.1 ++ (c2 d.2.2 ++ ([])))
theorem cl66 (d : D66) : (c66 d).length = 3 := rfl
theorem opens66 : Opens Try.prog 66 c66 := by
  intro H enc w held n cs x h
  obtain ⟨xs, m, _, rfl, hl, hlen, hf⟩ := DataW.trod_struct Try.underlying66 h
  rw [co66] at hl
  have g0 := hf 0 _ rfl
  rw [List.getElem?_eq_getElem (by rw [hlen]; decide)] at g0
  obtain ⟨d0, E0⟩ := opens3 _ _ _ _ _ _ _ g0
  have D0 : DLs w (c3 d0) ((cs.drop 0).take (Try.prog.cellsOf 3)) := E0
  rw [co3] at D0
  have g1 := hf 1 _ rfl
  rw [List.getElem?_eq_getElem (by rw [hlen]; decide)] at g1
  obtain ⟨d1, E1⟩ := opens3 _ _ _ _ _ _ _ g1
  have D1 : DLs w (c3 d1) ((cs.drop 1).take (Try.prog.cellsOf 3)) := E1
  rw [co3] at D1
  have g2 := hf 2 _ rfl
  rw [List.getElem?_eq_getElem (by rw [hlen]; decide)] at g2
  obtain ⟨d2, E2⟩ := opens2 _ _ _ _ _ _ _ g2
  have D2 : DLs w (c2 d2) ((cs.drop 2).take (Try.prog.cellsOf 2)) := E2
  rw [co2] at D2
  refine ⟨(d0, d1, d2), ?_⟩
  have key : DLs w (c66 (d0, d1, d2)) (cs.drop 0) := dls_split D0 (cl3 _) (dls_split D1 (cl3 _) (dls_split D2 (cl2 _) (dls_end (by rw [hl]))))
  rwa [List.drop_zero] at key
abbrev D22 := List D66
abbrev c22 : D22 → List AV := fun l => [.sl l.length (l.map c66).flatten]
theorem cl22 (d : D22) : (c22 d).length = 1 := rfl
theorem opens22 : Opens Try.prog 22 c22 := opens_slice Try.underlying22 co66 (by decide) opens66 cl66
abbrev D24 := D3 × D3 × D3 × D22
abbrev c24 : D24 → List AV := fun d => c3 d.1 ++ (c3 d.2.1 ++ (c3 d.2.2.1 ++ (c22 d.2.2.2 ++ ([]))))
theorem cl24 (d : D24) : (c24 d).length = 4 := rfl
theorem opens24 : Opens Try.prog 24 c24 := by
  intro H enc w held n cs x h
  obtain ⟨xs, m, _, rfl, hl, hlen, hf⟩ := DataW.trod_struct Try.underlying24 h
  rw [co24] at hl
  have g0 := hf 0 _ rfl
  rw [List.getElem?_eq_getElem (by rw [hlen]; decide)] at g0
  obtain ⟨d0, E0⟩ := opens3 _ _ _ _ _ _ _ g0
  have D0 : DLs w (c3 d0) ((cs.drop 0).take (Try.prog.cellsOf 3)) := E0
  rw [co3] at D0
  have g1 := hf 1 _ rfl
  rw [List.getElem?_eq_getElem (by rw [hlen]; decide)] at g1
  obtain ⟨d1, E1⟩ := opens3 _ _ _ _ _ _ _ g1
  have D1 : DLs w (c3 d1) ((cs.drop 1).take (Try.prog.cellsOf 3)) := E1
  rw [co3] at D1
  have g2 := hf 2 _ rfl
  rw [List.getElem?_eq_getElem (by rw [hlen]; decide)] at g2
  obtain ⟨d2, E2⟩ := opens3 _ _ _ _ _ _ _ g2
  have D2 : DLs w (c3 d2) ((cs.drop 2).take (Try.prog.cellsOf 3)) := E2
  rw [co3] at D2
  have g3 := hf 3 _ rfl
  rw [List.getElem?_eq_getElem (by rw [hlen]; decide)] at g3
  obtain ⟨d3, E3⟩ := opens22 _ _ _ _ _ _ _ g3
  have D3 : DLs w (c22 d3) ((cs.drop 3).take (Try.prog.cellsOf 22)) := E3
  rw [co22] at D3
  refine ⟨(d0, d1, d2, d3), ?_⟩
  have key : DLs w (c24 (d0, d1, d2, d3)) (cs.drop 0) := dls_split D0 (cl3 _) (dls_split D1 (cl3 _) (dls_split D2 (cl3 _) (dls_split D3 (cl22 _) (dls_end (by rw [hl])))))
  rwa [List.drop_zero] at key
theorem co27 : Try.prog.cellsOf 27 = 1 := by kernel_rfl
abbrev D27 := List D2
abbrev c27 : D27 → List AV := fun l => [.sl l.length (l.map c2).flatten]
theorem cl27 (d : D27) : (c27 d).length = 1 := rfl
theorem opens27 : Opens Try.prog 27 c27 := opens_slice Try.underlying27 co2 (by decide) opens2 cl2
theorem co28 : Try.prog.cellsOf 28 = 1 := by kernel_rfl
theorem co4 : Try.prog.cellsOf 4 = 1 := by kernel_rfl
abbrev D4 := Bool
abbrev c4 : D4 → List AV := fun d => [.v (.bool d)]
theorem cl4 (d : D4) : (c4 d).length = 1 := rfl
theorem opens4 : Opens Try.prog 4 c4 := opens_bool Try.underlying4
abbrev D28 := List D4
abbrev c28 : D28 → List AV := fun l => [.sl l.length (l.map c4).flatten]
theorem cl28 (d : D28) : (c28 d).length = 1 := rfl
theorem opens28 : Opens Try.prog 28 c28 := opens_slice Try.underlying28 co4 (by decide) opens4 cl4
theorem co43 : Try.prog.cellsOf 43 = 2 := by kernel_rfl
theorem co40 : Try.prog.cellsOf 40 = 1 := by kernel_rfl
abbrev D40 := List D3
abbrev c40 : D40 → List AV := fun l => [.sl l.length (l.map c3).flatten]
theorem cl40 (d : D40) : (c40 d).length = 1 := rfl
theorem opens40 : Opens Try.prog 40 c40 := opens_slice Try.underlying40 co3 (by decide) opens3 cl3
theorem co41 : Try.prog.cellsOf 41 = 1 := by kernel_rfl
theorem co58 : Try.prog.cellsOf 58 = 2 := by kernel_rfl
abbrev D58 := {l : List D3 // l.length = 2}
abbrev c58 : D58 → List AV := fun l => (l.val.map c3).flatten
theorem cl58 (d : D58) : (c58 d).length = 2 := by rw [flat_unilen cl3, d.property]
theorem opens58 : Opens Try.prog 58 c58 := opens_array Try.underlying58 co3 (by rw [co58]) opens3 cl3
abbrev D41 := List D58
abbrev c41 : D41 → List AV := fun l => [.sl l.length (l.map c58).flatten]
theorem cl41 (d : D41) : (c41 d).length = 1 := rfl
theorem opens41 : Opens Try.prog 41 c41 := opens_slice Try.underlying41 co58 (by decide) opens58 cl58
abbrev D43 := D40 × D41
abbrev c43 : D43 → List AV := fun d => c40 d.1 ++ (c41 d.2 ++ ([]))
theorem cl43 (d : D43) : (c43 d).length = 2 := rfl
theorem opens43 : Opens Try.prog 43 c43 := by
  intro H enc w held n cs x h
  obtain ⟨xs, m, _, rfl, hl, hlen, hf⟩ := DataW.trod_struct Try.underlying43 h
  rw [co43] at hl
  have g0 := hf 0 _ rfl
  rw [List.getElem?_eq_getElem (by rw [hlen]; decide)] at g0
  obtain ⟨d0, E0⟩ := opens40 _ _ _ _ _ _ _ g0
  have D0 : DLs w (c40 d0) ((cs.drop 0).take (Try.prog.cellsOf 40)) := E0
  rw [co40] at D0
  have g1 := hf 1 _ rfl
  rw [List.getElem?_eq_getElem (by rw [hlen]; decide)] at g1
  obtain ⟨d1, E1⟩ := opens41 _ _ _ _ _ _ _ g1
  have D1 : DLs w (c41 d1) ((cs.drop 1).take (Try.prog.cellsOf 41)) := E1
  rw [co41] at D1
  refine ⟨(d0, d1), ?_⟩
  have key : DLs w (c43 (d0, d1)) (cs.drop 0) := dls_split D0 (cl40 _) (dls_split D1 (cl41 _) (dls_end (by rw [hl])))
  rwa [List.drop_zero] at key
theorem co46 : Try.prog.cellsOf 46 = 3 := by kernel_rfl
abbrev D46 := D4 × D40 × D40
abbrev c46 : D46 → List AV := fun d => c4 d.1 ++ (c40 d.2.1 ++ (c40 d.2.2 ++ ([])))
theorem cl46 (d : D46) : (c46 d).length = 3 := rfl
theorem opens46 : Opens Try.prog 46 c46 := by
  intro H enc w held n cs x h
  obtain ⟨xs, m, _, rfl, hl, hlen, hf⟩ := DataW.trod_struct Try.underlying46 h
  rw [co46] at hl
  have g0 := hf 0 _ rfl
  rw [List.getElem?_eq_getElem (by rw [hlen]; decide)] at g0
  obtain ⟨d0, E0⟩ := opens4 _ _ _ _ _ _ _ g0
  have D0 : DLs w (c4 d0) ((cs.drop 0).take (Try.prog.cellsOf 4)) := E0
  rw [co4] at D0
  have g1 := hf 1 _ rfl
  rw [List.getElem?_eq_getElem (by rw [hlen]; decide)] at g1
  obtain ⟨d1, E1⟩ := opens40 _ _ _ _ _ _ _ g1
  have D1 : DLs w (c40 d1) ((cs.drop 1).take (Try.prog.cellsOf 40)) := E1
  rw [co40] at D1
  have g2 := hf 2 _ rfl
  rw [List.getElem?_eq_getElem (by rw [hlen]; decide)] at g2
  obtain ⟨d2, E2⟩ := opens40 _ _ _ _ _ _ _ g2
  have D2 : DLs w (c40 d2) ((cs.drop 2).take (Try.prog.cellsOf 40)) := E2
  rw [co40] at D2
  refine ⟨(d0, d1, d2), ?_⟩
  have key : DLs w (c46 (d0, d1, d2)) (cs.drop 0) := dls_split D0 (cl4 _) (dls_split D1 (cl40 _) (dls_split D2 (cl40 _) (dls_end (by rw [hl]))))
  rwa [List.drop_zero] at key
end Go.Proofs.Ytdicnojnkbmdlaa
