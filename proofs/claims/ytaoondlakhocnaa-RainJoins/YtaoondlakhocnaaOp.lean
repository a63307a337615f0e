/-
  What came in, type by type: its parts, opened. Written by program (opens.py).
-/
import Derived.Test.YtaoondlakhocnaaSig
import Derived.Test.YtaoondlakhocnaaAmO
import Derived.KernelRfl
set_option linter.unusedVariables false
namespace Go.Proofs.Ytaoondlakhocnaa
open Go Go.Am

instance : Inhabited I64 := ⟨⟨0, by decide⟩⟩
instance : Inhabited U16 := ⟨⟨0, by decide⟩⟩
theorem flat_one {α : Type} (g : α → AV) (l : List α) : (l.map fun d => [g d]).flatten = l.map g := by induction l with | nil => rfl | cons a l ih => rw [List.map_cons, List.flatten_cons, ih]; rfl
theorem co24 : Try.prog.cellsOf 24 = 1 := by kernel_rfl
theorem co22 : Try.prog.cellsOf 22 = 1 := by kernel_rfl
theorem co28 : Try.prog.cellsOf 28 = 1 := by kernel_rfl
theorem co2 : Try.prog.cellsOf 2 = 1 := by kernel_rfl
abbrev D2 := I64
abbrev c2 : D2 → List AV := fun d => [.v (.int .i64 d.val)]
theorem cl2 (d : D2) : (c2 d).length = 1 := rfl
theorem opens2 : Opens Try.prog 2 c2 := opens_i64 Try.underlying2
abbrev D28 := List D2
abbrev c28 : D28 → List AV := fun l => [.sl l.length (l.map c2).flatten]
theorem cl28 (d : D28) : (c28 d).length = 1 := rfl
theorem opens28 : Opens Try.prog 28 c28 := opens_slice Try.underlying28 co2 (by decide) opens2 cl2
abbrev D22 := List D28
abbrev c22 : D22 → List AV := fun l => [.sl l.length (l.map c28).flatten]
theorem cl22 (d : D22) : (c22 d).length = 1 := rfl
theorem opens22 : Opens Try.prog 22 c22 := opens_slice Try.underlying22 co28 (by decide) opens28 cl28
abbrev D24 := D22
abbrev c24 : D24 → List AV := fun d => c22 d ++ ([])
theorem cl24 (d : D24) : (c24 d).length = 1 := rfl
theorem opens24 : Opens Try.prog 24 c24 := by
  intro H enc w held n cs x h
  obtain ⟨xs, m, _, rfl, hl, hlen, hf⟩ := DataW.trod_struct Try.underlying24 h
  rw [co24] at hl
  have g0 := hf 0 _ rfl
  rw [List.getElem?_eq_getElem (by rw [hlen]; decide)] at g0
  obtain ⟨d0, E0⟩ := opens22 _ _ _ _ _ _ _ g0
  have D0 : DLs w (c22 d0) ((cs.drop 0).take (Try.prog.cellsOf 22)) := E0
  rw [co22] at D0
  refine ⟨d0, ?_⟩
  have key : DLs w (c24 d0) (cs.drop 0) := dls_split D0 (cl22 _) (dls_end (by rw [hl]))
  rwa [List.drop_zero] at key
theorem co56 : Try.prog.cellsOf 56 = 3 := by kernel_rfl
theorem co3 : Try.prog.cellsOf 3 = 1 := by kernel_rfl
abbrev D3 := I64
abbrev c3 : D3 → List AV := fun d => [.v (.int .i64 d.val)]
theorem cl3 (d : D3) : (c3 d).length = 1 := rfl
theorem opens3 : Opens Try.prog 3 c3 := opens_i64 Try.underlying3
abbrev D56 := D2 × D2 × D3
abbrev c56 : D56 → List AV := fun d => c2 d.1 ++ (c2 d.2.1 ++ (c3 d.2.2 ++ ([])))
theorem cl56 (d : D56) : (c56 d).length = 3 := rfl
theorem opens56 : Opens Try.prog 56 c56 := by
  intro H enc w held n cs x h
  obtain ⟨xs, m, _, rfl, hl, hlen, hf⟩ := DataW.trod_struct Try.underlying56 h
  rw [co56] at hl
  have g0 := hf 0 _ rfl
  rw [List.getElem?_eq_getElem (by rw [hlen]; decide)] at g0
  obtain ⟨d0, E0⟩ := opens2 _ _ _ _ _ _ _ g0
  have D0 : DLs w (c2 d0) ((cs.drop 0).take (Try.prog.cellsOf 2)) := E0
  rw [co2] at D0
  have g1 := hf 1 _ rfl
  rw [List.getElem?_eq_getElem (by rw [hlen]; decide)] at g1
  obtain ⟨d1, E1⟩ := opens2 _ _ _ _ _ _ _ g1
  have D1 : DLs w (c2 d1) ((cs.drop 1).take (Try.prog.cellsOf 2)) := E1
  rw [co2] at D1
  have g2 := hf 2 _ rfl
  rw [List.getElem?_eq_getElem (by rw [hlen]; decide)] at g2
  obtain ⟨d2, E2⟩ := opens3 _ _ _ _ _ _ _ g2
  have D2 : DLs w (c3 d2) ((cs.drop 2).take (Try.prog.cellsOf 3)) := E2
  rw [co3] at D2
  refine ⟨(d0, d1, d2), ?_⟩
  have key : DLs w (c56 (d0, d1, d2)) (cs.drop 0) := dls_split D0 (cl2 _) (dls_split D1 (cl2 _) (dls_split D2 (cl3 _) (dls_end (by rw [hl]))))
  rwa [List.drop_zero] at key
theorem co64 : Try.prog.cellsOf 64 = 4 := by kernel_rfl
theorem co25 : Try.prog.cellsOf 25 = 1 := by kernel_rfl
abbrev D25 := List D56
abbrev c25 : D25 → List AV := fun l => [.sl l.length (l.map c56).flatten]
theorem cl25 (d : D25) : (c25 d).length = 1 := rfl
theorem opens25 : Opens Try.prog 25 c25 := opens_slice Try.underlying25 co56 (by decide) opens56 cl56
abbrev D64 := D24 × D3 × D2 × D25
abbrev c64 : D64 → List AV := fun d => c24 d.1 ++ (c3 d.2.1 ++ (c2 d.2.2.1 ++ (c25 d.2.2.2 ++ ([]))))
theorem cl64 (d : D64) : (c64 d).length = 4 := rfl
theorem opens64 : Opens Try.prog 64 c64 := by
  intro H enc w held n cs x h
  obtain ⟨xs, m, _, rfl, hl, hlen, hf⟩ := DataW.trod_struct Try.underlying64 h
  rw [co64] at hl
  have g0 := hf 0 _ rfl
  rw [List.getElem?_eq_getElem (by rw [hlen]; decide)] at g0
  obtain ⟨d0, E0⟩ := opens24 _ _ _ _ _ _ _ g0
  have D0 : DLs w (c24 d0) ((cs.drop 0).take (Try.prog.cellsOf 24)) := E0
  rw [co24] at D0
  have g1 := hf 1 _ rfl
  rw [List.getElem?_eq_getElem (by rw [hlen]; decide)] at g1
  obtain ⟨d1, E1⟩ := opens3 _ _ _ _ _ _ _ g1
  have D1 : DLs w (c3 d1) ((cs.drop 1).take (Try.prog.cellsOf 3)) := E1
  rw [co3] at D1
  have g2 := hf 2 _ rfl
  rw [List.getElem?_eq_getElem (by rw [hlen]; decide)] at g2
  obtain ⟨d2, E2⟩ := opens2 _ _ _ _ _ _ _ g2
  have D2 : DLs w (c2 d2) ((cs.drop 2).take (Try.prog.cellsOf 2)) := E2
  rw [co2] at D2
  have g3 := hf 3 _ rfl
  rw [List.getElem?_eq_getElem (by rw [hlen]; decide)] at g3
  obtain ⟨d3, E3⟩ := opens25 _ _ _ _ _ _ _ g3
  have D3 : DLs w (c25 d3) ((cs.drop 3).take (Try.prog.cellsOf 25)) := E3
  rw [co25] at D3
  refine ⟨(d0, d1, d2, d3), ?_⟩
  have key : DLs w (c64 (d0, d1, d2, d3)) (cs.drop 0) := dls_split D0 (cl24 _) (dls_split D1 (cl3 _) (dls_split D2 (cl2 _) (dls_split D3 (cl25 _) (dls_end (by rw [hl])))))
  rwa [List.drop_zero] at key
theorem co46 : Try.prog.cellsOf 46 = 5 := by kernel_rfl
abbrev D46 := D3 × D2 × D2 × D2 × D3
abbrev c46 : D46 → List AV := fun d => c3 d.1 ++ (c2 d.2.1 ++ (c2 d.2.2.1 ++ (c2 d.2.2.2.1 ++ (c3 d.2.2.2.2 ++ ([])))))
theorem cl46 (d : D46) : (c46 d).length = 5 := rfl
theorem opens46 : Opens Try.prog 46 c46 := by
  intro H enc w held n cs x h
  obtain ⟨xs, m, _, rfl, hl, hlen, hf⟩ := DataW.trod_struct Try.underlying46 h
  rw [co46] at hl
  have g0 := hf 0 _ rfl
  rw [List.getElem?_eq_getElem (by rw [hlen]; decide)] at g0
  obtain ⟨d0, E0⟩ := opens3 _ _ _ _ _ _ _ g0
  have D0 : DLs w (c3 d0) ((cs.drop 0).take (Try.prog.cellsOf 3)) := E0
  rw [co3] at D0
  have g1 := hf 1 _ rfl
  rw [List.getElem?_eq_getElem (by rw [hlen]; decide)] at g1
  obtain ⟨d1, E1⟩ := opens2 _ _ _ _ _ _ _ g1
  have D1 : DLs w (c2 d1) ((cs.drop 1).take (Try.prog.cellsOf 2)) := E1
  rw [co2] at D1
  have g2 := hf 2 _ rfl
  rw [List.getElem?_eq_getElem (by rw [hlen]; decide)] at g2
  obtain ⟨d2, E2⟩ := opens2 _ _ _ _ _ _ _ g2
  have D2 : DLs w (c2 d2) ((cs.drop 2).take (Try.prog.cellsOf 2)) := E2
  rw [co2] at D2
  have g3 := hf 3 _ rfl
  rw [List.getElem?_eq_getElem (by rw [hlen]; decide)] at g3
  obtain ⟨d3, E3⟩ := opens2 _ _ _ _ _ _ _ g3
  have D3 : DLs w (c2 d3) ((cs.drop 3).take (Try.prog.cellsOf 2)) := E3
  rw [co2] at D3
  have g4 := hf 4 _ rfl
  rw [List.getElem?_eq_getElem (by rw [hlen]; decide)] at g4
  obtain ⟨d4, E4⟩ := opens3 _ _ _ _ _ _ _ g4
  have D4 : DLs w (c3 d4) ((cs.drop 4).take (Try.prog.cellsOf 3)) := E4
  rw [co3] at D4
  refine ⟨(d0, d1, d2, d3, d4), ?_⟩
  have key : DLs w (c46 (d0, d1, d2, d3, d4)) (cs.drop 0) := dls_split D0 (cl3 _) (dls_split D1 (cl2 _) (dls_split D2 (cl2 _) (dls_split D3 (cl2 _) (dls_split D4 (cl3 _) (dls_end (by rw [hl]))))))
  rwa [List.drop_zero] at key
theorem co51 : Try.prog.cellsOf 51 = 3 := by kernel_rfl
theorem co50 : Try.prog.cellsOf 50 = 1 := by kernel_rfl
abbrev D50 := U16
abbrev c50 : D50 → List AV := fun d => [.v (.int .u16 d.val)]
theorem cl50 (d : D50) : (c50 d).length = 1 := rfl
theorem opens50 : Opens Try.prog 50 c50 := opens_u16 Try.underlying50
abbrev D51 := {l : List D50 // l.length = 3}
abbrev c51 : D51 → List AV := fun l => (l.val.map c50).flatten
theorem cl51 (d : D51) : (c51 d).length = 3 := by rw [flat_unilen cl50, d.property]
theorem opens51 : Opens Try.prog 51 c51 := opens_array Try.underlying51 co50 (by rw [co51]) opens50 cl50
theorem co53 : Try.prog.cellsOf 53 = 2 := by kernel_rfl
abbrev D53 := {l : List D2 // l.length = 2}
abbrev c53 : D53 → List AV := fun l => (l.val.map c2).flatten
theorem cl53 (d : D53) : (c53 d).length = 2 := by rw [flat_unilen cl2, d.property]
theorem opens53 : Opens Try.prog 53 c53 := opens_array Try.underlying53 co2 (by rw [co53]) opens2 cl2
theorem co58 : Try.prog.cellsOf 58 = 2 := by kernel_rfl
abbrev D58 := {l : List D3 // l.length = 2}
abbrev c58 : D58 → List AV := fun l => (l.val.map c3).flatten
theorem cl58 (d : D58) : (c58 d).length = 2 := by rw [flat_unilen cl3, d.property]
theorem opens58 : Opens Try.prog 58 c58 := opens_array Try.underlying58 co3 (by rw [co58]) opens3 cl3
theorem co27 : Try.prog.cellsOf 27 = 7 := by kernel_rfl
abbrev D27 := D24 × D3 × D3 × D3 × D2 × D25 × D25
abbrev c27 : D27 → List AV := fun d => c24 d.1 ++ (c3 d.2.1 ++ (c3 d.2.2.1 ++ (c3 d.2.2.2.1 ++ (c2 d.2.2.2.2.1 ++ (c25 d.2.2.2.2.2.1 ++ (c25 d.2.2.2.2.2.2 ++ ([])))))))
theorem cl27 (d : D27) : (c27 d).length = 7 := rfl
theorem opens27 : Opens Try.prog 27 c27 := by
  intro H enc w held n cs x h
  obtain ⟨xs, m, _, rfl, hl, hlen, hf⟩ := DataW.trod_struct Try.underlying27 h
  rw [co27] at hl
  have g0 := hf 0 _ rfl
  rw [List.getElem?_eq_getElem (by rw [hlen]; decide)] at g0
  obtain ⟨d0, E0⟩ := opens24 _ _ _ _ _ _ _ g0
  have D0 : DLs w (c24 d0) ((cs.drop 0).take (Try.prog.cellsOf 24)) := E0
  rw [co24] at D0
  have g1 := hf 1 _ rfl
  rw [List.getElem?_eq_getElem (by rw [hlen]; decide)] at g1
  obtain ⟨d1, E1⟩ := opens3 _ _ _ _ _ _ _ g1
  have D1 : DLs w (c3 d1) ((cs.drop 1).take (Try.prog.cellsOf 3)) := E1
  rw [co3] at D1
  have g2 := hf 2 _ rfl
  rw [List.getElem?_eq_getElem (by rw [hlen]; decide)] at g2
  obtain ⟨d2, E2⟩ := opens3 _ _ _ _ _ _ _ g2
  have D2 : DLs w (c3 d2) ((cs.drop 2).take (Try.prog.cellsOf 3)) := E2
  rw [co3] at D2
  have g3 := hf 3 _ rfl
  rw [List.getElem?_eq_getElem (by rw [hlen]; decide)] at g3
  obtain ⟨d3, E3⟩ := opens3 _ _ _ _ _ _ _ g3
  have D3 : DLs w (c3 d3) ((cs.drop 3).take (Try.prog.cellsOf 3)) := E3
  rw [co3] at D3
  have g4 := hf 4 _ rfl
  rw [List.getElem?_eq_getElem (by rw [hlen]; decide)] at g4
  obtain ⟨d4, E4⟩ := opens2 _ _ _ _ _ _ _ g4
  have D4 : DLs w (c2 d4) ((cs.drop 4).take (Try.prog.cellsOf 2)) := E4
  rw [co2] at D4
  have g5 := hf 5 _ rfl
  rw [List.getElem?_eq_getElem (by rw [hlen]; decide)] at g5
  obtain ⟨d5, E5⟩ := opens25 _ _ _ _ _ _ _ g5
  have D5 : DLs w (c25 d5) ((cs.drop 5).take (Try.prog.cellsOf 25)) := E5
  rw [co25] at D5
  have g6 := hf 6 _ rfl
  rw [List.getElem?_eq_getElem (by rw [hlen]; decide)] at g6
  obtain ⟨d6, E6⟩ := opens25 _ _ _ _ _ _ _ g6
  have D6 : DLs w (c25 d6) ((cs.drop 6).take (Try.prog.cellsOf 25)) := E6
  rw [co25] at D6
  refine ⟨(d0, d1, d2, d3, d4, d5, d6), ?_⟩
  have key : DLs w (c27 (d0, d1, d2, d3, d4, d5, d6)) (cs.drop 0) := dls_split D0 (cl24 _) (dls_split D1 (cl3 _) (dls_split D2 (cl3 _) (dls_split D3 (cl3 _) (dls_split D4 (cl2 _) (dls_split D5 (cl25 _) (dls_split D6 (cl25 _) (dls_end (by rw [hl]))))))))
  rwa [List.drop_zero] at key
theorem co31 : Try.prog.cellsOf 31 = 3 := by kernel_rfl
abbrev D31 := {l : List D2 // l.length = 3}
abbrev c31 : D31 → List AV := fun l => (l.val.map c2).flatten
theorem cl31 (d : D31) : (c31 d).length = 3 := by rw [flat_unilen cl2, d.property]
theorem opens31 : Opens Try.prog 31 c31 := opens_array Try.underlying31 co2 (by rw [co31]) opens2 cl2
end Go.Proofs.Ytaoondlakhocnaa
