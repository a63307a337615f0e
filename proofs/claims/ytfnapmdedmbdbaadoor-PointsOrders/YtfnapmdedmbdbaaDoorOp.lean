/-
  What came in, type by type: its parts, opened. Written by program (opens.py).
-/
import Derived.Test.YtfnapmdedmbdbaaDoorSig
import Derived.Test.YtfnapmdedmbdbaaDoorAmO
import Derived.KernelRfl
set_option linter.unusedVariables false
namespace Go.Proofs.YtfnapmdedmbdbaaDoor
open Go Go.Am

instance : Inhabited I64 := ⟨⟨0, by decide⟩⟩
instance : Inhabited U16 := ⟨⟨0, by decide⟩⟩
theorem flat_one {α : Type} (g : α → AV) (l : List α) : (l.map fun d => [g d]).flatten = l.map g := by induction l with | nil => rfl | cons a l ih => rw [List.map_cons, List.flatten_cons, ih]; rfl
theorem co23 : Tryd.prog.cellsOf 23 = 10 := by kernel_rfl
theorem co3 : Tryd.prog.cellsOf 3 = 1 := by kernel_rfl
abbrev D3 := I64
abbrev c3 : D3 → List AV := fun d => [.v (.int .i64 d.val)]
theorem cl3 (d : D3) : (c3 d).length = 1 := rfl
theorem opens3 : Opens Tryd.prog 3 c3 := opens_i64 Tryd.underlying3
abbrev D23 := D3 × D3 × D3 × D3 × D3 × D3 × D3 × D3 × D3 × D3
abbrev c23 : D23 → List AV := fun d => c3 d.1 ++ (c3 d.2.1 ++ (c3 d.2.2.1 ++ (c3 d.2.2.2.1 ++ (c3 d.2.2.2.2.1 ++ (c3 d.2.2.2.2.2.1 ++ (c3 d.2.2.2.2.2.2.1 ++ (c3 d.2.2.2.2.2.2.2.1 ++ (c3 d.2.2.2.2.2.2.2.2.1 ++ (c3 d.2.2.2.2.2.2.2.2.2 ++ ([]))))))))))
theorem cl23 (d : D23) : (c23 d).length = 10 := rfl
theorem opens23 : Opens Tryd.prog 23 c23 := by
  intro H enc w held n cs x h
  obtain ⟨xs, m, _, rfl, hl, hlen, hf⟩ := DataW.trod_struct Tryd.underlying23 h
  rw [co23] at hl
  have g0 := hf 0 _ rfl
  rw [List.getElem?_eq_getElem (by rw [hlen]; decide)] at g0
  obtain ⟨d0, E0⟩ := opens3 _ _ _ _ _ _ _ g0
  have D0 : DLs w (c3 d0) ((cs.drop 0).take (Tryd.prog.cellsOf 3)) := E0
  rw [co3] at D0
  have g1 := hf 1 _ rfl
  rw [List.getElem?_eq_getElem (by rw [hlen]; decide)] at g1
  obtain ⟨d1, E1⟩ := opens3 _ _ _ _ _ _ _ g1
  have D1 : DLs w (c3 d1) ((cs.drop 1).take (Tryd.prog.cellsOf 3)) := E1
  rw [co3] at D1
  have g2 := hf 2 _ rfl
  rw [List.getElem?_eq_getElem (by rw [hlen]; decide)] at g2
  obtain ⟨d2, E2⟩ := opens3 _ _ _ _ _ _ _ g2
  have D2 : DLs w (c3 d2) ((cs.drop 2).take (Tryd.prog.cellsOf 3)) := E2
  rw [co3] at D2
  have g3 := hf 3 _ rfl
  rw [List.getElem?_eq_getElem (by rw [hlen]; decide)] at g3
  obtain ⟨d3, E3⟩ := opens3 _ _ _ _ _ _ _ g3
  have D3 : DLs w (c3 d3) ((cs.drop 3).take (Tryd.prog.cellsOf 3)) := E3
  rw [co3] at D3
  have g4 := hf 4 _ rfl
  rw [List.getElem?_eq_getElem (by rw [hlen]; decide)] at g4
  obtain ⟨d4, E4⟩ := opens3 _ _ _ _ _ _ _ g4
  have D4 : DLs w (c3 d4) ((cs.drop 4).take (Tryd.prog.cellsOf 3)) := E4
  rw [co3] at D4
  have g5 := hf 5 _ rfl
  rw [List.getElem?_eq_getElem (by rw [hlen]; decide)] at g5
  obtain ⟨d5, E5⟩ := opens3 _ _ _ _ _ _ _ g5
  have D5 : DLs w (c3 d5) ((cs.drop 5).take (Tryd.prog.cellsOf 3)) := E5
  rw [co3] at D5
  have g6 := hf 6 _ rfl
  rw [List.getElem?_eq_getElem (by rw [hlen]; decide)] at g6
  obtain ⟨d6, E6⟩ := opens3 _ _ _ _ _ _ _ g6
  have D6 : DLs w (c3 d6) ((cs.drop 6).take (Tryd.prog.cellsOf 3)) := E6
  rw [co3] at D6
  have g7 := hf 7 _ rfl
  rw [List.getElem?_eq_getElem (by rw [hlen]; decide)] at g7
  obtain ⟨d7, E7⟩ := opens3 _ _ _ _ _ _ _ g7
  have D7 : DLs w (c3 d7) ((cs.drop 7).take (Tryd.prog.cellsOf 3)) := E7
  rw [co3] at D7
  have g8 := hf 8 _ rfl
  rw [List.getElem?_eq_getElem (by rw [hlen]; decide)] at g8
  obtain ⟨d8, E8⟩ := opens3 _ _ _ _ _ _ _ g8
  have D8 : DLs w (c3 d8) ((cs.drop 8).take (Tryd.prog.cellsOf 3)) := E8
  rw [co3] at D8
  have g9 := hf 9 _ rfl
  rw [List.getElem?_eq_getElem (by rw [hlen]; decide)] at g9
  obtain ⟨d9, E9⟩ := opens3 _ _ _ _ _ _ _ g9
  have D9 : DLs w (c3 d9) ((cs.drop 9).take (Tryd.prog.cellsOf 3)) := E9
  rw [co3] at D9
  refine ⟨(d0, d1, d2, d3, d4, d5, d6, d7, d8, d9), ?_⟩
  have key : DLs w (c23 (d0, d1, d2, d3, d4, d5, d6, d7, d8, d9)) (cs.drop 0) := dls_split D0 (cl3 _) (dls_split D1 (cl3 _) (dls_split D2 (cl3 _) (dls_split D3 (cl3 _) (dls_split D4 (cl3 _) (dls_split D5 (cl3 _) (dls_split D6 (cl3 _) (dls_split D7 (cl3 _) (dls_split D8 (cl3 _) (dls_split D9 (cl3 _) (dls_end (by rw [hl])))))))))))
  rwa [List.drop_zero] at key
end Go.Proofs.YtfnapmdedmbdbaaDoor
