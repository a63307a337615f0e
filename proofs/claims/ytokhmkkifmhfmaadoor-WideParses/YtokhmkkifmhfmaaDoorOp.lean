/-
  What came in, type by type: its parts, opened. Written by program (opens.py).
-/
import Derived.Test.YtokhmkkifmhfmaaDoorSig
import Derived.Test.YtokhmkkifmhfmaaDoorAmO
import Derived.KernelRfl
set_option linter.unusedVariables false
namespace Go.Proofs.YtokhmkkifmhfmaaDoor
open Go Go.Am

instance : Inhabited I64 := ⟨⟨0, by decide⟩⟩
instance : Inhabited U16 := ⟨⟨0, by decide⟩⟩
theorem flat_one {α : Type} (g : α → AV) (l : List α) : (l.map fun d => [g d]).flatten = l.map g := by induction l with | nil => rfl | cons a l ih => rw [List.map_cons, List.flatten_cons, ih]; rfl
theorem co2 : Tryd.prog.cellsOf 2 = 1 := by kernel_rfl
abbrev D2 := I64
abbrev c2 : D2 → List AV := fun d => [.v (.int .i64 d.val)]
theorem cl2 (d : D2) : (c2 d).length = 1 := rfl
theorem opens2 : Opens Tryd.prog 2 c2 := opens_i64 Tryd.underlying2
theorem co24 : Tryd.prog.cellsOf 24 = 2 := by kernel_rfl
theorem co22 : Tryd.prog.cellsOf 22 = 1 := by kernel_rfl
abbrev D22 := U64
abbrev c22 : D22 → List AV := fun d => [.v (.int .u64 d.val)]
theorem cl22 (d : D22) : (c22 d).length = 1 := rfl
theorem opens22 : Opens Tryd.prog 22 c22 := opens_u64 Tryd.underlying22
abbrev D24 := D2 × D22
abbrev c24 : D24 → List AV := fun d => c2 d.1 ++ (c22 d.2 ++ ([]))
theorem cl24 (d : D24) : (c24 d).length = 2 := rfl
theorem opens24 : Opens Tryd.prog 24 c24 := by
  intro H enc w held n cs x h
  obtain ⟨xs, m, _, rfl, hl, hlen, hf⟩ := DataW.trod_struct Tryd.underlying24 h
  rw [co24] at hl
  have g0 := hf 0 _ rfl
  rw [List.getElem?_eq_getElem (by rw [hlen]; decide)] at g0
  obtain ⟨d0, E0⟩ := opens2 _ _ _ _ _ _ _ g0
  have D0 : DLs w (c2 d0) ((cs.drop 0).take (Tryd.prog.cellsOf 2)) := E0
  rw [co2] at D0
  have g1 := hf 1 _ rfl
  rw [List.getElem?_eq_getElem (by rw [hlen]; decide)] at g1
  obtain ⟨d1, E1⟩ := opens22 _ _ _ _ _ _ _ g1
  have D1 : DLs w (c22 d1) ((cs.drop 1).take (Tryd.prog.cellsOf 22)) := E1
  rw [co22] at D1
  refine ⟨(d0, d1), ?_⟩
  have key : DLs w (c24 (d0, d1)) (cs.drop 0) := dls_split D0 (cl2 _) (dls_split D1 (cl22 _) (dls_end (by rw [hl])))
  rwa [List.drop_zero] at key
theorem co42 : Tryd.prog.cellsOf 42 = 2 := by kernel_rfl
abbrev D42 := {l : List D2 // l.length = 2}
abbrev c42 : D42 → List AV := fun l => (l.val.map c2).flatten
theorem cl42 (d : D42) : (c42 d).length = 2 := by rw [flat_unilen cl2, d.property]
theorem opens42 : Opens Tryd.prog 42 c42 := opens_array Tryd.underlying42 co2 (by rw [co42]) opens2 cl2
end Go.Proofs.YtokhmkkifmhfmaaDoor
