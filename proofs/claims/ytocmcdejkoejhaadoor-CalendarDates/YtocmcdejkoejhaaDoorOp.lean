/-
  What came in, type by type: its parts, opened. Written by program (opens.py).
-/
import Derived.Test.YtocmcdejkoejhaaDoorSig
import Derived.Test.YtocmcdejkoejhaaDoorAmO
import Derived.KernelRfl
set_option linter.unusedVariables false
namespace Go.Proofs.YtocmcdejkoejhaaDoor
open Go Go.Am

instance : Inhabited I64 := ⟨⟨0, by decide⟩⟩
instance : Inhabited U16 := ⟨⟨0, by decide⟩⟩
theorem flat_one {α : Type} (g : α → AV) (l : List α) : (l.map fun d => [g d]).flatten = l.map g := by induction l with | nil => rfl | cons a l ih => rw [List.map_cons, List.flatten_cons, ih]; rfl
theorem co3 : Tryd.prog.cellsOf 3 = 1 := by kernel_rfl
abbrev D3 := I64
abbrev c3 : D3 → List AV := fun d => [.v (.int .i64 d.val)]
theorem cl3 (d : D3) : (c3 d).length = 1 := rfl
theorem opens3 : Opens Tryd.prog 3 c3 := opens_i64 Tryd.underlying3
theorem co2 : Tryd.prog.cellsOf 2 = 1 := by kernel_rfl
abbrev D2 := I64
abbrev c2 : D2 → List AV := fun d => [.v (.int .i64 d.val)]
theorem cl2 (d : D2) : (c2 d).length = 1 := rfl
theorem opens2 : Opens Tryd.prog 2 c2 := opens_i64 Tryd.underlying2
theorem co37 : Tryd.prog.cellsOf 37 = 1 := by kernel_rfl
abbrev D37 := List D2
abbrev c37 : D37 → List AV := fun l => [.sl l.length (l.map c2).flatten]
theorem cl37 (d : D37) : (c37 d).length = 1 := rfl
theorem opens37 : Opens Tryd.prog 37 c37 := opens_slice Tryd.underlying37 co2 (by decide) opens2 cl2
theorem co40 : Tryd.prog.cellsOf 40 = 1 := by kernel_rfl
abbrev D40 := List D37
abbrev c40 : D40 → List AV := fun l => [.sl l.length (l.map c37).flatten]
theorem cl40 (d : D40) : (c40 d).length = 1 := rfl
theorem opens40 : Opens Tryd.prog 40 c40 := opens_slice Tryd.underlying40 co37 (by decide) opens37 cl37
theorem co41 : Tryd.prog.cellsOf 41 = 1 := by kernel_rfl
theorem co57 : Tryd.prog.cellsOf 57 = 2 := by kernel_rfl
abbrev D57 := D2 × D3
abbrev c57 : D57 → List AV := fun d => c2 d.1 ++ (c3 d.2 ++ ([]))
theorem cl57 (d : D57) : (c57 d).length = 2 := rfl
theorem opens57 : Opens Tryd.prog 57 c57 := by
  intro H enc w held n cs x h
  obtain ⟨xs, m, _, rfl, hl, hlen, hf⟩ := DataW.trod_struct Tryd.underlying57 h
  rw [co57] at hl
  have g0 := hf 0 _ rfl
  rw [List.getElem?_eq_getElem (by rw [hlen]; decide)] at g0
  obtain ⟨d0, E0⟩ := opens2 _ _ _ _ _ _ _ g0
  have D0 : DLs w (c2 d0) ((cs.drop 0).take (Tryd.prog.cellsOf 2)) := E0
  rw [co2] at D0
  have g1 := hf 1 _ rfl
  rw [List.getElem?_eq_getElem (by rw [hlen]; decide)] at g1
  obtain ⟨d1, E1⟩ := opens3 _ _ _ _ _ _ _ g1
  have D1 : DLs w (c3 d1) ((cs.drop 1).take (Tryd.prog.cellsOf 3)) := E1
  rw [co3] at D1
  refine ⟨(d0, d1), ?_⟩
  have key : DLs w (c57 (d0, d1)) (cs.drop 0) := dls_split D0 (cl2 _) (dls_split D1 (cl3 _) (dls_end (by rw [hl])))
  rwa [List.drop_zero] at key
abbrev D41 := List D57
abbrev c41 : D41 → List AV := fun l => [.sl l.length (l.map c57).flatten]
theorem cl41 (d : D41) : (c41 d).length = 1 := rfl
theorem opens41 : Opens Tryd.prog 41 c41 := opens_slice Tryd.underlying41 co57 (by decide) opens57 cl57
end Go.Proofs.YtocmcdejkoejhaaDoor
