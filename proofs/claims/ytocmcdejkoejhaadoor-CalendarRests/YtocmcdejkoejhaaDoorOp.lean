/-
  What came in, type by type: its parts, opened. Written by program (opens.py).
-/
import Derived.Test.YtocmcdejkoejhaaDoorSig
import Derived.Test.YtocmcdejkoejhaaDoorAmO
import Derived.KernelRfl
set_option linter.unusedVariables false
namespace Go.Proofs.YtocmcdejkoejhaaDoor
open Go Go.Am

instance : Inhabited I64 := ⟨⟨0, by decide⟩⟩
instance : Inhabited U16 := ⟨⟨0, by decide⟩⟩
theorem flat_one {α : Type} (g : α → AV) (l : List α) : (l.map fun d => [g d]).flatten = l.map g := by induction l with | nil => rfl | cons a l ih => rw [List.map_cons, List.flatten_cons, ih]; rfl
theorem co3 : Tryd.prog.cellsOf 3 = 1 := by kernel_rfl
abbrev D3 := I64
abbrev c3 : D3 → List AV := fun d => [.v (.int .i64 d.val)]
theorem cl3 (d : D3) : (c3 d).length = 1 := rfl
theorem opens3 : Opens Tryd.prog 3 c3 := opens_i64 Tryd.underlying3
theorem co2 : Tryd.prog.cellsOf 2 = 1 := by kernel_rfl
abbrev D2 := I64
abbrev c2 : D2 → List AV := fun d => [.v (.int .i64 d.val)]
theorem cl2 (d : D2) : (c2 d).length = 1 := rfl
theorem opens2 : Opens Tryd.prog 2 c2 := opens_i64 Tryd.underlying2
theorem co37 : Tryd.prog.cellsOf 37 = 1 := by kernel_rfl
abbrev D37 := List D2
abbrev c37 : D37 → List AV := fun l => [.sl l.length (l.map c2).flatten]
theorem cl37 (d : D37) : (c37 d).length = 1 := rfl
theorem opens37 : Opens Tryd.prog 37 c37 := opens_slice Tryd.underlying37 co2 (by decide) opens2 cl2
end Go.Proofs.YtocmcdejkoejhaaDoor
