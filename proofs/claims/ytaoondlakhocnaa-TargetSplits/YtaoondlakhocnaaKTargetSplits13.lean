/-
  What is proved: TargetSplits returns true for every input, and each argument reads behind the call as it read before. No conditions. (The step from the walk to the row, written by program.)
-/
import Derived.Test.YtaoondlakhocnaaKTargetSplits3
import Derived.Test.YtaoondlakhocnaaKTargetSplits12
import Derived.KernelRfl
import Derived.Test.YtaoondlakhocnaaKTargetSplits8
import Derived.Test.YtaoondlakhocnaaRows
import Derived.ProofKit
import Derived.OpenShut
import Derived.ChangeOld
import Derived.Below
section
set_option linter.unusedVariables false
namespace Go.Proofs.Ytaoondlakhocnaa
open Go Go.Am

instance : Inhabited I64 := ⟨⟨0, by decide⟩⟩
instance : Inhabited U16 := ⟨⟨0, by decide⟩⟩
theorem flat_one {α : Type} (g : α → AV) (l : List α) : (l.map fun d => [g d]).flatten = l.map g := by induction l with | nil => rfl | cons a l ih => rw [List.map_cons, List.flatten_cons, ih]; rfl
theorem co64 : Try.prog.cellsOf 64 = 4 := by kernel_rfl
theorem co24 : Try.prog.cellsOf 24 = 1 := by kernel_rfl
theorem co22 : Try.prog.cellsOf 22 = 1 := by kernel_rfl
theorem co28 : Try.prog.cellsOf 28 = 1 := by kernel_rfl
theorem co2 : Try.prog.cellsOf 2 = 1 := by kernel_rfl
abbrev D2 := I64
abbrev c2 : D2 → List AV := fun d => [.v (.int .i64 d.val)]
theorem cl2 (d : D2) : (c2 d).length = 1 := rfl
theorem opens2 : Opens Try.prog 2 c2 := opens_i64 Try.underlying2
abbrev D28 := List D2
abbrev c28 : D28 → List AV := fun l => [.sl l.length (l.map c2).flatten]
theorem cl28 (d : D28) : (c28 d).length = 1 := rfl
theorem opens28 : Opens Try.prog 28 c28 := opens_slice Try.underlying28 co2 (by decide) opens2 cl2
abbrev D22 := List D28
abbrev c22 : D22 → List AV := fun l => [.sl l.length (l.map c28).flatten]
theorem cl22 (d : D22) : (c22 d).length = 1 := rfl
theorem opens22 : Opens Try.prog 22 c22 := opens_slice Try.underlying22 co28 (by decide) opens28 cl28
abbrev D24 := D22
abbrev c24 : D24 → List AV := fun d => c22 d ++ ([])
theorem cl24 (d : D24) : (c24 d).length = 1 := rfl
theorem opens24 : Opens Try.prog 24 c24 := by
  intro H enc w held n cs x h
  obtain ⟨xs, m, _, rfl, hl, hlen, hf⟩ := DataW.trod_struct Try.underlying24 h
  rw [co24] at hl
  have g0 := hf 0 _ rfl
  rw [List.getElem?_eq_getElem (by rw [hlen]; decide)] at g0
  obtain ⟨d0, E0⟩ := opens22 _ _ _ _ _ _ _ g0
  have D0 : DLs w (c22 d0) ((cs.drop 0).take (Try.prog.cellsOf 22)) := E0
  rw [co22] at D0
  refine ⟨d0, ?_⟩
  have key : DLs w (c24 d0) (cs.drop 0) := dls_split D0 (cl22 _) (dls_end (by rw [hl]))
  rwa [List.drop_zero] at key
theorem co3 : Try.prog.cellsOf 3 = 1 := by kernel_rfl
abbrev D3 := I64
abbrev c3 : D3 → List AV := fun d => [.v (.int .i64 d.val)]
theorem cl3 (d : D3) : (c3 d).length = 1 := rfl
theorem opens3 : Opens Try.prog 3 c3 := opens_i64 Try.underlying3
theorem co25 : Try.prog.cellsOf 25 = 1 := by kernel_rfl
theorem co56 : Try.prog.cellsOf 56 = 3 := by kernel_rfl
abbrev D56 := D2 × D2 × D3
abbrev c56 : D56 → List AV := fun d => c2 d.1 ++ (c2 d.2.1 ++ (c3 d.2.2 ++ ([])))
theorem cl56 (d : D56) : (c56 d).length = 3 := rfl
theorem opens56 : Opens Try.prog 56 c56 := by
  intro H enc w held n cs x h
  obtain ⟨xs, m, _, rfl, hl, hlen, hf⟩ := DataW.trod_struct Try.underlying56 h
  rw [co56] at hl
  have g0 := hf 0 _ rfl
  rw [List.getElem?_eq_getElem (by rw [hlen]; decide)] at g0
  obtain ⟨d0, E0⟩ := opens2 _ _ _ _ _ _ _ g0
  have D0 : DLs w (c2 d0) ((cs.drop 0).take (Try.prog.cellsOf 2)) := E0
  rw [co2] at D0
  have g1 := hf 1 _ rfl
  rw [List.getElem?_eq_getElem (by rw [hlen]; decide)] at g1
  obtain ⟨d1, E1⟩ := opens2 _ _ _ _ _ _ _ g1
  have D1 : DLs w (c2 d1) ((cs.drop 1).take (Try.prog.cellsOf 2)) := E1
  rw [co2] at D1
  have g2 := hf 2 _ rfl
  rw [List.getElem?_eq_getElem (by rw [hlen]; decide)] at g2
  obtain ⟨d2, E2⟩ := opens3 _ _ _ _ _ _ _ g2
  have D2 : DLs w (c3 d2) ((cs.drop 2).take (Try.prog.cellsOf 3)) := E2
  rw [co3] at D2
  refine ⟨(d0, d1, d2), ?_⟩
  have key : DLs w (c56 (d0, d1, d2)) (cs.drop 0) := dls_split D0 (cl2 _) (dls_split D1 (cl2 _) (dls_split D2 (cl3 _) (dls_end (by rw [hl]))))
  rwa [List.drop_zero] at key
abbrev D25 := List D56
abbrev c25 : D25 → List AV := fun l => [.sl l.length (l.map c56).flatten]
theorem cl25 (d : D25) : (c25 d).length = 1 := rfl
theorem opens25 : Opens Try.prog 25 c25 := opens_slice Try.underlying25 co56 (by decide) opens56 cl56
abbrev D64 := D24 × D3 × D2 × D25
abbrev c64 : D64 → List AV := fun d => c24 d.1 ++ (c3 d.2.1 ++ (c2 d.2.2.1 ++ (c25 d.2.2.2 ++ ([]))))
theorem cl64 (d : D64) : (c64 d).length = 4 := rfl
theorem opens64 : Opens Try.prog 64 c64 := by
  intro H enc w held n cs x h
  obtain ⟨xs, m, _, rfl, hl, hlen, hf⟩ := DataW.trod_struct Try.underlying64 h
  rw [co64] at hl
  have g0 := hf 0 _ rfl
  rw [List.getElem?_eq_getElem (by rw [hlen]; decide)] at g0
  obtain ⟨d0, E0⟩ := opens24 _ _ _ _ _ _ _ g0
  have D0 : DLs w (c24 d0) ((cs.drop 0).take (Try.prog.cellsOf 24)) := E0
  rw [co24] at D0
  have g1 := hf 1 _ rfl
  rw [List.getElem?_eq_getElem (by rw [hlen]; decide)] at g1
  obtain ⟨d1, E1⟩ := opens3 _ _ _ _ _ _ _ g1
  have D1 : DLs w (c3 d1) ((cs.drop 1).take (Try.prog.cellsOf 3)) := E1
  rw [co3] at D1
  have g2 := hf 2 _ rfl
  rw [List.getElem?_eq_getElem (by rw [hlen]; decide)] at g2
  obtain ⟨d2, E2⟩ := opens2 _ _ _ _ _ _ _ g2
  have D2 : DLs w (c2 d2) ((cs.drop 2).take (Try.prog.cellsOf 2)) := E2
  rw [co2] at D2
  have g3 := hf 3 _ rfl
  rw [List.getElem?_eq_getElem (by rw [hlen]; decide)] at g3
  obtain ⟨d3, E3⟩ := opens25 _ _ _ _ _ _ _ g3
  have D3 : DLs w (c25 d3) ((cs.drop 3).take (Try.prog.cellsOf 25)) := E3
  rw [co25] at D3
  refine ⟨(d0, d1, d2, d3), ?_⟩
  have key : DLs w (c64 (d0, d1, d2, d3)) (cs.drop 0) := dls_split D0 (cl24 _) (dls_split D1 (cl3 _) (dls_split D2 (cl2 _) (dls_split D3 (cl25 _) (dls_end (by rw [hl])))))
  rwa [List.drop_zero] at key
theorem co46 : Try.prog.cellsOf 46 = 5 := by kernel_rfl
abbrev D46 := D3 × D2 × D2 × D2 × D3
abbrev c46 : D46 → List AV := fun d => c3 d.1 ++ (c2 d.2.1 ++ (c2 d.2.2.1 ++ (c2 d.2.2.2.1 ++ (c3 d.2.2.2.2 ++ ([])))))
theorem cl46 (d : D46) : (c46 d).length = 5 := rfl
theorem opens46 : Opens Try.prog 46 c46 := by
  intro H enc w held n cs x h
  obtain ⟨xs, m, _, rfl, hl, hlen, hf⟩ := DataW.trod_struct Try.underlying46 h
  rw [co46] at hl
  have g0 := hf 0 _ rfl
  rw [List.getElem?_eq_getElem (by rw [hlen]; decide)] at g0
  obtain ⟨d0, E0⟩ := opens3 _ _ _ _ _ _ _ g0
  have D0 : DLs w (c3 d0) ((cs.drop 0).take (Try.prog.cellsOf 3)) := E0
  rw [co3] at D0
  have g1 := hf 1 _ rfl
  rw [List.getElem?_eq_getElem (by rw [hlen]; decide)] at g1
  obtain ⟨d1, E1⟩ := opens2 _ _ _ _ _ _ _ g1
  have D1 : DLs w (c2 d1) ((cs.drop 1).take (Try.prog.cellsOf 2)) := E1
  rw [co2] at D1
  have g2 := hf 2 _ rfl
  rw [List.getElem?_eq_getElem (by rw [hlen]; decide)] at g2
  obtain ⟨d2, E2⟩ := opens2 _ _ _ _ _ _ _ g2
  have D2 : DLs w (c2 d2) ((cs.drop 2).take (Try.prog.cellsOf 2)) := E2
  rw [co2] at D2
  have g3 := hf 3 _ rfl
  rw [List.getElem?_eq_getElem (by rw [hlen]; decide)] at g3
  obtain ⟨d3, E3⟩ := opens2 _ _ _ _ _ _ _ g3
  have D3 : DLs w (c2 d3) ((cs.drop 3).take (Try.prog.cellsOf 2)) := E3
  rw [co2] at D3
  have g4 := hf 4 _ rfl
  rw [List.getElem?_eq_getElem (by rw [hlen]; decide)] at g4
  obtain ⟨d4, E4⟩ := opens3 _ _ _ _ _ _ _ g4
  have D4 : DLs w (c3 d4) ((cs.drop 4).take (Try.prog.cellsOf 3)) := E4
  rw [co3] at D4
  refine ⟨(d0, d1, d2, d3, d4), ?_⟩
  have key : DLs w (c46 (d0, d1, d2, d3, d4)) (cs.drop 0) := dls_split D0 (cl3 _) (dls_split D1 (cl2 _) (dls_split D2 (cl2 _) (dls_split D3 (cl2 _) (dls_split D4 (cl3 _) (dls_end (by rw [hl]))))))
  rwa [List.drop_zero] at key
theorem co51 : Try.prog.cellsOf 51 = 3 := by kernel_rfl
theorem co50 : Try.prog.cellsOf 50 = 1 := by kernel_rfl
abbrev D50 := U16
abbrev c50 : D50 → List AV := fun d => [.v (.int .u16 d.val)]
theorem cl50 (d : D50) : (c50 d).length = 1 := rfl
theorem opens50 : Opens Try.prog 50 c50 := opens_u16 Try.underlying50
abbrev D51 := {l : List D50 // l.length = 3}
abbrev c51 : D51 → List AV := fun l => (l.val.map c50).flatten
theorem cl51 (d : D51) : (c51 d).length = 3 := by rw [flat_unilen cl50, d.property]
theorem opens51 : Opens Try.prog 51 c51 := opens_array Try.underlying51 co50 (by rw [co51]) opens50 cl50
theorem co53 : Try.prog.cellsOf 53 = 2 := by kernel_rfl
abbrev D53 := {l : List D2 // l.length = 2}
abbrev c53 : D53 → List AV := fun l => (l.val.map c2).flatten
theorem cl53 (d : D53) : (c53 d).length = 2 := by rw [flat_unilen cl2, d.property]
theorem opens53 : Opens Try.prog 53 c53 := opens_array Try.underlying53 co2 (by rw [co53]) opens2 cl2
theorem co58 : Try.prog.cellsOf 58 = 2 := by kernel_rfl
abbrev D58 := {l : List D3 // l.length = 2}
abbrev c58 : D58 → List AV := fun l => (l.val.map c3).flatten
theorem cl58 (d : D58) : (c58 d).length = 2 := by rw [flat_unilen cl3, d.property]
theorem opens58 : Opens Try.prog 58 c58 := opens_array Try.underlying58 co3 (by rw [co58]) opens3 cl3
theorem co31 : Try.prog.cellsOf 31 = 3 := by kernel_rfl
abbrev D31 := {l : List D2 // l.length = 3}
abbrev c31 : D31 → List AV := fun l => (l.val.map c2).flatten
theorem cl31 (d : D31) : (c31 d).length = 3 := by rw [flat_unilen cl2, d.property]
theorem opens31 : Opens Try.prog 31 c31 := opens_array Try.underlying31 co2 (by rw [co31]) opens2 cl2
theorem co27 : Try.prog.cellsOf 27 = 7 := by kernel_rfl
abbrev D27 := D24 × D3 × D3 × D3 × D2 × D25 × D25
abbrev c27 : D27 → List AV := fun d => c24 d.1 ++ (c3 d.2.1 ++ (c3 d.2.2.1 ++ (c3 d.2.2.2.1 ++ (c2 d.2.2.2.2.1 ++ (c25 d.2.2.2.2.2.1 ++ (c25 d.2.2.2.2.2.2 ++ ([])))))))
theorem cl27 (d : D27) : (c27 d).length = 7 := rfl
theorem opens27 : Opens Try.prog 27 c27 := by
  intro H enc w held n cs x h
  obtain ⟨xs, m, _, rfl, hl, hlen, hf⟩ := DataW.trod_struct Try.underlying27 h
  rw [co27] at hl
  have g0 := hf 0 _ rfl
  rw [List.getElem?_eq_getElem (by rw [hlen]; decide)] at g0
  obtain ⟨d0, E0⟩ := opens24 _ _ _ _ _ _ _ g0
  have D0 : DLs w (c24 d0) ((cs.drop 0).take (Try.prog.cellsOf 24)) := E0
  rw [co24] at D0
  have g1 := hf 1 _ rfl
  rw [List.getElem?_eq_getElem (by rw [hlen]; decide)] at g1
  obtain ⟨d1, E1⟩ := opens3 _ _ _ _ _ _ _ g1
  have D1 : DLs w (c3 d1) ((cs.drop 1).take (Try.prog.cellsOf 3)) := E1
  rw [co3] at D1
  have g2 := hf 2 _ rfl
  rw [List.getElem?_eq_getElem (by rw [hlen]; decide)] at g2
  obtain ⟨d2, E2⟩ := opens3 _ _ _ _ _ _ _ g2
  have D2 : DLs w (c3 d2) ((cs.drop 2).take (Try.prog.cellsOf 3)) := E2
  rw [co3] at D2
  have g3 := hf 3 _ rfl
  rw [List.getElem?_eq_getElem (by rw [hlen]; decide)] at g3
  obtain ⟨d3, E3⟩ := opens3 _ _ _ _ _ _ _ g3
  have D3 : DLs w (c3 d3) ((cs.drop 3).take (Try.prog.cellsOf 3)) := E3
  rw [co3] at D3
  have g4 := hf 4 _ rfl
  rw [List.getElem?_eq_getElem (by rw [hlen]; decide)] at g4
  obtain ⟨d4, E4⟩ := opens2 _ _ _ _ _ _ _ g4
  have D4 : DLs w (c2 d4) ((cs.drop 4).take (Try.prog.cellsOf 2)) := E4
  rw [co2] at D4
  have g5 := hf 5 _ rfl
  rw [List.getElem?_eq_getElem (by rw [hlen]; decide)] at g5
  obtain ⟨d5, E5⟩ := opens25 _ _ _ _ _ _ _ g5
  have D5 : DLs w (c25 d5) ((cs.drop 5).take (Try.prog.cellsOf 25)) := E5
  rw [co25] at D5
  have g6 := hf 6 _ rfl
  rw [List.getElem?_eq_getElem (by rw [hlen]; decide)] at g6
  obtain ⟨d6, E6⟩ := opens25 _ _ _ _ _ _ _ g6
  have D6 : DLs w (c25 d6) ((cs.drop 6).take (Try.prog.cellsOf 25)) := E6
  rw [co25] at D6
  refine ⟨(d0, d1, d2, d3, d4, d5, d6), ?_⟩
  have key : DLs w (c27 (d0, d1, d2, d3, d4, d5, d6)) (cs.drop 0) := dls_split D0 (cl24 _) (dls_split D1 (cl3 _) (dls_split D2 (cl3 _) (dls_split D3 (cl3 _) (dls_split D4 (cl2 _) (dls_split D5 (cl25 _) (dls_split D6 (cl25 _) (dls_end (by rw [hl]))))))))
  rwa [List.drop_zero] at key
theorem co4 : Try.prog.cellsOf 4 = 1 := by kernel_rfl
abbrev D4 := Bool
abbrev c4 : D4 → List AV := fun d => [.v (.bool d)]
theorem cl4 (d : D4) : (c4 d).length = 1 := rfl
theorem opens4 : Opens Try.prog 4 c4 := opens_bool Try.underlying4
theorem co30 : Try.prog.cellsOf 30 = 2 := by kernel_rfl
abbrev D30 := D28 × D28
abbrev c30 : D30 → List AV := fun d => c28 d.1 ++ (c28 d.2 ++ ([]))
theorem cl30 (d : D30) : (c30 d).length = 2 := rfl
theorem opens30 : Opens Try.prog 30 c30 := by
  intro H enc w held n cs x h
  obtain ⟨xs, m, _, rfl, hl, hlen, hf⟩ := DataW.trod_struct Try.underlying30 h
  rw [co30] at hl
  have g0 := hf 0 _ rfl
  rw [List.getElem?_eq_getElem (by rw [hlen]; decide)] at g0
  obtain ⟨d0, E0⟩ := opens28 _ _ _ _ _ _ _ g0
  have D0 : DLs w (c28 d0) ((cs.drop 0).take (Try.prog.cellsOf 28)) := E0
  rw [co28] at D0
  have g1 := hf 1 _ rfl
  rw [List.getElem?_eq_getElem (by rw [hlen]; decide)] at g1
  obtain ⟨d1, E1⟩ := opens28 _ _ _ _ _ _ _ g1
  have D1 : DLs w (c28 d1) ((cs.drop 1).take (Try.prog.cellsOf 28)) := E1
  rw [co28] at D1
  refine ⟨(d0, d1), ?_⟩
  have key : DLs w (c30 (d0, d1)) (cs.drop 0) := dls_split D0 (cl28 _) (dls_split D1 (cl28 _) (dls_end (by rw [hl])))
  rwa [List.drop_zero] at key
end Go.Proofs.Ytaoondlakhocnaa
end
section
set_option linter.unusedVariables false
set_option linter.unusedSimpArgs false
namespace Go.Proofs.Ytaoondlakhocnaa
open Go Go.Am Go.ChangeShapes Go.WideShapes Go.ChangeAt Go.RowKit

abbrev tbOf (d : D24) : Tb := d.map fun r => r.map (·.val)
abbrev stOf (d : D56) : Stp := ⟨d.1.val, d.2.1.val, d.2.2.val⟩
theorem c24_eq (d : D24) : c24 d = [rowsAV (tbOf d)] := by
  simp only [c24, c22, c28, c2, flat_one, List.append_nil, rowsAV, rowAV, tbOf, List.length_map, List.map_map, Function.comp_def]
theorem c25_eq (d : D25) : c25 d = [stopsAV (d.map stOf)] := by
  simp only [c25, c56, c2, c3, stopsAV, flatS, List.length_map, List.map_map, Function.comp_def]
  rfl
theorem c28_eq (d : D28) : c28 d = [rowAV (d.map fun x => x.val)] := by
  simp only [c28, c2, flat_one, rowAV, List.length_map, List.map_map, Function.comp_def]
theorem c56_eq (d : D56) : c56 d = stC (stOf d) := rfl

section
variable {H : Type} {enc : TypeId × Value → H} {W : World} {base : Nat} {r : Reach} {v : Value} {d : DataW H} {p : List MemPlace}
theorem open_24 (hval : Value.okWide Try.prog W r base 24 v) (h : DataW.Trod enc Try.prog W 0 (fun _ => true) true 24 v d p) : ∃ rows : Tb, Den [] (In W) W (.agg [rowsAV rows]) v := by
  obtain ⟨cs, rfl, hs⟩ := okWide_struct Try.underlying24 hval
  obtain ⟨x, hx⟩ := open_agg opens24 h
  rw [c24_eq] at hx
  exact ⟨_, hx⟩
theorem open_56 (hval : Value.okWide Try.prog W r base 56 v) (h : DataW.Trod enc Try.prog W 0 (fun _ => true) true 56 v d p) : ∃ s : Stp, Den [] (In W) W (.agg (stC s)) v := by
  obtain ⟨cs, rfl, hs⟩ := okWide_struct Try.underlying56 hval
  obtain ⟨x, hx⟩ := open_agg opens56 h
  exact ⟨stOf x, hx⟩
theorem open_64 (hval : Value.okWide Try.prog W r base 64 v) (h : DataW.Trod enc Try.prog W 0 (fun _ => true) true 64 v d p) :
    ∃ (rows : Tb) (per balls : Int) (l : List Stp), Den [] (In W) W (.agg [rowsAV rows, AV.i per, AV.i balls, stopsAV l]) v := by
  obtain ⟨cs, rfl, hs⟩ := okWide_struct Try.underlying64 hval
  obtain ⟨x, hx⟩ := open_agg opens64 h
  have e : c64 x = [rowsAV (tbOf x.1), AV.i x.2.1.val, AV.i x.2.2.1.val, stopsAV (x.2.2.2.map stOf)] := by
    show c24 x.1 ++ (c3 x.2.1 ++ (c2 x.2.2.1 ++ (c25 x.2.2.2 ++ []))) = _
    rw [c24_eq, c25_eq]; rfl
  rw [e] at hx
  exact ⟨_, _, _, _, hx⟩
theorem open_46 (hval : Value.okWide Try.prog W r base 46 v) (h : DataW.Trod enc Try.prog W 0 (fun _ => true) true 46 v d p) :
    ∃ (a b c e f : Int), Den [] (In W) W (.agg [AV.i a, AV.i b, AV.i c, AV.i e, AV.i f]) v := by
  obtain ⟨cs, rfl, hs⟩ := okWide_struct Try.underlying46 hval
  obtain ⟨x, hx⟩ := open_agg opens46 h
  exact ⟨_, _, _, _, _, hx⟩
theorem open_2 (hval : Value.okWide Try.prog W r base 2 v) (h : DataW.Trod enc Try.prog W 0 (fun _ => true) true 2 v d p) : ∃ n : Int, Den [] (In W) W (AV.i n) v := by
  obtain ⟨fuel, hf⟩ := h
  obtain ⟨n, rfl⟩ := okWide_int Try.underlying2 hval
  exact ⟨n, by obtain ⟨m, hm, _⟩ := DataW.trod_int Try.underlying2 hf; cases hm; exact .v _⟩
theorem open_3 (hval : Value.okWide Try.prog W r base 3 v) (h : DataW.Trod enc Try.prog W 0 (fun _ => true) true 3 v d p) : ∃ n : Int, Den [] (In W) W (AV.i n) v := by
  obtain ⟨fuel, hf⟩ := h
  obtain ⟨n, rfl⟩ := okWide_int Try.underlying3 hval
  exact ⟨n, by obtain ⟨m, hm, _⟩ := DataW.trod_int Try.underlying3 hf; cases hm; exact .v _⟩
theorem list3 {α : Type} {l : List α} (h : l.length = 3) : ∃ x y z, l = [x, y, z] := by
  match l, h with
  | [x, y, z], _ => exact ⟨x, y, z, rfl⟩
theorem list2 {α : Type} {l : List α} (h : l.length = 2) : ∃ x y, l = [x, y] := by
  match l, h with
  | [x, y], _ => exact ⟨x, y, rfl⟩
theorem okWide_arr {t e : TypeId} {n : Nat} (ht : Try.prog.underlying t = some (.array n e)) (hval : Value.okWide Try.prog W r base t v) : ∃ cs, v = .agg cs := by
  simp only [Value.okWide, ht, Cell.okWide] at hval
  cases v <;> simp_all [Cell.ok]
theorem open_51 (hval : Value.okWide Try.prog W r base 51 v) (h : DataW.Trod enc Try.prog W 0 (fun _ => true) true 51 v d p) :
    ∃ (x y z : Int), (0 ≤ x ∧ x ≤ 65535) ∧ (0 ≤ y ∧ y ≤ 65535) ∧ (0 ≤ z ∧ z ≤ 65535) ∧ Den [] (In W) W (.agg [.v (.int .u16 x), .v (.int .u16 y), .v (.int .u16 z)]) v := by
  obtain ⟨cs, rfl⟩ := okWide_arr Try.underlying51 hval
  obtain ⟨x, hx⟩ := open_agg opens51 h
  obtain ⟨a, b, c, e⟩ := list3 x.property
  have e2 : c51 x = [.v (.int .u16 a.val), .v (.int .u16 b.val), .v (.int .u16 c.val)] := by
    show (x.val.map c50).flatten = _
    rw [e]; rfl
  rw [e2] at hx
  exact ⟨_, _, _, a.property, b.property, c.property, hx⟩
theorem open_53 (hval : Value.okWide Try.prog W r base 53 v) (h : DataW.Trod enc Try.prog W 0 (fun _ => true) true 53 v d p) :
    ∃ (x y : Int), Den [] (In W) W (.agg [AV.i x, AV.i y]) v := by
  obtain ⟨cs, rfl⟩ := okWide_arr Try.underlying53 hval
  obtain ⟨x, hx⟩ := open_agg opens53 h
  obtain ⟨a, b, e⟩ := list2 x.property
  have e2 : c53 x = [AV.i a.val, AV.i b.val] := by
    show (x.val.map c2).flatten = _
    rw [e]; rfl
  rw [e2] at hx
  exact ⟨_, _, hx⟩
theorem open_58 (hval : Value.okWide Try.prog W r base 58 v) (h : DataW.Trod enc Try.prog W 0 (fun _ => true) true 58 v d p) :
    ∃ (x y : Int), Den [] (In W) W (.agg [AV.i x, AV.i y]) v := by
  obtain ⟨cs, rfl⟩ := okWide_arr Try.underlying58 hval
  obtain ⟨x, hx⟩ := open_agg opens58 h
  obtain ⟨a, b, e⟩ := list2 x.property
  have e2 : c58 x = [AV.i a.val, AV.i b.val] := by
    show (x.val.map c3).flatten = _
    rw [e]; rfl
  rw [e2] at hx
  exact ⟨_, _, hx⟩
theorem open_31 (hval : Value.okWide Try.prog W r base 31 v) (h : DataW.Trod enc Try.prog W 0 (fun _ => true) true 31 v d p) :
    ∃ (x y z : Int), Den [] (In W) W (.agg [AV.i x, AV.i y, AV.i z]) v := by
  obtain ⟨cs, rfl⟩ := okWide_arr Try.underlying31 hval
  obtain ⟨x, hx⟩ := open_agg opens31 h
  obtain ⟨a, b, c, e⟩ := list3 x.property
  have e2 : c31 x = [AV.i a.val, AV.i b.val, AV.i c.val] := by
    show (x.val.map c2).flatten = _
    rw [e]; rfl
  rw [e2] at hx
  exact ⟨_, _, _, hx⟩
theorem open_27 (hval : Value.okWide Try.prog W r base 27 v) (h : DataW.Trod enc Try.prog W 0 (fun _ => true) true 27 v d p) :
    ∃ (rows : Tb) (per tot wth balls : Int) (l m : List Stp), Den [] (In W) W (.agg [rowsAV rows, AV.i per, AV.i tot, AV.i wth, AV.i balls, stopsAV l, stopsAV m]) v := by
  obtain ⟨cs, rfl, hs⟩ := okWide_struct Try.underlying27 hval
  obtain ⟨x, hx⟩ := open_agg opens27 h
  have e : c27 x = [rowsAV (tbOf x.1), AV.i x.2.1.val, AV.i x.2.2.1.val, AV.i x.2.2.2.1.val, AV.i x.2.2.2.2.1.val, stopsAV (x.2.2.2.2.2.1.map stOf), stopsAV (x.2.2.2.2.2.2.map stOf)] := by
    show c24 x.1 ++ (c3 x.2.1 ++ (c3 x.2.2.1 ++ (c3 x.2.2.2.1 ++ (c2 x.2.2.2.2.1 ++ (c25 x.2.2.2.2.2.1 ++ (c25 x.2.2.2.2.2.2 ++ [])))))) = _
    rw [c24_eq, c25_eq, c25_eq]; rfl
  rw [e] at hx
  exact ⟨_, _, _, _, _, _, _, hx⟩
theorem open_30 (hval : Value.okWide Try.prog W r base 30 v) (h : DataW.Trod enc Try.prog W 0 (fun _ => true) true 30 v d p) :
    ∃ (c1 c2 : List Int), Den [] (In W) W (.agg [rowAV c1, rowAV c2]) v := by
  obtain ⟨cs, rfl, hs⟩ := okWide_struct Try.underlying30 hval
  obtain ⟨x, hx⟩ := open_agg opens30 h
  have e : c30 x = [rowAV (x.1.map fun y => y.val), rowAV (x.2.map fun y => y.val)] := by
    show c28 x.1 ++ (c28 x.2 ++ []) = _
    rw [c28_eq, c28_eq]; rfl
  rw [e] at hx
  exact ⟨_, _, hx⟩
theorem open_4 (hval : Value.okWide Try.prog W r base 4 v) (h : DataW.Trod enc Try.prog W 0 (fun _ => true) true 4 v d p) : ∃ n : Bool, Den [] (In W) W (.v (.bool n)) v := by
  obtain ⟨n, rfl⟩ := okWide_bool Try.underlying4 hval
  exact ⟨n, .v _⟩
end
end Go.Proofs.Ytaoondlakhocnaa
end
section
namespace Go.Proofs.Ytaoondlakhocnaa
open Go Go.Am Go.ChangeShapes Go.WideShapes Go.ChangeAt Go.RowKit
set_option linter.unusedVariables false

theorem targetSplits_own : ownKnob Try.prog.godebug = none := by kernel_rfl
theorem targetSplits_laidOut : laidOutB Try.prog = true := by kernel_rfl

theorem targetSplits_walk (w : World) (v0 v1 v2 : Value) (rows : Tb) (per : Int) (tot : Int) (wth : Int) (balls : Int) (l : List Stp) (m : List Stp) (x : Int) (y : Int) (z : Int) (b : Bool)  (D0 : Den [] (In w) w (.agg [rowsAV rows, AV.i per, AV.i tot, AV.i wth, AV.i balls, stopsAV l, stopsAV m]) v0) (D1 : Den [] (In w) w (.agg [AV.i x, AV.i y, AV.i z]) v1) (D2 : Den [] (In w) w (.v (.bool b)) v2) :
    Calls Try.prog 15 #[v0, v1, v2] w fun e w' => e = .returned (.bool true) ∧ Below w.heap.size w w' := by
  obtain ⟨n0, r0, H0, hac, rfl⟩ := tsplits_ok rows per tot wth balls l m x y z b
  refine (calls_of_acall sig_ok (f := 15) rfl hac ⟨rfl, ?_⟩).mono fun e w' ⟨x0, I', he, hx0, hb⟩ => ?_
  · intro j a y0 ha hy0
    match j, ha, hy0 with
    | 0, ha, hy0 => cases ha; cases hy0; exact D0
    | 1, ha, hy0 => cases ha; cases hy0; exact D1
    | 2, ha, hy0 => cases ha; cases hy0; exact D2
  · rw [den_v hx0] at he
    exact ⟨he, hb⟩

set_option maxRecDepth 100000 in
theorem targetSplits_lifted (os : Os) (started : os.Started) (H : Type) (enc : TypeId × Value → H) :
    ReturnsInHanded {} Try.checked os 15 .any (Rows.targetSplitsSpec.pre6 enc Try.prog Try.f15 Rows.targetSplitsRow.domain false) (Rows.targetSplitsSpec.post enc Try.prog Try.f15 false true false false) := by
  refine returnsInHanded_of_change (C := Try.checked) targetSplits_own started (by kernel_rfl) Try.func15
    (ChangeSpec.witness6 (enc := enc) (C := Try.checked) false ⟨#[], #[.agg #[.slice none 0 0, .int .i64 0, .int .i64 0, .int .i64 0, .int .i64 0, .slice none 0 0, .slice none 0 0], .agg #[.int .i64 0, .int .i64 0, .int .i64 0], .bool false], []⟩ 8 (by kernel_rfl) (by kernel_rfl) (by kernel_rfl) (by kernel_rfl)) ?_
  intro W base args ds gs before hval0 hW hcnd _
  have hval : ∀ (j : Nat) t v, Try.f15.params[j]? = some t → args[j]? = some v → Value.okWide Try.prog W .any base t v := hval0
  have hW' := hW
  obtain ⟨p, q, hA0, hV, rfl, hfz, hnd⟩ := hW
  have hA : DataW.TrodAll enc Try.prog W 0 (fun _ => true) true Try.f15.params.toList args.toList ds p := hA0
  rw [Try.params15] at hA hval
  obtain ⟨v0, vs0, d0, ds0, p0, q0, hargs, rfl, rfl, h0, s0⟩ := trodAll_cons hA
  obtain ⟨v1, vs1, d1, ds1, p1, q1, rfl, rfl, rfl, h1, s1⟩ := trodAll_cons s0
  obtain ⟨v2, vs2, d2, ds2, p2, q2, rfl, rfl, rfl, h2, s2⟩ := trodAll_cons s1
  obtain ⟨rfl, rfl, rfl⟩ := trodAll_nil s2
  obtain rfl : args = #[v0, v1, v2] := by cases args; simp_all
  obtain ⟨rfl, rfl⟩ := trodVars_none hV
  have k0 := h0
  have lt0 : ∀ x ∈ p0, x.block < W.heap.size := by obtain ⟨m, hm⟩ := k0; exact DataW.trod_lt m _ _ _ hm
  obtain ⟨rows, per, tot, wth, balls, l, m, D0⟩ := open_27 (hval 0 27 v0 rfl rfl) h0
  have k1 := h1
  have lt1 : ∀ x ∈ p1, x.block < W.heap.size := by obtain ⟨m, hm⟩ := k1; exact DataW.trod_lt m _ _ _ hm
  obtain ⟨x, y, z, D1⟩ := open_31 (hval 1 31 v1 rfl rfl) h1
  have k2 := h2
  have lt2 : ∀ x ∈ p2, x.block < W.heap.size := by obtain ⟨m, hm⟩ := k2; exact DataW.trod_lt m _ _ _ hm
  obtain ⟨b, D2⟩ := open_4 (hval 2 4 v2 rfl rfl) h2
  clear hA0 hval0
  refine (targetSplits_walk W v0 v1 v2 rows per tot wth balls l m x y z b D0 D1 D2).mono fun e W' ⟨he, bel⟩ => ?_
  subst he
  exact ⟨_, rfl, _, _, _, [], _, [], hW', trodAll_mk1 (shut_bool Try.underlying4 _), (trodAll_cons_mk (Below.trod targetSplits_laidOut (by kernel_rfl) (of_decide_eq_true (by kernel_rfl)) k0 bel lt0) (trodAll_cons_mk (Below.trod targetSplits_laidOut (by kernel_rfl) (of_decide_eq_true (by kernel_rfl)) k1 bel lt1) (trodAll_cons_mk (Below.trod targetSplits_laidOut (by kernel_rfl) (of_decide_eq_true (by kernel_rfl)) k2 bel lt2) trodAll_mk0))), rfl, bel.frame _, fun h => by cases h⟩

theorem targetSplits_over : Rows.targetSplitsRow.holds Try.pinned (OpenSpec.ofChange Rows.targetSplitsSpec) :=
  OpenClaim.holds_of_wide 15 Try.f15 rfl rfl rfl rfl rfl rfl rfl ⟨rfl, rfl, rfl, rfl, rfl⟩ rfl rfl rfl rfl rfl (by kernel_rfl) Try.func15 (by kernel_rfl)
    (of_decide_eq_true (by kernel_rfl)) (by unfold Func.isWrapper; first | (rw [if_pos (by decide +kernel)]; kernel_rfl) | (rw [if_neg (by decide +kernel)]; exact ⟨rfl, rfl⟩))
    (fun os started H enc _ => targetSplits_lifted os started H enc)

theorem targetSplits_holds : Rows.TargetSplitsSaid := targetSplits_over
end Go.Proofs.Ytaoondlakhocnaa
end
