/-
  Tables that came in, as abstract values.
-/
import Derived.Test.YtdkhgpdojjdadaaWA
import Derived.Test.YtdkhgpdojjdadaaAmZ
import Derived.KernelRfl
namespace Go.Proofs.Ytdkhgpdojjdadaa
open Go Go.Am Go.ChangeShapes Go.WideShapes Go.ChangeAt Go.RowKit

theorem co22 : Try.prog.cellsOf 22 = 1 := by kernel_rfl
theorem co37 : Try.prog.cellsOf 37 = 1 := by kernel_rfl
theorem co2 : Try.prog.cellsOf 2 = 1 := by kernel_rfl
theorem co24 : Try.prog.cellsOf 24 = 1 := by kernel_rfl

theorem open_table {H : Type} {enc : TypeId × Value → H} {W : World} {base : Nat} {r : Reach} {v : Value} {d : DataW H} {p : List MemPlace} (hval : Value.okWide Try.prog W r base 24 v)
    (h : DataW.Trod enc Try.prog W 0 (fun _ => true) true 24 v d p) : ∃ rows : List (List Int), Den [] (In W) W (.agg [rowsAV rows]) v := by
  obtain ⟨cs, rfl, hs⟩ := okWide_struct Try.underlying24 hval
  obtain ⟨fuel, hf⟩ := h
  obtain ⟨y0, n, _, hl, hf0⟩ := trod_struct1 Try.underlying24 hf
  have hl1 : cs.size = 1 := by rw [hs]; exact co24
  obtain ⟨x, rfl⟩ : ∃ x, cs = #[x] := by
    obtain ⟨l⟩ := cs
    match l, hl1 with
    | [x], _ => exact ⟨x, rfl⟩
  obtain ⟨rows, v, hc, hD⟩ := den_slice rowAV Try.underlying22 co37 (fun n cs x h => den_slice AV.i Try.underlying37 co2 (den_int Try.underlying2) h) hf0
  have hx : [x] = [v] := by
    rw [← hc]
    show [x] = List.take (Try.prog.cellsOf 22) (List.drop 0 [x])
    rw [co22]; rfl
  cases hx
  refine ⟨rows, .agg _ _ rfl ?_⟩
  intro j a y ha hy
  match j, ha, hy with
  | 0, ha, hy => cases ha; cases hy; exact hD
end Go.Proofs.Ytdkhgpdojjdadaa
