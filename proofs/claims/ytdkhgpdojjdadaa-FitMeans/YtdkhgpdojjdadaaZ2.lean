/-
  Tables that came in, as abstract values, with the range of their numbers.
-/
import Derived.Test.YtdkhgpdojjdadaaZ
import Derived.Test.YtdkhgpdojjdadaaWQ
namespace Go.Proofs.Ytdkhgpdojjdadaa
open Go Go.Am Go.ChangeShapes Go.WideShapes Go.ChangeAt Go.RowKit

abbrev RInt := {x : Int // x ≤ 9223372036854775807}
theorem den_rint {H : Type} {enc : TypeId × Value → H} {P : Program} {w : World} {held : Bool} {e : TypeId} (he : P.underlying e = some (.int .i64)) :
    ∀ n cs (x : DataW H × List MemPlace), DataW.trod enc P w 0 (fun _ => true) held n e cs = some x → ∃ (d : RInt) (v : Value), cs = [v] ∧ Den [] (In w) w (AV.i d.val) v := by
  intro n cs x h
  obtain ⟨m, rfl, _, hw⟩ := DataW.trod_int he h
  have hm : m ≤ 9223372036854775807 := by
    simp only [Lit.wf, decide_eq_true_eq, Bool.and_eq_true] at hw
    have h2 : (-9223372036854775808 : Int) ≤ m ∧ m ≤ 9223372036854775807 := hw
    exact h2.2
  exact ⟨⟨m, hm⟩, _, rfl, .v _⟩

theorem open_table_r {H : Type} {enc : TypeId × Value → H} {W : World} {base : Nat} {r : Reach} {v : Value} {d : DataW H} {p : List MemPlace} (hval : Value.okWide Try.prog W r base 24 v)
    (h : DataW.Trod enc Try.prog W 0 (fun _ => true) true 24 v d p) : ∃ rows : List (List Int), I64T rows ∧ Den [] (In W) W (.agg [rowsAV rows]) v := by
  obtain ⟨cs, rfl, hs⟩ := okWide_struct Try.underlying24 hval
  obtain ⟨fuel, hf⟩ := h
  obtain ⟨y0, n, _, hl, hf0⟩ := trod_struct1 Try.underlying24 hf
  have hl1 : cs.size = 1 := by rw [hs]; exact co24
  obtain ⟨x, rfl⟩ : ∃ x, cs = #[x] := by
    obtain ⟨l⟩ := cs
    match l, hl1 with
    | [x], _ => exact ⟨x, rfl⟩
  obtain ⟨rows, v, hc, hD⟩ := den_slice (fun l : List RInt => .sl l.length (l.map fun d => AV.i d.val)) Try.underlying22 co37 (fun n cs x h => den_slice (fun d : RInt => AV.i d.val) Try.underlying37 co2 (den_rint Try.underlying2) h) hf0
  have hx : [x] = [v] := by
    rw [← hc]
    show [x] = List.take (Try.prog.cellsOf 22) (List.drop 0 [x])
    rw [co22]; rfl
  cases hx
  refine ⟨rows.map fun l => l.map (·.val), ?_, .agg _ _ rfl ?_⟩
  · intro u hu w hw
    rw [List.length_map] at hu
    have e1 : gt (rows.map fun l => l.map (·.val)) u = (rows[u]'hu).map (·.val) := by
      rw [gt_eq _ _ (by simpa using hu)]; simp
    rw [e1] at hw ⊢
    rw [List.length_map] at hw
    rw [gt_eq _ _ (by simpa using hw)]
    simp only [List.getElem_map]
    exact ((rows[u]'hu)[w]'hw).property
  · intro j a y ha hy
    match j, ha, hy with
    | 0, ha, hy =>
      cases ha; cases hy
      have e : rowsAV (rows.map fun l => l.map (·.val)) = .sl rows.length (rows.map fun l : List RInt => AV.sl l.length (l.map fun d => AV.i d.val)) := by
        simp only [rowsAV, rowAV, List.length_map, List.map_map, Function.comp_def]
      rw [e]
      exact hD
end Go.Proofs.Ytdkhgpdojjdadaa
