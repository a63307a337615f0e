/-
  The arguments of the statements of chapter 46, opened.
-/
import Derived.Test.YtmkalakojfpfgaaOp
import Derived.Test.YtmkalakojfpfgaaP
set_option linter.unusedVariables false
set_option linter.unusedSimpArgs false
namespace Go.Proofs.Ytmkalakojfpfgaa
open Go Go.Am Go.ChangeShapes Go.WideShapes Go.ChangeAt Go.RowKit

abbrev tbOf (d : D22) : Tb := d.map fun r => r.map (·.val)
theorem c22_eq (d : D22) : c22 d = [rowsAV (tbOf d)] := by
  simp only [c22, c35, c2, flat_one, List.append_nil, rowsAV, rowAV, tbOf, List.length_map, List.map_map, Function.comp_def]
abbrev inOf (d : D25) : List Int := d.map (·.val)
theorem c25_eq (d : D25) : c25 d = [.sl (inOf d).length ((inOf d).map AV.i)] := by
  simp only [c25, c3, flat_one, List.length_map, List.map_map, Function.comp_def]

section
variable {H : Type} {enc : TypeId × Value → H} {W : World} {base : Nat} {r : Reach} {v : Value} {d : DataW H} {p : List MemPlace}
theorem den_len {φ : Phi} {I : Nat → Prop} {w : World} {n : Nat} {l : List AV} {x : Value} (h : Den φ I w (.sl n l) x) : n ≤ 9223372036854775807 := by
  cases h with
  | sl0 => omega
  | sl _ _ c a Y hn hc ha hI hY hD => have : c ≤ 9223372036854775807 := hc; omega
theorem open_24 (hval : Value.okWide Try.prog W r base 24 v) (h : DataW.Trod enc Try.prog W 0 (fun _ => true) true 24 v d p) :
    ∃ (rows : Tb) (q la : Int) (hL : rows.length ≤ 9223372036854775807), Den [] (In W) W (.agg [rowsAV rows, AV.i q, AV.i la]) v := by
  obtain ⟨cs, rfl, hs⟩ := okWide_struct Try.underlying24 hval
  obtain ⟨x, hx⟩ := open_agg opens24 h
  have e : c24 x = [rowsAV (tbOf x.1), AV.i x.2.1.val, AV.i x.2.2.val] := by
    show c22 x.1 ++ (c3 x.2.1 ++ (c3 x.2.2 ++ [])) = _
    rw [c22_eq]; rfl
  rw [e] at hx
  refine ⟨_, _, _, ?_, hx⟩
  cases hx with
  | agg _ _ hz hD =>
    have h0 : 0 < cs.size := by rw [hz]; simp
    exact den_len (hD 0 _ _ rfl (Array.getElem?_eq_getElem h0))
theorem open_25 (hval : Value.okWide Try.prog W r base 25 v) (h : DataW.Trod enc Try.prog W 0 (fun _ => true) true 25 v d p) :
    ∃ l : List Int, Den [] (In W) W (.sl l.length (l.map AV.i)) v := by
  obtain ⟨a, len, cap, rfl⟩ := okWide_slice Try.underlying25 hval
  obtain ⟨fuel, hf⟩ := h
  obtain ⟨x, hx⟩ := opens25 _ _ _ _ _ _ _ hf
  rw [c25_eq] at hx
  exact ⟨inOf x, hx.2 0 _ _ rfl rfl⟩
theorem three {α : Type} (l : List α) (h : l.length = 3) : ∃ a b c, l = [a, b, c] := by
  match l, h with
  | [a, b, c], _ => exact ⟨a, b, c, rfl⟩
theorem okWide_arr {m : Nat} {e t : TypeId} (ht : Try.prog.underlying t = some (.array m e)) (h : Value.okWide Try.prog W r base t v) : ∃ cs, v = .agg cs ∧ cs.size = Try.prog.cellsOf t := by
  simp only [Value.okWide, ht] at h
  obtain ⟨cs, h1, h2, _⟩ := h
  exact ⟨cs, h1, h2⟩
theorem open_42 (hval : Value.okWide Try.prog W r base 42 v) (h : DataW.Trod enc Try.prog W 0 (fun _ => true) true 42 v d p) :
    ∃ (x0 x1 x2 : Int) (hx0 : -9223372036854775808 ≤ x0 ∧ x0 ≤ 9223372036854775807) (hx1 : -9223372036854775808 ≤ x1 ∧ x1 ≤ 9223372036854775807) (hx2 : -9223372036854775808 ≤ x2 ∧ x2 ≤ 9223372036854775807),
      Den [] (In W) W (.agg [AV.i x0, AV.i x1, AV.i x2]) v := by
  obtain ⟨cs, rfl, hs⟩ := okWide_arr Try.underlying42 hval
  obtain ⟨⟨l, hl⟩, hx⟩ := open_agg opens42 h
  obtain ⟨a, b, c, e⟩ := three l hl
  subst e
  exact ⟨a.val, b.val, c.val, a.property, b.property, c.property, hx⟩
end
end Go.Proofs.Ytmkalakojfpfgaa
