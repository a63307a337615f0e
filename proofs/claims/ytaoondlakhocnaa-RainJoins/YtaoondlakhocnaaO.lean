/-
  The arguments of the statements of chapters 39 and 40, opened.
-/
import Derived.Test.YtaoondlakhocnaaOp
import Derived.Test.YtaoondlakhocnaaRJ
set_option linter.unusedVariables false
set_option linter.unusedSimpArgs false
namespace Go.Proofs.Ytaoondlakhocnaa
open Go Go.Am Go.ChangeShapes Go.WideShapes Go.ChangeAt Go.RowKit

abbrev tbOf (d : D24) : Tb := d.map fun r => r.map (·.val)
abbrev stOf (d : D56) : Stp := ⟨d.1.val, d.2.1.val, d.2.2.val⟩
theorem c24_eq (d : D24) : c24 d = [rowsAV (tbOf d)] := by
  simp only [c24, c22, c28, c2, flat_one, List.append_nil, rowsAV, rowAV, tbOf, List.length_map, List.map_map, Function.comp_def]
theorem c25_eq (d : D25) : c25 d = [stopsAV (d.map stOf)] := by
  simp only [c25, c56, c2, c3, stopsAV, flatS, List.length_map, List.map_map, Function.comp_def]
  rfl
theorem c56_eq (d : D56) : c56 d = stC (stOf d) := rfl

section
variable {H : Type} {enc : TypeId × Value → H} {W : World} {base : Nat} {r : Reach} {v : Value} {d : DataW H} {p : List MemPlace}
theorem open_24 (hval : Value.okWide Try.prog W r base 24 v) (h : DataW.Trod enc Try.prog W 0 (fun _ => true) true 24 v d p) : ∃ rows : Tb, Den [] (In W) W (.agg [rowsAV rows]) v := by
  obtain ⟨cs, rfl, hs⟩ := okWide_struct Try.underlying24 hval
  obtain ⟨x, hx⟩ := open_agg opens24 h
  rw [c24_eq] at hx
  exact ⟨_, hx⟩
theorem open_56 (hval : Value.okWide Try.prog W r base 56 v) (h : DataW.Trod enc Try.prog W 0 (fun _ => true) true 56 v d p) : ∃ s : Stp, Den [] (In W) W (.agg (stC s)) v := by
  obtain ⟨cs, rfl, hs⟩ := okWide_struct Try.underlying56 hval
  obtain ⟨x, hx⟩ := open_agg opens56 h
  exact ⟨stOf x, hx⟩
theorem open_64 (hval : Value.okWide Try.prog W r base 64 v) (h : DataW.Trod enc Try.prog W 0 (fun _ => true) true 64 v d p) :
    ∃ (rows : Tb) (per balls : Int) (l : List Stp), Den [] (In W) W (.agg [rowsAV rows, AV.i per, AV.i balls, stopsAV l]) v := by
  obtain ⟨cs, rfl, hs⟩ := okWide_struct Try.underlying64 hval
  obtain ⟨x, hx⟩ := open_agg opens64 h
  have e : c64 x = [rowsAV (tbOf x.1), AV.i x.2.1.val, AV.i x.2.2.1.val, stopsAV (x.2.2.2.map stOf)] := by
    show c24 x.1 ++ (c3 x.2.1 ++ (c2 x.2.2.1 ++ (c25 x.2.2.2 ++ []))) = _
    rw [c24_eq, c25_eq]; rfl
  rw [e] at hx
  exact ⟨_, _, _, _, hx⟩
theorem open_46 (hval : Value.okWide Try.prog W r base 46 v) (h : DataW.Trod enc Try.prog W 0 (fun _ => true) true 46 v d p) :
    ∃ (a b c e f : Int), Den [] (In W) W (.agg [AV.i a, AV.i b, AV.i c, AV.i e, AV.i f]) v := by
  obtain ⟨cs, rfl, hs⟩ := okWide_struct Try.underlying46 hval
  obtain ⟨x, hx⟩ := open_agg opens46 h
  exact ⟨_, _, _, _, _, hx⟩
theorem open_2 (hval : Value.okWide Try.prog W r base 2 v) (h : DataW.Trod enc Try.prog W 0 (fun _ => true) true 2 v d p) : ∃ n : Int, Den [] (In W) W (AV.i n) v := by
  obtain ⟨fuel, hf⟩ := h
  obtain ⟨n, rfl⟩ := okWide_int Try.underlying2 hval
  exact ⟨n, by obtain ⟨m, hm, _⟩ := DataW.trod_int Try.underlying2 hf; cases hm; exact .v _⟩
theorem open_3 (hval : Value.okWide Try.prog W r base 3 v) (h : DataW.Trod enc Try.prog W 0 (fun _ => true) true 3 v d p) : ∃ n : Int, Den [] (In W) W (AV.i n) v := by
  obtain ⟨fuel, hf⟩ := h
  obtain ⟨n, rfl⟩ := okWide_int Try.underlying3 hval
  exact ⟨n, by obtain ⟨m, hm, _⟩ := DataW.trod_int Try.underlying3 hf; cases hm; exact .v _⟩
theorem list3 {α : Type} {l : List α} (h : l.length = 3) : ∃ x y z, l = [x, y, z] := by
  match l, h with
  | [x, y, z], _ => exact ⟨x, y, z, rfl⟩
theorem list2 {α : Type} {l : List α} (h : l.length = 2) : ∃ x y, l = [x, y] := by
  match l, h with
  | [x, y], _ => exact ⟨x, y, rfl⟩
theorem okWide_arr {t e : TypeId} {n : Nat} (ht : Try.prog.underlying t = some (.array n e)) (hval : Value.okWide Try.prog W r base t v) : ∃ cs, v = .agg cs := by
  simp only [Value.okWide, ht, Cell.okWide] at hval
  cases v <;> simp_all [Cell.ok]
theorem open_51 (hval : Value.okWide Try.prog W r base 51 v) (h : DataW.Trod enc Try.prog W 0 (fun _ => true) true 51 v d p) :
    ∃ (x y z : Int), (0 ≤ x ∧ x ≤ 65535) ∧ (0 ≤ y ∧ y ≤ 65535) ∧ (0 ≤ z ∧ z ≤ 65535) ∧ Den [] (In W) W (.agg [.v (.int .u16 x), .v (.int .u16 y), .v (.int .u16 z)]) v := by
  obtain ⟨cs, rfl⟩ := okWide_arr Try.underlying51 hval
  obtain ⟨x, hx⟩ := open_agg opens51 h
  obtain ⟨a, b, c, e⟩ := list3 x.property
  have e2 : c51 x = [.v (.int .u16 a.val), .v (.int .u16 b.val), .v (.int .u16 c.val)] := by
    show (x.val.map c50).flatten = _
    rw [e]; rfl
  rw [e2] at hx
  exact ⟨_, _, _, a.property, b.property, c.property, hx⟩
theorem open_53 (hval : Value.okWide Try.prog W r base 53 v) (h : DataW.Trod enc Try.prog W 0 (fun _ => true) true 53 v d p) :
    ∃ (x y : Int), Den [] (In W) W (.agg [AV.i x, AV.i y]) v := by
  obtain ⟨cs, rfl⟩ := okWide_arr Try.underlying53 hval
  obtain ⟨x, hx⟩ := open_agg opens53 h
  obtain ⟨a, b, e⟩ := list2 x.property
  have e2 : c53 x = [AV.i a.val, AV.i b.val] := by
    show (x.val.map c2).flatten = _
    rw [e]; rfl
  rw [e2] at hx
  exact ⟨_, _, hx⟩
theorem open_58 (hval : Value.okWide Try.prog W r base 58 v) (h : DataW.Trod enc Try.prog W 0 (fun _ => true) true 58 v d p) :
    ∃ (x y : Int), Den [] (In W) W (.agg [AV.i x, AV.i y]) v := by
  obtain ⟨cs, rfl⟩ := okWide_arr Try.underlying58 hval
  obtain ⟨x, hx⟩ := open_agg opens58 h
  obtain ⟨a, b, e⟩ := list2 x.property
  have e2 : c58 x = [AV.i a.val, AV.i b.val] := by
    show (x.val.map c3).flatten = _
    rw [e]; rfl
  rw [e2] at hx
  exact ⟨_, _, hx⟩
theorem open_31 (hval : Value.okWide Try.prog W r base 31 v) (h : DataW.Trod enc Try.prog W 0 (fun _ => true) true 31 v d p) :
    ∃ (x y z : Int), Den [] (In W) W (.agg [AV.i x, AV.i y, AV.i z]) v := by
  obtain ⟨cs, rfl⟩ := okWide_arr Try.underlying31 hval
  obtain ⟨x, hx⟩ := open_agg opens31 h
  obtain ⟨a, b, c, e⟩ := list3 x.property
  have e2 : c31 x = [AV.i a.val, AV.i b.val, AV.i c.val] := by
    show (x.val.map c2).flatten = _
    rw [e]; rfl
  rw [e2] at hx
  exact ⟨_, _, _, hx⟩
theorem open_27 (hval : Value.okWide Try.prog W r base 27 v) (h : DataW.Trod enc Try.prog W 0 (fun _ => true) true 27 v d p) :
    ∃ (rows : Tb) (per tot wth balls : Int) (l m : List Stp), Den [] (In W) W (.agg [rowsAV rows, AV.i per, AV.i tot, AV.i wth, AV.i balls, stopsAV l, stopsAV m]) v := by
  obtain ⟨cs, rfl, hs⟩ := okWide_struct Try.underlying27 hval
  obtain ⟨x, hx⟩ := open_agg opens27 h
  have e : c27 x = [rowsAV (tbOf x.1), AV.i x.2.1.val, AV.i x.2.2.1.val, AV.i x.2.2.2.1.val, AV.i x.2.2.2.2.1.val, stopsAV (x.2.2.2.2.2.1.map stOf), stopsAV (x.2.2.2.2.2.2.map stOf)] := by
    show c24 x.1 ++ (c3 x.2.1 ++ (c3 x.2.2.1 ++ (c3 x.2.2.2.1 ++ (c2 x.2.2.2.2.1 ++ (c25 x.2.2.2.2.2.1 ++ (c25 x.2.2.2.2.2.2 ++ [])))))) = _
    rw [c24_eq, c25_eq, c25_eq]; rfl
  rw [e] at hx
  exact ⟨_, _, _, _, _, _, _, hx⟩
theorem open_4 (hval : Value.okWide Try.prog W r base 4 v) (h : DataW.Trod enc Try.prog W 0 (fun _ => true) true 4 v d p) : ∃ n : Bool, Den [] (In W) W (.v (.bool n)) v := by
  obtain ⟨n, rfl⟩ := okWide_bool Try.underlying4 hval
  exact ⟨n, .v _⟩
end
end Go.Proofs.Ytaoondlakhocnaa
