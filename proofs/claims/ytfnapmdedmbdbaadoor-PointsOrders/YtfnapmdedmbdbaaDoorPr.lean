/-
  The callees that the abstract machine takes by contract: math/bits.Add64, Mul64, strconv.FormatInt, strings.Repeat, strings.CutPrefix.
-/
import Derived.Test.YtfnapmdedmbdbaaDoorAmY
import Derived.Test.YtfnapmdedmbdbaaDoorSh
import Derived.KernelRfl
import Derived.Laws.Externs
set_option linter.unusedVariables false
namespace Go.Proofs.YtfnapmdedmbdbaaDoor
open Go Go.Am Go.RowKit Go.Sort
instance dnF : Dn := ⟨False⟩
def add64V : List AV → Heap → Option AV
  | [.v (.int .u64 x), .v (.int .u64 y), .v (.int .u64 c)], _ => if 0 ≤ x ∧ 0 ≤ y ∧ 0 ≤ c ∧ c ≤ 1 then some (.tup [.v (.int .u64 ((x + y + c) % 18446744073709551616)), .v (.int .u64 ((x + y + c) / 18446744073709551616))]) else none
  | _, _ => none
def mul64V : List AV → Heap → Option AV
  | [.v (.int .u64 x), .v (.int .u64 y)], _ => if (0 ≤ x ∧ x ≤ 18446744073709551615) ∧ 0 ≤ y ∧ y ≤ 18446744073709551615 then some (.tup [.v (.int .u64 (x * y / 18446744073709551616)), .v (.int .u64 (x * y % 18446744073709551616))]) else none
  | _, _ => none
def fmtV : List AV → Heap → Option AV
  | [.v (.int .i64 n), .v (.int .i64 k)], _ => if k = 10 ∧ -9223372036854775808 ≤ n ∧ n ≤ 9223372036854775807 then some (.v (.string ⟨(Lib.itoa n).toArray⟩)) else none
  | _, _ => none
def repV : List AV → Heap → Option AV
  | [.v (.string s), .v (.int .i64 k)], _ => if 0 ≤ k ∧ k ≤ 1000000 ∧ s.size ≤ 1000 then some (.v (.string ⟨(Lib.repeatL s.data.toList k.toNat).toArray⟩)) else none
  | _, _ => none
def cutV : List AV → Heap → Option AV
  | [.v (.string s), .v (.string p)], _ => some (.tup [.v (.string ⟨(Lib.trimPrefix s.data.toList p.data.toList).toArray⟩), .v (.bool (Lib.hasPrefix s.data.toList p.data.toList))])
  | _, _ => none
def primF : FuncId → Option (List AV → Heap → Option AV)
  | 61 => some add64V
  | 50 => some mul64V
  | 55 => some fmtV
  | 57 => some repV
  | 56 => some cutV
  | _ => none
theorem one_arg {φ : Phi} {I : Nat → Prop} {w : World} {a : Value} {cs : Array Value} (h : DL φ I w [.v a] cs) : cs = #[a] := by
  obtain ⟨l⟩ := cs
  have hl : l.length = 1 := by simpa using h.1
  match l, hl, h with
  | [x], _, h =>
    have h0 := den_v (h.2 0 _ x rfl rfl)
    rw [h0]
theorem two_args {φ : Phi} {I : Nat → Prop} {w : World} {a b : Value} {cs : Array Value} (h : DL φ I w [.v a, .v b] cs) : cs = #[a, b] := by
  obtain ⟨l⟩ := cs
  have hl : l.length = 2 := by simpa using h.1
  match l, hl, h with
  | [x, y], _, h =>
    have h0 := den_v (h.2 0 _ x rfl rfl)
    have h1 := den_v (h.2 1 _ y rfl rfl)
    rw [h0, h1]
theorem three_args {φ : Phi} {I : Nat → Prop} {w : World} {a b c : Value} {cs : Array Value} (h : DL φ I w [.v a, .v b, .v c] cs) : cs = #[a, b, c] := by
  obtain ⟨l⟩ := cs
  have hl : l.length = 3 := by simpa using h.1
  match l, hl, h with
  | [x, y, z], _, h =>
    have h0 := den_v (h.2 0 _ x rfl rfl)
    have h1 := den_v (h.2 1 _ y rfl rfl)
    have h2 := den_v (h.2 2 _ z rfl rfl)
    rw [h0, h1, h2]
theorem named55 : Named Tryd.prog 55 := ⟨Tryd.f55, Tryd.func55, by kernel_rfl, by kernel_rfl⟩
theorem named50 : Named Tryd.prog 50 := ⟨Tryd.f50, Tryd.func50, by kernel_rfl, by kernel_rfl⟩
theorem named57 : Named Tryd.prog 57 := ⟨Tryd.f57, Tryd.func57, by kernel_rfl, by kernel_rfl⟩
theorem named56 : Named Tryd.prog 56 := ⟨Tryd.f56, Tryd.func56, by kernel_rfl, by kernel_rfl⟩
/-- The model's own entries for the sums and differences with a carry. -/
def addE : Array Value → Sem Value := fun args => do
  let (x, y, c) ← Extern.MathBitsCarry.three "Add64" args
  pure (Extern.MathBitsCarry.pair ((x + y + c) % Extern.MathBitsCarry.m64) ((x + y + c) / Extern.MathBitsCarry.m64))
theorem run_addE {P : Program} (x y c : Nat) (hc : c ≤ 1) (w : World) :
    (addE #[.int .u64 x, .int .u64 y, .int .u64 c]).run P w = .ok (.tuple #[.int .u64 (((x + y + c) % 18446744073709551616 : Nat) : Int), .int .u64 (((x + y + c) / 18446744073709551616 : Nat) : Int)]) w := by
  have : c = 0 ∨ c = 1 := by omega
  rcases this with rfl | rfl <;> rfl
theorem run61 (x y c : Nat) (hc : c ≤ 1) (w : World) :
    (callFunc 61 #[.int .u64 x, .int .u64 y, .int .u64 c]).run Tryd.prog w = .ok (.value (.tuple #[.int .u64 (((x + y + c) % 18446744073709551616 : Nat) : Int), .int .u64 (((x + y + c) / 18446744073709551616 : Nat) : Int)])) w := by
  rw [run_callFunc_extern Tryd.func61 (by kernel_rfl) (by kernel_rfl) (by kernel_rfl) (e := addE) (by kernel_rfl), run_addE x y c hc]
  rfl
theorem below_gr (w : World) (k : Nat) (os : Array Obj) : Bel w.heap.size w (grow (w.drewN k) os) :=
  ⟨rfl, ⟨rfl, fun _ => Nat.le_add_right _ _⟩, rfl, by show w.heap.size ≤ (w.heap ++ os).size; simp, fun j hj => by show (w.heap ++ os)[j]? = _; rw [Array.getElem?_append_left hj]⟩
theorem den_two {φ : Phi} {I : Nat → Prop} {w : World} (a b : Value) : Den φ I w (.tup [.v a, .v b]) (.tuple #[a, b]) :=
  .tup _ _ rfl (fun j x y hx hy => (DL.vs (φ := φ) (I := I) (w := w) [_, _]).2 j x y hx hy)
theorem nat_of {x : Int} (h : 0 ≤ x) : ∃ n : Nat, x = (n : Int) := ⟨x.toNat, by omega⟩
theorem prim_ok : ∀ f p, primF f = some p → ∀ args H r, p args H = some r → ∀ (lim : Nat) (φ : Phi) (I : Nat → Prop) (w : World) (cs : Array Value), Tb w → Rel lim φ I w H → DL φ I w args cs → CallW Tryd.prog f cs w (PurePost φ I w lim H r) := by
  intro f p h args H r hr lim φ I w cs hT hR hD
  unfold primF at h
  split at h
  · cases h
    unfold add64V at hr
    split at hr
    · rename_i x y c _
      cases three_args hD
      split at hr
      · rename_i hk
        obtain ⟨hx, hy, hc, hc1⟩ := hk
        obtain ⟨x, rfl⟩ := nat_of hx
        obtain ⟨y, rfl⟩ := nat_of hy
        obtain ⟨c, rfl⟩ := nat_of hc
        cases hr
        exact .inr ⟨_, fun w' => run61 x y c (by omega) w', _, I, rfl, den_two _ _, fun _ h => h, Bel.refl _ _, hR⟩
      · cases hr
    · cases hr
  · cases h
    unfold mul64V at hr
    split at hr
    · rename_i x y _
      cases two_args hD
      split at hr
      · rename_i hk
        obtain ⟨⟨hx, hx1⟩, hy, hy1⟩ := hk
        obtain ⟨x, rfl⟩ := nat_of hx
        obtain ⟨y, rfl⟩ := nat_of hy
        cases hr
        refine .inl ⟨named50, (Tryd.bits_Mul64 x y (by omega) (by omega) w).mono ?_⟩
        rintro e w' ⟨rfl, rfl⟩
        exact ⟨_, I, rfl, den_two _ _, fun _ h => h, Bel.refl _ _, hR⟩
      · cases hr
    · cases hr
  · cases h
    unfold fmtV at hr
    split at hr
    · rename_i n k
      cases two_args hD
      split at hr
      · rename_i hk
        obtain ⟨rfl, h0, h1⟩ := hk
        cases hr
        refine .inl ⟨named55, (Tryd.strconv_FormatInt_10 n h0 h1 w hT).mono ?_⟩
        rintro e w' ⟨rfl, k, os, rfl⟩
        exact ⟨_, I, rfl, .v _, fun _ h => h, below_gr w k os, hR.down (below_gr w k os)⟩
      · cases hr
    · cases hr
  · cases h
    unfold repV at hr
    split at hr
    · rename_i s k
      cases two_args hD
      split at hr
      · rename_i hk
        obtain ⟨h0, h1, h2⟩ := hk
        obtain ⟨k, rfl⟩ := nat_of h0
        cases hr
        refine .inl ⟨named57, (Tryd.strings_Repeat s k w (by omega) (by
          have : s.size * k ≤ 1000 * 1000000 := Nat.mul_le_mul h2 (by omega)
          omega)).mono ?_⟩
        rintro e w' ⟨rfl, hb⟩
        have hb' : Bel w.heap.size w w' := ⟨hb.os, ⟨hb.tape, fun h => False.elim h⟩, hb.output, hb.size, hb.block⟩
        exact ⟨_, I, rfl, .v _, fun _ h => h, hb', hR.down hb'⟩
      · cases hr
    · cases hr
  · cases h
    unfold cutV at hr
    split at hr
    · rename_i s p
      cases two_args hD
      cases hr
      refine .inl ⟨named56, (Tryd.strings_CutPrefix s p w).mono ?_⟩
      rintro e w' ⟨rfl, rfl⟩
      exact ⟨_, I, rfl, den_two _ _, fun _ h => h, Bel.refl _ _, hR⟩
    · cases hr
  · cases h
end Go.Proofs.YtfnapmdedmbdbaaDoor
