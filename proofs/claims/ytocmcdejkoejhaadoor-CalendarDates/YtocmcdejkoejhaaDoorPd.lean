/-
  Numbers of a date as texts: the contracts.
-/
import Derived.Test.YtocmcdejkoejhaaDoorPc
namespace Go.Proofs.YtocmcdejkoejhaaDoor
open Go Go.Am
set_option maxRecDepth 100000
theorem pad_of {f : FuncId} {w n : Int} {l : List UInt8} {fa : FnA} {c : Code} (h : chkP f w n l = true) (hp : sig.prim f = none) (hf : sig.fns f = some fa) (hb : fa.fn.body = some c) (hz : sig.fz f = true) (lim : Nat) (H : Heap) :
    ACall sig lim f [AV.i n, AV.i w] H fun r H' => r = .v (.string (bs l)) ∧ H' = H := by
  obtain ⟨X, hx⟩ := chk_ok h
  refine ⟨81, .v (.string (bs l)), H, ?_, rfl, rfl⟩
  show acall sig (80 + 1) lim f [AV.i n, AV.i w] H = _
  rw [acall_fz (n := 80) hp hf hb hz lim [AV.i n, AV.i w] H rfl]
  show (acall sig 81 0 f [AV.i n, AV.i w] []).map _ = _
  rw [hx]
  rfl
theorem at300 {p : Nat → Bool} (h : (List.range 300).all p = true) {y : Int} (hy : 1900 ≤ y ∧ y ≤ 2199) : ∃ k : Nat, y = 1900 + (k : Int) ∧ p k = true :=
  ⟨(y - 1900).toNat, by omega, List.all_eq_true.mp h _ (List.mem_range.mpr (by omega))⟩
theorem at30 {p : Nat → Bool} (h : (List.range 30).all p = true) (a : Int) {y : Int} (hy : a ≤ y ∧ y ≤ a + 29) : ∃ k : Nat, y = a + (k : Int) ∧ p k = true :=
  ⟨(y - a).toNat, by omega, List.all_eq_true.mp h _ (List.mem_range.mpr (by omega))⟩
theorem at32 {p : Nat → Bool} (h : (List.range 32).all p = true) {y : Int} (hy : 0 ≤ y ∧ y ≤ 31) : ∃ k : Nat, y = (k : Int) ∧ p k = true :=
  ⟨y.toNat, by omega, List.all_eq_true.mp h _ (List.mem_range.mpr (by omega))⟩
theorem pad4_ok (lim : Nat) (H : Heap) {y : Int} (hy : 1900 ≤ y ∧ y ≤ 2199) : ACall sig lim 35 [AV.i y, AV.i 4] H fun r H' => r = .v (.string (bs (p4l y))) ∧ H' = H := by
  obtain ⟨k, rfl, h⟩ := at300 c35_4 hy
  exact pad_of h rfl rfl rfl rfl lim H
theorem pad2_ok (lim : Nat) (H : Heap) {y : Int} (hy : 0 ≤ y ∧ y ≤ 31) : ACall sig lim 35 [AV.i y, AV.i 2] H fun r H' => r = .v (.string (bs (p2l y))) ∧ H' = H := by
  obtain ⟨k, rfl, h⟩ := at32 c35_2 hy
  exact pad_of h rfl rfl rfl rfl lim H
theorem rpad4_ok (lim : Nat) (H : Heap) {y : Int} (hy : 1900 ≤ y ∧ y ≤ 2199) : ACall sig lim 37 [AV.i y, AV.i 4] H fun r H' => r = .v (.string (bs (p4l y))) ∧ H' = H := by
  have hc : (1900 ≤ y ∧ y ≤ 1929) ∨ (1930 ≤ y ∧ y ≤ 1959) ∨ (1960 ≤ y ∧ y ≤ 1989) ∨ (1990 ≤ y ∧ y ≤ 2019) ∨ (2020 ≤ y ∧ y ≤ 2049) ∨ (2050 ≤ y ∧ y ≤ 2079) ∨ (2080 ≤ y ∧ y ≤ 2109) ∨ (2110 ≤ y ∧ y ≤ 2139) ∨ (2140 ≤ y ∧ y ≤ 2169) ∨ (2170 ≤ y ∧ y ≤ 2199) := by omega
  rcases hc with hc | hc | hc | hc | hc | hc | hc | hc | hc | hc
  · obtain ⟨k, rfl, h⟩ := at30 c37_4_0 1900 hc
    exact pad_of h rfl rfl rfl rfl lim H
  · obtain ⟨k, rfl, h⟩ := at30 c37_4_1 1930 hc
    exact pad_of h rfl rfl rfl rfl lim H
  · obtain ⟨k, rfl, h⟩ := at30 c37_4_2 1960 hc
    exact pad_of h rfl rfl rfl rfl lim H
  · obtain ⟨k, rfl, h⟩ := at30 c37_4_3 1990 hc
    exact pad_of h rfl rfl rfl rfl lim H
  · obtain ⟨k, rfl, h⟩ := at30 c37_4_4 2020 hc
    exact pad_of h rfl rfl rfl rfl lim H
  · obtain ⟨k, rfl, h⟩ := at30 c37_4_5 2050 hc
    exact pad_of h rfl rfl rfl rfl lim H
  · obtain ⟨k, rfl, h⟩ := at30 c37_4_6 2080 hc
    exact pad_of h rfl rfl rfl rfl lim H
  · obtain ⟨k, rfl, h⟩ := at30 c37_4_7 2110 hc
    exact pad_of h rfl rfl rfl rfl lim H
  · obtain ⟨k, rfl, h⟩ := at30 c37_4_8 2140 hc
    exact pad_of h rfl rfl rfl rfl lim H
  · obtain ⟨k, rfl, h⟩ := at30 c37_4_9 2170 hc
    exact pad_of h rfl rfl rfl rfl lim H
theorem rpad2_ok (lim : Nat) (H : Heap) {y : Int} (hy : 0 ≤ y ∧ y ≤ 31) : ACall sig lim 37 [AV.i y, AV.i 2] H fun r H' => r = .v (.string (bs (p2l y))) ∧ H' = H := by
  obtain ⟨k, rfl, h⟩ := at32 c37_2 hy
  exact pad_of h rfl rfl rfl rfl lim H
end Go.Proofs.YtocmcdejkoejhaaDoor
