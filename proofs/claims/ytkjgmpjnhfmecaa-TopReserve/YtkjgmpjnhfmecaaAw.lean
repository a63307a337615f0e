/-
  Closed calls, by evaluation: seasonAwake, and the round robins of 2 to 6 teams.
-/
import Derived.Test.YtkjgmpjnhfmecaaSig
import Derived.KernelRfl
set_option linter.unusedVariables false
set_option maxRecDepth 100000
namespace Go.Proofs.Ytkjgmpjnhfmecaa
open Go Go.Am
theorem awake50 (lim : Nat) (H : Heap) : acall sig 200 lim 4 [] H = some (.v (.bool true), H) := by kernel_rfl
def rob2 : List Fx := [⟨0, 0, 1⟩]
theorem rounds2 (lim : Nat) (a b c d e f g : AV) : acall sig 200 lim 6 [AV.i 2, .v (.bool false)] [some [a, b, c], some [d, e, f, g]] = some (.tup [fxsAV rob2, AV.i 0], [some [a, b, c], some [d, e, f, g]]) := by kernel_rfl
theorem rob2_ok : ∀ i, i < rob2.length → (0 ≤ (gt rob2 i).h ∧ (gt rob2 i).h < (2 : Int)) ∧ (0 ≤ (gt rob2 i).a ∧ (gt rob2 i).a < (2 : Int)) ∧ (gt rob2 i).h ≠ (gt rob2 i).a := by decide
def rob3 : List Fx := [⟨0, 1, 2⟩, ⟨1, 2, 0⟩, ⟨2, 0, 1⟩]
theorem rounds3 (lim : Nat) (a b c d e f g : AV) : acall sig 200 lim 6 [AV.i 3, .v (.bool false)] [some [a, b, c], some [d, e, f, g]] = some (.tup [fxsAV rob3, AV.i 0], [some [a, b, c], some [d, e, f, g]]) := by kernel_rfl
theorem rob3_ok : ∀ i, i < rob3.length → (0 ≤ (gt rob3 i).h ∧ (gt rob3 i).h < (3 : Int)) ∧ (0 ≤ (gt rob3 i).a ∧ (gt rob3 i).a < (3 : Int)) ∧ (gt rob3 i).h ≠ (gt rob3 i).a := by decide
def rob4 : List Fx := [⟨0, 0, 3⟩, ⟨0, 1, 2⟩, ⟨1, 3, 1⟩, ⟨1, 2, 0⟩, ⟨2, 2, 3⟩, ⟨2, 0, 1⟩]
theorem rounds4 (lim : Nat) (a b c d e f g : AV) : acall sig 200 lim 6 [AV.i 4, .v (.bool false)] [some [a, b, c], some [d, e, f, g]] = some (.tup [fxsAV rob4, AV.i 0], [some [a, b, c], some [d, e, f, g]]) := by kernel_rfl
theorem rob4_ok : ∀ i, i < rob4.length → (0 ≤ (gt rob4 i).h ∧ (gt rob4 i).h < (4 : Int)) ∧ (0 ≤ (gt rob4 i).a ∧ (gt rob4 i).a < (4 : Int)) ∧ (gt rob4 i).h ≠ (gt rob4 i).a := by decide
def rob5 : List Fx := [⟨0, 1, 4⟩, ⟨0, 3, 2⟩, ⟨1, 2, 0⟩, ⟨1, 4, 3⟩, ⟨2, 3, 1⟩, ⟨2, 0, 4⟩, ⟨3, 4, 2⟩, ⟨3, 1, 0⟩, ⟨4, 0, 3⟩, ⟨4, 2, 1⟩]
theorem rounds5 (lim : Nat) (a b c d e f g : AV) : acall sig 200 lim 6 [AV.i 5, .v (.bool false)] [some [a, b, c], some [d, e, f, g]] = some (.tup [fxsAV rob5, AV.i 0], [some [a, b, c], some [d, e, f, g]]) := by kernel_rfl
theorem rob5_ok : ∀ i, i < rob5.length → (0 ≤ (gt rob5 i).h ∧ (gt rob5 i).h < (5 : Int)) ∧ (0 ≤ (gt rob5 i).a ∧ (gt rob5 i).a < (5 : Int)) ∧ (gt rob5 i).h ≠ (gt rob5 i).a := by decide
def rob6 : List Fx := [⟨0, 0, 5⟩, ⟨0, 1, 4⟩, ⟨0, 3, 2⟩, ⟨1, 5, 1⟩, ⟨1, 2, 0⟩, ⟨1, 4, 3⟩, ⟨2, 2, 5⟩, ⟨2, 3, 1⟩, ⟨2, 0, 4⟩, ⟨3, 5, 3⟩, ⟨3, 4, 2⟩, ⟨3, 1, 0⟩, ⟨4, 4, 5⟩, ⟨4, 0, 3⟩, ⟨4, 2, 1⟩]
theorem rounds6 (lim : Nat) (a b c d e f g : AV) : acall sig 200 lim 6 [AV.i 6, .v (.bool false)] [some [a, b, c], some [d, e, f, g]] = some (.tup [fxsAV rob6, AV.i 0], [some [a, b, c], some [d, e, f, g]]) := by kernel_rfl
theorem rob6_ok : ∀ i, i < rob6.length → (0 ≤ (gt rob6 i).h ∧ (gt rob6 i).h < (6 : Int)) ∧ (0 ≤ (gt rob6 i).a ∧ (gt rob6 i).a < (6 : Int)) ∧ (gt rob6 i).h ≠ (gt rob6 i).a := by decide
theorem rounds_all (n : Nat) (h : 2 ≤ n ∧ n ≤ 6) : ∃ L : List Fx, (∀ (lim : Nat) (a b c d e f g : AV), acall sig 200 lim 6 [AV.i (n : Nat), .v (.bool false)] [some [a, b, c], some [d, e, f, g]] = some (.tup [fxsAV L, AV.i 0], [some [a, b, c], some [d, e, f, g]])) ∧ 0 < L.length ∧ L.length ≤ 15 ∧
    ∀ i, i < L.length → (0 ≤ (gt L i).h ∧ (gt L i).h < n) ∧ (0 ≤ (gt L i).a ∧ (gt L i).a < n) ∧ (gt L i).h ≠ (gt L i).a := by
  obtain rfl | rfl | rfl | rfl | rfl : n = 2 ∨ n = 3 ∨ n = 4 ∨ n = 5 ∨ n = 6 := by omega
  · exact ⟨rob2, rounds2, by decide, by decide, rob2_ok⟩
  · exact ⟨rob3, rounds3, by decide, by decide, rob3_ok⟩
  · exact ⟨rob4, rounds4, by decide, by decide, rob4_ok⟩
  · exact ⟨rob5, rounds5, by decide, by decide, rob5_ok⟩
  · exact ⟨rob6, rounds6, by decide, by decide, rob6_ok⟩
end Go.Proofs.Ytkjgmpjnhfmecaa
