/-
  More on tables in memory: memory grows, other blocks are written, the table is read whole.
-/
import Derived.Test.YtdkhgpdojjdadaaWI
import Derived.Test.YtdkhgpdojjdadaaWG
import Derived.Test.YtdkhgpdojjdadaaWD
set_option linter.unusedVariables false
namespace Go.Proofs.Ytdkhgpdojjdadaa
open Go Go.Am

theorem Tab.grow {lm : Nat} {H : Heap} {b : Nat} {bs : Nat → Nat} {l : Tb} (T : Tab lm H b bs l) (Y : Heap) : Tab lm (H ++ Y) b bs l := by
  obtain ⟨h1, h2, h3, h4, h5, h6⟩ := T
  exact ⟨by rw [hget_low _ _ _ (hget_lt h1), h1], fun i hi => by rw [hget_low _ _ _ (hget_lt (h2 i hi)), h2 i hi], h3, h4, h5, h6⟩
theorem Tab.other {lm : Nat} {H : Heap} {b : Nat} {bs : Nat → Nat} {l : Tb} (T : Tab lm H b bs l) (q : Nat) (x : Option Blk) (hq : q < lm) : Tab lm (hset H q x) b bs l := by
  obtain ⟨h1, h2, h3, h4, h5, h6⟩ := T
  exact ⟨by rw [hget_set _ _ _ _ (by omega), h1], fun i hi => by rw [hget_set _ _ _ _ (by have := h6 i hi; omega), h2 i hi], h3, h4, h5, h6⟩
theorem Tab.frz {lm : Nat} {H : Heap} {b : Nat} {bs : Nat → Nat} {l : Tb} (T : Tab lm H b bs l) (base d : Nat) (hb : base ≤ lm) : frz H base (d + 3) (.own 1 b 0 l.length) = rowsAV l := by
  obtain ⟨h1, h2, h3, h4, h5, h6⟩ := T
  rw [frz_own _ _ _ _ _ _ _ (by omega), h1]
  simp only [List.drop_zero, List.map_map]
  congr 1
  apply List.ext_getElem (by simp)
  intro i hi _
  have hi' : i < l.length := by simpa using hi
  simp only [List.getElem_map, List.getElem_range, Function.comp]
  rw [frz_own _ _ _ _ _ _ _ (by have := h6 i hi'; omega), h2 i hi']
  simp only [List.drop_zero, List.map_map]
  rw [gt_eq l i hi']
  rfl
theorem bld24_0 : buildV Try.prog 24 [] = some (.agg [.v (.slice none 0 0)]) := by
  simp only [buildV, ty24, places, ty22, fillA]; rfl
theorem bld24 (z b o n : Nat) : buildV Try.prog 24 [(0, .own z b o n)] = some (.agg [.own z b o n]) := by
  simp only [buildV, ty24, places, ty22, fillA]; rfl
theorem pass_dec {ch c2 : Bool} {l2 l4 : Tb} (h : ch = true) (hy : c2 = true → tsum l2 < tsum l4) (hb2 : tsum l2 ≤ 9100000) (hb : tsum l4 ≤ 9100000) :
    (if c2 = true then (9100001 - tsum l4).toNat else 0) < (if ch = true then (9100001 - tsum l2).toNat else 0) := by
  rw [if_pos h]
  cases c2 with
  | true => have := hy rfl; simp only [if_true]; omega
  | false => simp only [Bool.false_eq_true, if_false]; omega
end Go.Proofs.Ytdkhgpdojjdadaa
