/-
  Memory that is handed back: what was there before is unchanged. What a plan in memory is.
-/
import Derived.Test.YtmkalakojfpfgaaQ8
set_option linter.unusedVariables false
namespace Go.Proofs.Ytmkalakojfpfgaa
open Go Go.Am
/-- What was in memory is as it was. -/
structure Old (H H' : Heap) : Prop where
  len : H.length ≤ H'.length
  old : ∀ b, b < H.length → hget H' b = hget H b
theorem Old.refl (H : Heap) : Old H H := ⟨Nat.le_refl _, fun _ _ => rfl⟩
theorem Old.trans {H H1 H2 : Heap} (a : Old H H1) (b : Old H1 H2) : Old H H2 := ⟨Nat.le_trans a.len b.len, fun c hc => (b.old c (Nat.lt_of_lt_of_le hc a.len)).trans (a.old c hc)⟩
theorem Old.new {H H1 H2 : Heap} {k : Blk} (a : Old H H1) (n : MNew H1 H2 k) : Old H H2 :=
  ⟨by have := n.len; have := a.len; omega, fun c hc => (n.old c (Nat.lt_of_lt_of_le hc a.len)).trans (a.old c hc)⟩
theorem Old.wrote {H H1 H2 : Heap} {b : Nat} {k : Blk} (a : Old H H1) (n : MWrote H1 b H2 k) (hb : H.length ≤ b) : Old H H2 :=
  ⟨by have := n.len; have := a.len; omega, fun c hc => (n.old c (by omega)).trans (a.old c hc)⟩
theorem Old.grew {H H1 H2 : Heap} {b : Nat} {k : Blk} (a : Old H H1) (n : MGrew H1 b H2 k) (hb : H.length ≤ b) : Old H H2 :=
  ⟨by have := n.len; have := a.len; omega, fun c hc => (n.old c (by omega) (Nat.lt_of_lt_of_le hc a.len)).trans (a.old c hc)⟩
/-- What the reference's Best answers, and where. -/
inductive PlanO (rows : Tb) (q la0 : Int) (H : Heap) : AV → Heap → Prop
  | bad {H' : Heap} (h : checkS rows q la0 ≠ 0) (od : Old H H') : PlanO rows q la0 H (.tup [planN, .i (checkS rows q la0)]) H'
  | none {H' : Heap} (h : checkS rows q la0 = 0) (hp : potB rows q (zeroC rows) la0 = -1) (od : Old H H') : PlanO rows q la0 H (.tup [planN, .i 13]) H'
  | plan {H' : Heap} (h : checkS rows q la0 = 0) (hp : potB rows q (zeroC rows) la0 ≠ -1) {w K c : List Int} {la : Int} {bw bk : Nat} (hK : FullT rows q K) (hw : Reach rows q la0 w c la) (hl : w.length = rows.length)
      (hbw : H.length ≤ bw) (hbk : H.length ≤ bk) (hne : bw ≠ bk) (qw : hget H' bw = some (w.map AV.i)) (qk : hget H' bk = some (K.map AV.i)) (od : Old H H') :
      PlanO rows q la0 H (.tup [.agg [.own 1 bw 0 w.length, .i (potB rows q (zeroC rows) la0), .own 1 bk 0 K.length], .i 0]) H'
theorem planO_parts {rows : Tb} {q la0 : Int} {H H' : Heap} {r : AV} (hp : PlanO rows q la0 H r H') : ∃ x v y e, r = .tup [.agg [x, .i v, y], .i e] ∧ storable x = true ∧ storable y = true ∧ Old H H' ∧
    (e ≠ 0 → x = nilI ∧ y = nilI ∧ ∀ l, (costS rows q la0 l).2 ≠ 0) ∧
    (e = 0 → ∃ w K c la bw bk, x = .own 1 bw 0 w.length ∧ y = .own 1 bk 0 K.length ∧ v = potB rows q (zeroC rows) la0 ∧ FullT rows q K ∧ Reach rows q la0 w c la ∧ w.length = rows.length ∧ checkS rows q la0 = 0 ∧ potB rows q (zeroC rows) la0 ≠ -1 ∧
      H.length ≤ bw ∧ H.length ≤ bk ∧ bw ≠ bk ∧ hget H' bw = some (w.map AV.i) ∧ hget H' bk = some (K.map AV.i)) := by
  cases hp with
  | bad h od => exact ⟨_, _, _, _, rfl, rfl, rfl, od, fun _ => ⟨rfl, rfl, fun l => by rw [costS, if_pos h]; exact h⟩, fun h0 => absurd h0 h⟩
  | none h hp od =>
    obtain ⟨K, hK⟩ := full_ex (good_of h)
    exact ⟨_, _, _, _, rfl, rfl, rfl, od, fun _ => ⟨rfl, rfl, none_cost h hp hK⟩, fun h0 => by cases h0⟩
  | plan h hp hK hw hl hbw hbk hne qw qk od => exact ⟨_, _, _, _, rfl, rfl, rfl, od, fun h0 => absurd rfl h0, fun _ => ⟨_, _, _, _, _, _, rfl, rfl, rfl, hK, hw, hl, h, hp, hbw, hbk, hne, qw, qk⟩⟩
/-- An error of the cost is the error of Accept. -/
theorem acc_err {rows : Tb} {q la0 v : Int} {w P : List Int} (h : (costS rows q la0 w).2 ≠ 0) : acceptS rows q la0 w v P ≠ 0 := by rw [acc_cost h]; exact h
/-- The rest of a list in memory. -/
theorem frz_tail {H : Heap} {d b n : Nat} {l : List Int} (hk : hget H b = some (l.map AV.i)) (hn : n = (l.drop 1).length) : frz H 0 (d + 2) (.own 1 b 1 n) = intsAV (l.drop 1) := by
  rw [frz_own (by omega) hk, ← List.map_drop, frz_ints, hn]
theorem bld37w (n : Nat) (l : List AV) : buildV Try.prog 37 [(0, .sl n l)] = some (.agg [.sl n l, AV.i 0, nilI]) := by
  simp only [buildV, ty37, places, ty25, ty35, ty2]
  rfl
attribute [go_sem] bld37w
theorem acc_chk {rows : Tb} {q la0 v : Int} {w P : List Int} (h : checkS rows q la0 ≠ 0) : acceptS rows q la0 w v P = checkS rows q la0 := by
  have e : costS rows q la0 w = (0, checkS rows q la0) := by rw [costS, if_pos h]
  rw [acc_cost (by rw [e]; exact h), e]
theorem slice35o (b n : Nat) (h : 1 ≤ n) : sliceV Try.prog 35 (.own 1 b 0 n) (some (AV.i 1)) none = some (.own 1 b 1 (n - 1)) := by
  simp only [sliceV, tk35, ty2, bound]
  rw [if_pos ⟨trivial, by omega, by omega, by omega⟩]
  rfl
theorem set_max {K : List Int} {u : Nat} {v m : Int} (h : ∀ i, gt K i ≤ m) (hv : v ≤ m) : ∀ i, gt (K.set u v) i ≤ m := by
  intro i
  by_cases hu : u < K.length
  · rw [gt_set _ _ _ _ hu]
    split
    · exact hv
    · exact h i
  · rw [List.set_eq_of_length_le (by omega)]; exact h i
theorem drop_max {K : List Int} {m : Int} (h : ∀ i, gt K i ≤ m) : ∀ i, gt (K.drop 1) i ≤ m := by
  intro i
  have := h (1 + i)
  unfold gt at this ⊢
  rwa [List.getD_eq_getElem?_getD, List.getElem?_drop, ← List.getD_eq_getElem?_getD]
theorem rem_rng {x n : Int} (h : 0 ≤ x) (hn : 0 < n) : 0 ≤ x.tmod n ∧ x.tmod n < n := ⟨Int.tmod_nonneg _ h, Int.tmod_lt_of_pos _ hn⟩
end Go.Proofs.Ytmkalakojfpfgaa
