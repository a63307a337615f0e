/-
  Points tables in plain numbers: standings, their rates, and the order of places.
-/
import Derived.Test.YtfnapmdedmbdbaaDoorA
set_option linter.unusedVariables false
set_option linter.unusedSimpArgs false
namespace Go.Proofs.YtfnapmdedmbdbaaDoor
open Go Go.Am
structure St where
  (tm pl wn sh ls pt rf bf ra ba : Int)
deriving DecidableEq
def inS (n : Int) : Prop := 0 ≤ n ∧ n ≤ 1048576
def okS (s : St) : Prop := inS s.rf ∧ inS s.bf ∧ inS s.ra ∧ inS s.ba
instance (s : St) : Decidable (okS s) := by unfold okS inS; exact inferInstance
def one (n : Int) : Int := if n = 0 then 1 else n
def nil0 (n m : Int) : Int := if n = 0 then 0 else m
theorem nil0_y {n m : Int} (h : n = 0) : nil0 n m = 0 := if_pos h
theorem nil0_n {n m : Int} (h : ¬ n = 0) : nil0 n m = m := if_neg h
theorem one_y {n : Int} (h : n = 0) : one n = 1 := if_pos h
theorem one_n {n : Int} (h : ¬ n = 0) : one n = n := if_neg h
def rxn (s : St) : Int := nil0 s.bf s.rf * one s.ba - nil0 s.ba s.ra * one s.bf
def rxd (s : St) : Int := one s.bf * one s.ba
theorem one_rng {n : Int} (h : inS n) : 1 ≤ one n ∧ one n ≤ 1048576 := by unfold inS at h; unfold one; split <;> omega
theorem nil0_rng {n m : Int} (h : inS m) : 0 ≤ nil0 n m ∧ nil0 n m ≤ 1048576 := by unfold inS at h; unfold nil0; split <;> omega
theorem mul_rng {a b : Int} (ha : 0 ≤ a ∧ a ≤ 1048576) (hb : 0 ≤ b ∧ b ≤ 1048576) : 0 ≤ a * b ∧ a * b ≤ 1099511627776 :=
  ⟨Int.mul_nonneg ha.1 hb.1, by have := Int.mul_le_mul ha.2 hb.2 hb.1 (by omega : (0 : Int) ≤ 1048576); omega⟩
theorem rxd_rng {s : St} (h : okS s) : 1 ≤ rxd s ∧ rxd s ≤ 1099511627776 := by
  obtain ⟨h1, h2, h3, h4⟩ := h
  have a := one_rng h2
  have b := one_rng h4
  have c := mul_rng (a := one s.bf) (b := one s.ba) (by omega) (by omega)
  have d : 0 < one s.bf * one s.ba := Int.mul_pos (by omega) (by omega)
  unfold rxd
  omega
theorem rxn_rng {s : St} (h : okS s) : -1099511627776 ≤ rxn s ∧ rxn s ≤ 1099511627776 := by
  obtain ⟨h1, h2, h3, h4⟩ := h
  have a := one_rng h2
  have b := one_rng h4
  have c := mul_rng (a := nil0 s.bf s.rf) (b := one s.ba) (nil0_rng h1) (by omega)
  have d := mul_rng (a := nil0 s.ba s.ra) (b := one s.bf) (nil0_rng h3) (by omega)
  unfold rxn
  omega
def crS (a b : St) : Int := if okS a ∧ okS b then cmpS (rxn a * rxd b) (rxn b * rxd a) else 0
theorem cmpS_anti (x y : Int) : cmpS y x = -cmpS x y := by
  unfold cmpS
  split <;> split <;> first | omega | (split <;> omega)
theorem crS_anti (a b : St) : crS b a = -crS a b := by
  unfold crS
  by_cases h : okS a ∧ okS b
  · rw [if_pos h, if_pos ⟨h.2, h.1⟩, cmpS_anti]
  · rw [if_neg h, if_neg fun h1 => h ⟨h1.2, h1.1⟩]; rfl
def bf9 (p : Prop) [Decidable p] : Int := if p then -1 else 1
def cmS (a b : St) : Int :=
  if a.pt ≠ b.pt then bf9 (a.pt > b.pt) else if a.wn ≠ b.wn then bf9 (a.wn > b.wn) else if crS a b ≠ 0 then -crS a b else if a.tm ≠ b.tm then bf9 (a.tm < b.tm) else 0
theorem cmS_anti (a b : St) : cmS b a = -cmS a b := by
  have h := crS_anti a b
  unfold cmS bf9
  by_cases h1 : a.pt = b.pt
  · by_cases h2 : a.wn = b.wn
    · by_cases h3 : crS a b = 0
      · have h4 : crS b a = 0 := by omega
        by_cases h5 : a.tm = b.tm
        · simp [h1, h2, h3, h4, h5]
        · have : ¬ b.tm = a.tm := fun e => h5 e.symm
          simp only [h1, h2, h3, h4, ne_eq, not_true_eq_false, if_false, h5, this, not_false_eq_true, if_true]
          split <;> split <;> omega
      · have h4 : ¬ crS b a = 0 := by omega
        simp only [h1, h2, h3, h4, ne_eq, not_true_eq_false, if_false, not_false_eq_true, if_true]
        omega
    · have : ¬ b.wn = a.wn := fun e => h2 e.symm
      simp only [h1, h2, this, ne_eq, not_true_eq_false, if_false, not_false_eq_true, if_true]
      split <;> split <;> omega
  · have : ¬ b.pt = a.pt := fun e => h1 e.symm
    simp only [h1, this, ne_eq, not_false_eq_true, if_true]
    split <;> split <;> omega
/-- Two fractions in order, a third behind them. -/
theorem fr_le {a b c d e f : Int} (hd : 0 < d) (hb : 0 ≤ b) (hf : 0 ≤ f) (h1 : a * d ≤ c * b) (h2 : c * f ≤ e * d) : a * f ≤ e * b := by
  have k1 := Int.mul_le_mul_of_nonneg_right h1 hf
  have k2 := Int.mul_le_mul_of_nonneg_right h2 hb
  have k3 : a * f * d ≤ e * b * d := by
    have e1 : a * f * d = a * d * f := by rw [Int.mul_assoc, Int.mul_comm f d, ← Int.mul_assoc]
    have e2 : e * b * d = e * d * b := by rw [Int.mul_assoc, Int.mul_comm b d, ← Int.mul_assoc]
    have e3 : c * b * f = c * f * b := by rw [Int.mul_assoc, Int.mul_comm b f, ← Int.mul_assoc]
    omega
  exact Int.le_of_mul_le_mul_right k3 hd
theorem fr_lt {a b c d e f : Int} (hd : 0 < d) (hb : 0 < b) (hf : 0 ≤ f) (h1 : a * d ≤ c * b) (h2 : c * f < e * d) : a * f < e * b := by
  have k1 := Int.mul_le_mul_of_nonneg_right h1 hf
  have k2 := Int.mul_lt_mul_of_pos_right h2 hb
  have k3 : a * f * d < e * b * d := by
    have e1 : a * f * d = a * d * f := by rw [Int.mul_assoc, Int.mul_comm f d, ← Int.mul_assoc]
    have e2 : e * b * d = e * d * b := by rw [Int.mul_assoc, Int.mul_comm b d, ← Int.mul_assoc]
    have e3 : c * b * f = c * f * b := by rw [Int.mul_assoc, Int.mul_comm b f, ← Int.mul_assoc]
    omega
  exact Int.lt_of_mul_lt_mul_right k3 (Int.le_of_lt hd)
theorem fr_lt' {a b c d e f : Int} (hd : 0 < d) (hb : 0 ≤ b) (hf : 0 < f) (h1 : a * d < c * b) (h2 : c * f ≤ e * d) : a * f < e * b := by
  have k1 := Int.mul_lt_mul_of_pos_right h1 hf
  have k2 := Int.mul_le_mul_of_nonneg_right h2 hb
  have k3 : a * f * d < e * b * d := by
    have e1 : a * f * d = a * d * f := by rw [Int.mul_assoc, Int.mul_comm f d, ← Int.mul_assoc]
    have e2 : e * b * d = e * d * b := by rw [Int.mul_assoc, Int.mul_comm b d, ← Int.mul_assoc]
    have e3 : c * b * f = c * f * b := by rw [Int.mul_assoc, Int.mul_comm b f, ← Int.mul_assoc]
    omega
  exact Int.lt_of_mul_lt_mul_right k3 (Int.le_of_lt hd)
theorem cmpS_neg {x y : Int} : cmpS x y ≤ 0 ↔ x ≤ y := by
  unfold cmpS
  split
  · constructor <;> intro <;> omega
  · split <;> constructor <;> intro <;> omega
theorem cmpS_lt {x y : Int} : cmpS x y < 0 ↔ x < y := by
  unfold cmpS
  split
  · constructor <;> intro <;> omega
  · split <;> constructor <;> intro <;> omega
theorem crS_ok {a b : St} (ha : okS a) (hb : okS b) : crS a b = cmpS (rxn a * rxd b) (rxn b * rxd a) := if_pos ⟨ha, hb⟩
theorem crS_le {a b c : St} (ha : okS a) (hb : okS b) (hc : okS c) (h1 : crS a b ≤ 0) (h2 : crS b c ≤ 0) : crS a c ≤ 0 := by
  rw [crS_ok ha hb, cmpS_neg] at h1
  rw [crS_ok hb hc, cmpS_neg] at h2
  rw [crS_ok ha hc, cmpS_neg]
  have := rxd_rng ha; have := rxd_rng hb; have := rxd_rng hc
  exact fr_le (d := rxd b) (by omega) (by omega) (by omega) h1 h2
theorem crS_lt {a b c : St} (ha : okS a) (hb : okS b) (hc : okS c) (h1 : crS a b ≤ 0) (h2 : crS b c < 0) : crS a c < 0 := by
  rw [crS_ok ha hb, cmpS_neg] at h1
  rw [crS_ok hb hc, cmpS_lt] at h2
  rw [crS_ok ha hc, cmpS_lt]
  have := rxd_rng ha; have := rxd_rng hb; have := rxd_rng hc
  exact fr_lt (d := rxd b) (by omega) (by omega) (by omega) h1 h2
theorem crS_lt' {a b c : St} (ha : okS a) (hb : okS b) (hc : okS c) (h1 : crS a b < 0) (h2 : crS b c ≤ 0) : crS a c < 0 := by
  rw [crS_ok ha hb, cmpS_lt] at h1
  rw [crS_ok hb hc, cmpS_neg] at h2
  rw [crS_ok ha hc, cmpS_lt]
  have := rxd_rng ha; have := rxd_rng hb; have := rxd_rng hc
  exact fr_lt' (d := rxd b) (by omega) (by omega) (by omega) h1 h2
/-- The order of places, spelled out. -/
theorem cmS_le (a b : St) : cmS a b ≤ 0 ↔ a.pt > b.pt ∨ (a.pt = b.pt ∧ (a.wn > b.wn ∨ (a.wn = b.wn ∧ (crS b a < 0 ∨ (crS b a ≤ 0 ∧ crS a b ≤ 0 ∧ a.tm ≤ b.tm))))) := by
  have h := crS_anti a b
  unfold cmS bf9
  by_cases h1 : a.pt = b.pt
  · by_cases h2 : a.wn = b.wn
    · by_cases h3 : crS a b = 0
      · by_cases h5 : a.tm = b.tm
        · simp only [h1, h2, h3, h5, ne_eq, not_true_eq_false, if_false, true_and, false_and, or_false]
          constructor <;> intro <;> omega
        · simp only [h1, h2, h3, ne_eq, not_true_eq_false, if_false, h5, not_false_eq_true, if_true, true_and, false_and, or_false]
          split <;> constructor <;> intro <;> omega
      · simp only [h1, h2, h3, ne_eq, not_true_eq_false, if_false, not_false_eq_true, if_true, true_and, false_and, or_false]
        constructor <;> intro <;> omega
    · simp only [h1, h2, ne_eq, not_true_eq_false, if_false, not_false_eq_true, if_true, true_and, false_and, or_false]
      split <;> constructor <;> intro <;> omega
  · simp only [h1, ne_eq, not_false_eq_true, if_true, true_and, false_and, or_false]
    split <;> constructor <;> intro <;> omega
theorem cmS_trans {a b c : St} (ha : okS a) (hb : okS b) (hc : okS c) (h1 : cmS a b ≤ 0) (h2 : cmS b c ≤ 0) : cmS a c ≤ 0 := by
  rw [cmS_le] at h1 h2 ⊢
  have k1 := crS_lt (a := c) (b := b) (c := a) hc hb ha
  have k2 := crS_lt' (a := c) (b := b) (c := a) hc hb ha
  have k3 := crS_le (a := c) (b := b) (c := a) hc hb ha
  have k4 := crS_le (a := a) (b := b) (c := c) ha hb hc
  rcases h1 with h1 | ⟨e1, h1⟩
  · rcases h2 with h2 | ⟨e2, h2⟩ <;> exact .inl (by omega)
  · rcases h2 with h2 | ⟨e2, h2⟩
    · exact .inl (by omega)
    · refine .inr ⟨by omega, ?_⟩
      rcases h1 with h1 | ⟨f1, h1⟩
      · rcases h2 with h2 | ⟨f2, h2⟩ <;> exact .inl (by omega)
      · rcases h2 with h2 | ⟨f2, h2⟩
        · exact .inl (by omega)
        · refine .inr ⟨by omega, ?_⟩
          rcases h1 with h1 | ⟨g1, g2, g3⟩
          · rcases h2 with h2 | ⟨h2, _, _⟩
            · exact .inl (k1 (by omega) h1)
            · exact .inl (k1 h2 h1)
          · rcases h2 with h2 | ⟨h2, h3, h4⟩
            · exact .inl (k2 h2 g1)
            · exact .inr ⟨k3 h2 g1, k4 g2 h3, by omega⟩
/-! ### What the walks meet -/
def rtN (z : St) : Int := if okS z then rxn z else 0
def rtD (z : St) : Int := if okS z then rxd z else 1
theorem rtN_y {z : St} (h : okS z) : rtN z = rxn z := if_pos h
theorem rtD_y {z : St} (h : okS z) : rtD z = rxd z := if_pos h
theorem rtN_n {z : St} (h : ¬ okS z) : rtN z = 0 := if_neg h
theorem rtD_n {z : St} (h : ¬ okS z) : rtD z = 1 := if_neg h
theorem rt_rng (z : St) : (-1099511627776 ≤ rtN z ∧ rtN z ≤ 1099511627776) ∧ 1 ≤ rtD z ∧ rtD z ≤ 1099511627776 := by
  by_cases h : okS z
  · rw [rtN_y h, rtD_y h]; exact ⟨rxn_rng h, rxd_rng h⟩
  · rw [rtN_n h, rtD_n h]; omega
theorem prod_rng {z : St} (h : okS z) : (0 ≤ nil0 z.bf z.rf * one z.ba ∧ nil0 z.bf z.rf * one z.ba ≤ 1099511627776) ∧ (0 ≤ nil0 z.ba z.ra * one z.bf ∧ nil0 z.ba z.ra * one z.bf ≤ 1099511627776) ∧ 1 ≤ one z.bf * one z.ba ∧ one z.bf * one z.ba ≤ 1099511627776 := by
  have hd := rxd_rng h
  obtain ⟨h1, h2, h3, h4⟩ := h
  have a := one_rng h2
  have b := one_rng h4
  exact ⟨mul_rng (nil0_rng h1) (by omega), mul_rng (nil0_rng h3) (by omega), hd⟩
def gt4 (z : St) (j : Nat) : Int := [z.rf, z.bf, z.ra, z.ba].getD j 0
theorem gt4_ok {z : St} (h : ∀ j, j < 4 → inS (gt4 z j)) : okS z := ⟨h 0 (by decide), h 1 (by decide), h 2 (by decide), h 3 (by decide)⟩
theorem gt4_no {z : St} {j : Nat} (hj : j < 4) (h : ¬ inS (gt4 z j)) : ¬ okS z := fun hz => by
  obtain ⟨h1, h2, h3, h4⟩ := hz
  have : j = 0 ∨ j = 1 ∨ j = 2 ∨ j = 3 := by omega
  rcases this with rfl | rfl | rfl | rfl
  · exact h h1
  · exact h h2
  · exact h h3
  · exact h h4
theorem crS_rng (y z : St) : -1 ≤ crS y z ∧ crS y z ≤ 1 := by
  unfold crS cmpS
  split
  · split
    · omega
    · split <;> omega
  · omega
theorem cm_pt {y z : St} (h : ¬ y.pt = z.pt) : cmS y z = if decide (z.pt < y.pt) = true then -1 else 1 := by
  simp only [cmS, bf9, h, ne_eq, not_false_eq_true, if_true, decide_eq_true_eq, gt_iff_lt]
theorem cm_wn {y z : St} (h : y.pt = z.pt) (h1 : ¬ y.wn = z.wn) : cmS y z = if decide (z.wn < y.wn) = true then -1 else 1 := by
  simp only [cmS, bf9, h, h1, ne_eq, not_true_eq_false, if_false, not_false_eq_true, if_true, decide_eq_true_eq, gt_iff_lt]
theorem cm_cr {y z : St} (h : y.pt = z.pt) (h1 : y.wn = z.wn) (h2 : ¬ crS y z = 0) : cmS y z = -crS y z := by
  simp only [cmS, bf9, h, h1, h2, ne_eq, not_true_eq_false, if_false, not_false_eq_true, if_true]
theorem cm_cr0 {y z : St} (h : y.pt = z.pt) (h1 : y.wn = z.wn) (h2 : ¬ crS y z = 0) : cmS y z = 0 - crS y z := by rw [cm_cr h h1 h2]; omega
theorem cm_cr' {y z : St} (h : y.pt = z.pt) (h1 : y.wn = z.wn) (h2 : ¬ crS y z = 0) : cmS y z = if decide (0 < crS y z) = true then -1 else 1 := by
  have := crS_rng y z
  rw [cm_cr h h1 h2]
  simp only [decide_eq_true_eq]
  split <;> omega
theorem cm_tm {y z : St} (h : y.pt = z.pt) (h1 : y.wn = z.wn) (h2 : crS y z = 0) (h3 : ¬ y.tm = z.tm) : cmS y z = if decide (y.tm < z.tm) = true then -1 else 1 := by
  simp only [cmS, bf9, h, h1, h2, h3, ne_eq, not_true_eq_false, if_false, not_false_eq_true, if_true, decide_eq_true_eq]
theorem cm_0 {y z : St} (h : y.pt = z.pt) (h1 : y.wn = z.wn) (h2 : crS y z = 0) (h3 : y.tm = z.tm) : cmS y z = 0 := by
  simp only [cmS, bf9, h, h1, h2, h3, ne_eq, not_true_eq_false, if_false]
theorem cmS_rng (y z : St) : -1 ≤ cmS y z ∧ cmS y z ≤ 1 := by
  have := crS_rng y z
  unfold cmS bf9
  split
  · split <;> omega
  · split
    · split <;> omega
    · split
      · omega
      · split
        · split <;> omega
        · omega
/-- A standing in the machine. -/
abbrev stL (z : St) : List AV := [AV.i z.tm, AV.i z.pl, AV.i z.wn, AV.i z.sh, AV.i z.ls, AV.i z.pt, AV.i z.rf, AV.i z.bf, AV.i z.ra, AV.i z.ba]
abbrev stA (z : St) : AV := .agg (stL z)
theorem ix77 (z : St) (i : Nat) (h : i < 4) : indexV Tryd.prog 77 (.agg [AV.i z.rf, AV.i z.bf, AV.i z.ra, AV.i z.ba]) (AV.i (i : Int)) = some (AV.i (gt4 z i)) := by
  have : i = 0 ∨ i = 1 ∨ i = 2 ∨ i = 3 := by omega
  simp only [indexV, tk77, ty3]
  rcases this with rfl | rfl | rfl | rfl <;> rfl
theorem bld77 (a b c d : Int) : buildV Tryd.prog 77 [(0, AV.i a), (1, AV.i b), (2, AV.i c), (3, AV.i d)] = some (.agg [AV.i a, AV.i b, AV.i c, AV.i d]) := by kernel_rfl
attribute [go_sem] bld77
end Go.Proofs.YtfnapmdedmbdbaaDoor
