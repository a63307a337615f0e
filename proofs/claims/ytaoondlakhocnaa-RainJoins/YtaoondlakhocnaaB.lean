/-
  What is left of an innings: how it falls. Plain arithmetic.
-/
import Derived.Test.YtaoondlakhocnaaRM
set_option linter.unusedVariables false
namespace Go.Proofs.Ytaoondlakhocnaa
open Go Go.Am

theorem down_w {rows : Tb} (h : checkS rows = 0) {u w : Nat} (hu : u < rows.length) : ∀ w', w ≤ w' → w' < (gt rows 0).length → gt (gt rows u) w' ≤ gt (gt rows u) w
  | 0, hw, _ => by have : w = 0 := by omega
                   subst this; exact Int.le_refl _
  | w' + 1, hw, hl => by
    by_cases he : w = w' + 1
    · subst he; exact Int.le_refl _
    · have s := check_shaped h
      have h1 := down_w (w := w) h hu w' (by omega) (by omega)
      have h2 := ((check_zero h).2.1 u hu w' (by rw [s.len u hu]; omega)).2 (by rw [s.len u hu]; omega)
      omega
theorem down_u {rows : Tb} (h : checkS rows = 0) {u w : Nat} (hw : w < (gt rows 0).length) : ∀ u', u ≤ u' → u' < rows.length → gt (gt rows u) w ≤ gt (gt rows u') w
  | 0, hu, _ => by have : u = 0 := by omega
                   subst this; exact Int.le_refl _
  | u' + 1, hu, hl => by
    by_cases he : u = u' + 1
    · subst he; exact Int.le_refl _
    · have s := check_shaped h
      have h1 := down_u (u := u) h hw u' (by omega) (by omega)
      have h2 := ((check_zero h).2.1 (u' + 1) hl w (by rw [s.len _ hl]; exact hw)).1 (by omega)
      rw [Nat.add_sub_cancel] at h2
      omega
/-- The number of balls and wickets is in the table. -/
structure InT (rows : Tb) (per b w : Int) : Prop where
  tab : checkS rows = 0
  per1 : 1 ≤ per
  per8 : per ≤ 8
  b0 : 0 ≤ b
  b1 : b ≤ ((rows.length : Int) - 1) * per
  w0 : 0 ≤ w
  w1 : w ≤ (gt rows 0).length
theorem InT.good {rows : Tb} {per b w : Int} (h : InT rows per b w) : ¬ atBad rows per b w := by
  have := h.per1
  have := h.per8
  have := h.b0
  have := h.b1
  have := h.w0
  have := h.w1
  unfold atBad; omega
theorem InT.val {rows : Tb} {per b w : Int} (h : InT rows per b w) : atS rows per b w = if w = (gt rows 0).length then (0, 0) else (atV rows per b w, 0) := by
  rw [atS, if_neg (fun hh => hh h.tab), if_neg h.good]
/-- Between two rows. -/
theorem InT.form {rows : Tb} {per b w : Int} (h : InT rows per b w) (hw : w < (gt rows 0).length) :
    ∃ (q : Nat) (r y : Int), (q : Int) = b / per ∧ r = b % per ∧ q < rows.length ∧ 0 ≤ r ∧ r < per ∧ (0 < r → q + 1 < rows.length ∧ y = gt (gt rows (q + 1)) w.toNat) ∧ (r = 0 → y = gt (gt rows q) w.toNat) ∧ gt (gt rows q) w.toNat ≤ y ∧ (∀ q', q < q' → q' < rows.length → (0 < r → y ≤ gt (gt rows q') w.toNat)) ∧
      atV rows per b w = gt (gt rows q) w.toNat * per + (y - gt (gt rows q) w.toNat) * r := by
  have p1 := h.per1
  have b0 := h.b0
  have w0 := h.w0
  have s := check_shaped h.tab
  have g2 := s.two
  obtain ⟨q0, q1, r0, r1, q2⟩ := at_place (n := (rows.length : Int) - 1) (per := per) (balls := b) p1 b0 h.b1
  obtain ⟨q, hq⟩ := Int.eq_ofNat_of_zero_le q0
  have hwN : w.toNat < (gt rows 0).length := by omega
  by_cases hr : 0 < b % per
  · have q3 := q2 hr
    have e1 : (b / per + 1).toNat = q + 1 := by omega
    have e0 : (b / per).toNat = q := by omega
    refine ⟨q, b % per, gt (gt rows (q + 1)) w.toNat, hq.symm, rfl, by omega, r0, r1, fun _ => ⟨by omega, rfl⟩, fun h0 => by omega, down_u h.tab hwN (q + 1) (by omega) (by omega), fun q' h1 h2 _ => down_u h.tab hwN q' (by omega) h2, ?_⟩
    unfold atV cellI
    rw [if_pos hr, e1, e0, Int.mul_sub, Int.sub_mul]
    omega
  · have e0 : (b / per).toNat = q := by omega
    have er : b % per = 0 := by omega
    refine ⟨q, b % per, gt (gt rows q) w.toNat, hq.symm, rfl, by omega, r0, r1, fun h0 => absurd h0 hr, fun _ => rfl, Int.le_refl _, fun q' _ _ h0 => absurd h0 hr, ?_⟩
    unfold atV cellI
    rw [if_neg hr, e0, er, Int.sub_zero, Int.sub_self]
    omega
theorem at_mono {rows : Tb} {per a b w : Int} (ha : InT rows per a w) (hb : InT rows per b w) (hab : a ≤ b) : (atS rows per a w).1 ≤ (atS rows per b w).1 := by
  rw [ha.val, hb.val]
  by_cases hw : w = (gt rows 0).length
  · rw [if_pos hw, if_pos hw]; exact Int.le_refl _
  · rw [if_neg hw, if_neg hw]
    show atV rows per a w ≤ atV rows per b w
    have hw' : w < (gt rows 0).length := by have := ha.w1; omega
    have w0 := ha.w0
    have p1 := ha.per1
    obtain ⟨q, r, y, eq, er, hq, r0, r1, hy, hy0, hle, hup, ev⟩ := ha.form hw'
    obtain ⟨q', r', y', eq', er', hq', r0', r1', hy', hy0', hle', hup', ev'⟩ := hb.form hw'
    have hdiv : a / per ≤ b / per := Int.ediv_le_ediv (by omega) hab
    rw [ev, ev']
    have low' : 0 ≤ (y' - gt (gt rows q') w.toNat) * r' := Int.mul_nonneg (by omega) r0'
    by_cases hqq : q = q'
    · subst hqq
      have hm : per * (a / per) + a % per = a := Int.mul_ediv_add_emod _ _
      have hm' : per * (b / per) + b % per = b := Int.mul_ediv_add_emod _ _
      have hrr : r ≤ r' := by rw [← eq] at hm; rw [← eq'] at hm'; omega
      by_cases h0 : 0 < r
      · have e1 := (hy h0).2
        have e2 := (hy' (by omega)).2
        have := Int.mul_le_mul_of_nonneg_left hrr (by omega : 0 ≤ y - gt (gt rows q) w.toNat)
        rw [e2, ← e1]
        omega
      · have : r = 0 := by omega
        rw [this, Int.mul_zero]
        omega
    · have hlt : q < q' := by omega
      have up : (y - gt (gt rows q) w.toNat) * r ≤ (y - gt (gt rows q) w.toNat) * per := Int.mul_le_mul_of_nonneg_left (by omega) (by omega)
      have e3 : gt (gt rows q) w.toNat * per + (y - gt (gt rows q) w.toNat) * per = y * per := by rw [Int.sub_mul]; omega
      have cap : y ≤ gt (gt rows q') w.toNat := by
        by_cases h0 : 0 < r
        · exact hup q' hlt hq' h0
        · rw [hy0 (by omega)]
          exact down_u ha.tab (by omega) q' (by omega) hq'
      have := Int.mul_le_mul_of_nonneg_right cap (by omega : 0 ≤ per)
      omega
theorem at_anti {rows : Tb} {per b w w' : Int} (h : InT rows per b w) (h' : InT rows per b w') (hw : w ≤ w') : (atS rows per b w').1 ≤ (atS rows per b w).1 := by
  by_cases hw1 : w' = (gt rows 0).length
  · have := (at_range (rows := rows) (per := per) (balls := b) (w := w)).1
    rw [h'.val, if_pos hw1]; exact this
  · have w1 := h'.w1
    have w0 := h.w0
    rw [h.val, h'.val, if_neg hw1, if_neg (by omega)]
    show atV rows per b w' ≤ atV rows per b w
    have p1 := h.per1
    have s := check_shaped h.tab
    have g2 := s.two
    obtain ⟨q0, q1, r0, r1, q2⟩ := at_place (n := (rows.length : Int) - 1) (per := per) (balls := b) p1 h.b0 h.b1
    unfold atV cellI
    have c1 := down_w h.tab (u := (b / per).toNat) (w := w.toNat) (by omega) w'.toNat (by omega) (by omega)
    have m1 := Int.mul_le_mul_of_nonneg_right c1 (by omega : 0 ≤ per - b % per)
    by_cases hr : 0 < b % per
    · have q3 := q2 hr
      have c2 := down_w h.tab (u := (b / per + 1).toNat) (w := w.toNat) (by omega) w'.toNat (by omega) (by omega)
      have m2 := Int.mul_le_mul_of_nonneg_right c2 (by omega : 0 ≤ b % per)
      rw [if_pos hr, if_pos hr]
      omega
    · rw [if_neg hr, if_neg hr]
      omega
section
variable {rows : Tb} {per balls : Int} {l : List Stp}
theorem Chk.inB (c : Chk rows per balls l) {i : Nat} (hi : i < l.length) : InT rows per (gt l i).b (gt l i).w := by
  have h := c.stop i hi
  have hb := c.bmax
  exact ⟨c.tab, c.per1, c.per8, by omega, by omega, by omega, by omega⟩
theorem Chk.inA (c : Chk rows per balls l) {i : Nat} (hi : i < l.length) : InT rows per (gt l i).a (gt l i).w := by
  have h := c.stop i hi
  have hb := c.bmax
  exact ⟨c.tab, c.per1, c.per8, by omega, by omega, by omega, by omega⟩
theorem Chk.in0 (c : Chk rows per balls l) : InT rows per balls 0 := by
  have h1 := c.b1
  exact ⟨c.tab, c.per1, c.per8, by omega, c.bmax, by omega, by omega⟩
theorem Chk.lost_pos (c : Chk rows per balls l) {i : Nat} (hi : i < l.length) : 0 ≤ (lostS rows per (gt l i)).1 := by
  rw [c.lost0 hi]
  have := at_mono (c.inA hi) (c.inB hi) (c.stop i hi).2.2.2.2.1
  show 0 ≤ _ - _
  omega
theorem Chk.lsum_pos (c : Chk rows per balls l) : ∀ n, n ≤ l.length → 0 ≤ lsum rows per l n
  | 0, _ => Int.le_refl _
  | n + 1, hn => by
    have h1 := c.lsum_pos n (by omega)
    have h2 := c.lost_pos (i := n) (by omega)
    unfold lsum; omega
/-- What is left is never below what the place at hand is worth. -/
theorem Chk.above (c : Chk rows per balls l) : ∀ n, n ≤ l.length → (if n = 0 then (atS rows per balls 0).1 else (atS rows per (gt l (n - 1)).a (gt l (n - 1)).w).1) ≤ (atS rows per balls 0).1 - lsum rows per l n
  | 0, _ => by rw [if_pos rfl]; show _ ≤ _ - 0; omega
  | n + 1, hn => by
    have ih := c.above n (by omega)
    have hs := c.stop n (by omega)
    have e := c.lost0 (i := n) (by omega)
    have hl : lsum rows per l (n + 1) = lsum rows per l n + (lostS rows per (gt l n)).1 := rfl
    rw [if_neg (by omega), Nat.add_sub_cancel, hl, e]
    show _ ≤ _ - (_ + (_ - _))
    by_cases h0 : n = 0
    · subst h0
      rw [if_pos rfl] at ih
      have i0 : InT rows per balls (gt l 0).w := by
        have hb := c.inB (i := 0) (by omega)
        have := c.b1
        exact ⟨c.tab, c.per1, c.per8, by omega, c.bmax, hb.w0, hb.w1⟩
      have m1 := at_anti c.in0 i0 hs.2.2.1
      have m2 := at_mono (c.inB (i := 0) (by omega)) i0 hs.1
      omega
    · rw [if_neg h0] at ih
      have hp := hs.2.2.2.2.2 (by omega)
      have ha := c.inA (i := n - 1) (by omega)
      have hb := c.inB (i := n) (by omega)
      have i1 : InT rows per (gt l n).b (gt l (n - 1)).w := ⟨c.tab, c.per1, c.per8, hb.b0, hb.b1, ha.w0, ha.w1⟩
      have m1 := at_mono i1 ha hp.1
      have m2 := at_anti i1 hb hp.2
      omega
theorem Chk.left_pos (c : Chk rows per balls l) : 0 ≤ (atS rows per balls 0).1 - lsum rows per l l.length := by
  have h := c.above l.length (Nat.le_refl _)
  have r1 := (at_range (rows := rows) (per := per) (balls := balls) (w := 0)).1
  have r2 := (at_range (rows := rows) (per := per) (balls := (gt l (l.length - 1)).a) (w := (gt l (l.length - 1)).w)).1
  split at h <;> omega
end
theorem left_err {rows : Tb} {per balls : Int} {l : List Stp} (h : (leftS rows per balls l).2 ≠ 0) : leftS rows per balls l = (0, chkS rows per balls l) := by
  by_cases hk : chkS rows per balls l ≠ 0
  · rw [leftS, if_pos hk]
  · rw [leftS, if_neg hk] at h; exact absurd rfl h
theorem left_zero {rows : Tb} {per balls : Int} {l : List Stp} (h : (leftS rows per balls l).2 = 0) : Chk rows per balls l ∧ leftS rows per balls l = ((atS rows per balls 0).1 - lsum rows per l l.length, 0) := by
  by_cases hk : chkS rows per balls l = 0
  · exact ⟨chk_of hk, by rw [leftS, if_neg (fun hh => hh hk)]⟩
  · rw [leftS, if_pos hk] at h; exact absurd h hk
end Go.Proofs.Ytaoondlakhocnaa
