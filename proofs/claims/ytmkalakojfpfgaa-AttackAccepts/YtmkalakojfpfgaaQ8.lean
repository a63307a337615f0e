/-
  What an allocation costs, and what potentials prove.
-/
import Derived.Test.YtmkalakojfpfgaaQ7
set_option linter.unusedVariables false
namespace Go.Proofs.Ytmkalakojfpfgaa
open Go Go.Am
/-- Potentials of the form that they must have. -/
def FormK (rows : Tb) (q : Int) (P : List Int) (k : Nat) : Prop := -1 ≤ gt P k ∧ (gt P k ≠ 0 → sumL (decc q (gt rows 0).length k) ≠ rows.length)
def BoundJ (rows : Tb) (q : Int) (P : List Int) (v : Int) (c : List Int) (la : Int) (j : Nat) : Prop :=
  sumL c < rows.length → (j : Int) ≠ la → gt c j < q → gt P (idxS q (gt rows 0).length (aft c j) j).toNat ≠ -1 → v ≠ -1 ∧ v - gt (gt rows (sumL c).toNat) j ≤ gt P (idxS q (gt rows 0).length (aft c j) j).toNat
def BoundK (rows : Tb) (q : Int) (P : List Int) (k : Nat) : Prop := ∀ j, j < (gt rows 0).length → BoundJ rows q P (gt P k) (decc q (gt rows 0).length k) (decl (gt rows 0).length k) j
structure PotOK (rows : Tb) (q : Int) (P : List Int) : Prop where
  len : (P.length : Int) = numS q (gt rows 0).length
  form : ∀ k, k < P.length → FormK rows q P k
  bound : ∀ k, k < P.length → BoundK rows q P k
theorem cnts_sum {rows : Tb} {q la0 : Int} {b : Nat} {l : List Int} : ∀ i, i ≤ l.length → (∀ k, k < i → 0 ≤ gt l k ∧ gt l k < b) → sumL (cnts b l i) = i
  | 0, _, _ => by rw [cnts_zero, sum_zero]; rfl
  | i + 1, hi, h => by
    have h1 := h i (by omega)
    have ih := cnts_sum (rows := rows) (q := q) (la0 := la0) i (by omega) fun k hk => h k (by omega)
    have hg := cnts_get (b := b) (l := l) (i := i) h1.1 h1.2
    rw [← cnts_set (by omega) h1.1 h1.2, ← hg, sum_aft _ _ (by rw [cnts_len]; omega), ih]
    omega
theorem cnts_ok {q : Int} {b : Nat} {l : List Int} {i : Nat} (h : ∀ j, 0 ≤ j → j < (b : Int) → cnt (l.take i) j ≤ q) : OkC q b (cnts b l i) := by
  refine ⟨cnts_len .., fun x hx => ?_⟩
  simp only [cnts, List.mem_map, List.mem_range] at hx
  obtain ⟨j, hj, rfl⟩ := hx
  exact ⟨cnt_nn _ _, h j (by omega) (by omega)⟩
/-- An allocation without an error costs no less than the potential of its start. -/
theorem cost_ge {rows : Tb} {q la0 : Int} (g : Good rows q la0) {P : List Int} (hP : PotOK rows q P) {l : List Int} (hl : l.length = rows.length) :
    ∀ (m i : Nat), i + m = l.length → ∀ (la s s' : Int), -1 ≤ la → la < (gt rows 0).length → (∀ k, k < i → 0 ≤ gt l k ∧ gt l k < (gt rows 0).length) → (∀ j, 0 ≤ j → j < ((gt rows 0).length : Int) → cnt (l.take i) j ≤ q) →
      costL rows q l i la s (l.drop i) = (s', 0) → gt P (idxS q (gt rows 0).length (cnts (gt rows 0).length l i) la).toNat ≠ -1 ∧ s + gt P (idxS q (gt rows 0).length (cnts (gt rows 0).length l i) la).toNat ≤ s'
  | 0, i, hi, la, s, s', l0, l1, hk, hc, h => by
    have hq0 : 0 ≤ q := by have := g.q1; omega
    have st : StOK q (gt rows 0).length (cnts (gt rows 0).length l i) la := ⟨cnts_ok hc, l0, l1⟩
    have hi2 := idx_rng hq0 st
    have hsum := cnts_sum (rows := rows) (q := q) (la0 := la0) i (by omega) hk
    rw [List.drop_eq_nil_of_le (by omega), costL] at h
    have e : s = s' := by simpa using congrArg Prod.fst h
    have hd := dec_idx hq0 st
    have hl2 := hP.len
    have hf := (hP.form (idxS q (gt rows 0).length (cnts (gt rows 0).length l i) la).toNat (by omega)).2
    rw [Int.toNat_of_nonneg hi2.1, hd.1, hsum] at hf
    have h0 : gt P (idxS q (gt rows 0).length (cnts (gt rows 0).length l i) la).toNat = 0 := by
      by_cases h0 : gt P (idxS q (gt rows 0).length (cnts (gt rows 0).length l i) la).toNat = 0
      · exact h0
      · exact absurd (show (i : Int) = rows.length by omega) (hf h0)
    rw [h0]; exact ⟨by decide, by omega⟩
  | m + 1, i, hi, la, s, s', l0, l1, hk, hc, h => by
    have hq0 : 0 ≤ q := by have := g.q1; omega
    have st : StOK q (gt rows 0).length (cnts (gt rows 0).length l i) la := ⟨cnts_ok hc, l0, l1⟩
    have hi2 := idx_rng hq0 st
    have hsum := cnts_sum (rows := rows) (q := q) (la0 := la0) i (by omega) hk
    have hd := dec_idx hq0 st
    have hl2 := hP.len
    by_cases h1 : gt l i < 0 ∨ ((gt rows 0).length : Int) ≤ gt l i
    · rw [costL_rng (by omega) h1] at h; cases h
    by_cases h2 : gt l i = la
    · rw [costL_ord (by omega) h1 h2] at h; cases h
    by_cases h3 : q ≤ cnt (l.take i) (gt l i)
    · rw [costL_lim (by omega) h1 h2 h3] at h; cases h
    rw [← costL_on (by omega) h1 h2 h3] at h
    have hcs := cnts_set (b := (gt rows 0).length) (l := l) (i := i) (by omega) (by omega) (by omega)
    have hcg := cnts_get (b := (gt rows 0).length) (l := l) (i := i) (j := gt l i) (by omega) (by omega)
    have ih := cost_ge g hP hl m (i + 1) (by omega) (gt l i) _ s' (by omega) (by omega)
      (fun k hk2 => by rcases Nat.lt_succ_iff_lt_or_eq.1 hk2 with hk2 | rfl; (exact hk k hk2); (exact ⟨by omega, by omega⟩))
      (fun j hj0 hj1 => by
        rw [take_gt (by omega), cnt_snoc]
        by_cases e : gt l i = j
        · rw [if_pos e, ← e]; omega
        · rw [if_neg e]; have := hc j hj0 hj1; omega) h
    have hb := hP.bound (idxS q (gt rows 0).length (cnts (gt rows 0).length l i) la).toNat (by omega) (gt l i).toNat (by omega)
    unfold BoundJ at hb
    rw [Int.toNat_of_nonneg hi2.1, hd.1, hd.2, hsum, Int.toNat_of_nonneg (by omega : 0 ≤ gt l i)] at hb
    rw [show aft (cnts (gt rows 0).length l i) (gt l i).toNat = cnts (gt rows 0).length l (i + 1) from by rw [aft, hcg, hcs]] at hb
    have hb2 := hb (by omega) h2 (by omega) ih.1
    rw [Int.toNat_natCast] at hb2
    exact ⟨hb2.1, by omega⟩
theorem cost_least {rows : Tb} {q la0 : Int} (g : Good rows q la0) {P : List Int} (hP : PotOK rows q P) {l : List Int} {s : Int} (h : costV rows q la0 l = (s, 0)) : gt P (la0 + 1).toNat ≠ -1 ∧ gt P (la0 + 1).toNat ≤ s := by
  have g1 := g.q1
  unfold costV at h
  split at h
  · cases h
  · rename_i hl
    have := cost_ge g hP (l := l) (by omega) l.length 0 (by omega) la0 0 s g.l1 g.l2 (fun k hk => by omega) (fun j _ _ => by rw [List.take_zero, cnt_nil]; omega) h
    rw [cnts_zero, show idxS q (gt rows 0).length (List.replicate (gt rows 0).length 0) la0 = la0 + 1 from zero_idx rows q la0] at this
    exact ⟨this.1, by omega⟩
/-- What a state may cost at most. -/
theorem scan_le {rows : Tb} {q : Int} {i : Nat} {c : List Int} {la : Int} {g : Nat → Int} (hr : ∀ j, 0 ≤ gt (gt rows i) j) (hg : ∀ j, -1 ≤ g j) : ∀ (b j : Nat), j < b → (j : Int) ≠ la → gt c j < q → g j ≠ -1 → scanJ rows q i c la g b ≠ -1 ∧ scanJ rows q i c la g b ≤ gt (gt rows i) j + g j
  | 0, j, h, _, _, _ => absurd h (Nat.not_lt_zero _)
  | b + 1, j, h, h1, h2, h3 => by
    have r1 := hr b
    have r2 := hg b
    rcases Nat.lt_succ_iff_lt_or_eq.1 h with h | rfl
    · have ih := scan_le hr hg b j h h1 h2 h3 (q := q) (c := c) (la := la)
      rw [scanJ]
      split
      · rename_i hh; exact ⟨by omega, by omega⟩
      · exact ih
    · rw [scanJ]
      split
      · exact ⟨by omega, Int.le_refl _⟩
      · rename_i hh
        have : ¬ (scanJ rows q i c la g j = -1 ∨ gt (gt rows i) j + g j < scanJ rows q i c la g j) := fun h4 => hh ⟨h1, h2, h3, h4⟩
        exact ⟨by omega, by omega⟩
theorem sum_aft_nn {c : List Int} (h : ∀ x, x ∈ c → 0 ≤ x) (j : Nat) : 0 ≤ sumL (aft c j) := by
  by_cases hj : j < c.length
  · rw [sum_aft c j hj]; have := sum_nn c h; omega
  · rw [aft, List.set_eq_of_length_le (by omega)]; exact sum_nn c h
theorem full_pot {rows : Tb} {q la0 : Int} (g : Good rows q la0) {K : List Int} (h : FullT rows q K) : PotOK rows q K := by
  have hq0 : 0 ≤ q := by have := g.q1; omega
  refine ⟨h.1, fun k hk => ?_, fun k hk j hj => ?_⟩
  · have st := dec_st (q := q) (b := (gt rows 0).length) (k := (k : Int)) hq0 (by omega)
    have hp := pot_rng g (decc q (gt rows 0).length k) (sum_nn _ fun y hy => (st.c.2 y hy).1) (decl (gt rows 0).length k)
    refine ⟨by rw [h.2 k hk]; exact hp.1, fun h0 hs => h0 ?_⟩
    rw [h.2 k hk]
    exact pot_eq hs
  · have st := dec_st (q := q) (b := (gt rows 0).length) (k := (k : Int)) hq0 (by omega)
    intro hs h1 h2 h3
    have sta := aft_st st (j := j) hj h2
    rw [full_at h hq0 sta] at h3 ⊢
    have e : gt K k = _ := (h.2 k hk).trans (pot_lt (la := decl (gt rows 0).length k) st.c.1 hs)
    rw [e]
    have hh := scan_le (i := (sumL (decc q (gt rows 0).length k)).toNat) (c := decc q (gt rows 0).length k) (q := q) (la := decl (gt rows 0).length k) (g := fun j => pot rows q (gt rows 0).length (aft (decc q (gt rows 0).length k) j) j) (fun j => (cell_rng g _ j).1)
      (fun j => (pot_rng g _ (sum_aft_nn (fun y hy => (st.c.2 y hy).1) j) _).1) (gt rows 0).length j hj h1 h2 h3
    have hh2 : _ ≤ gt (gt rows (sumL (decc q (gt rows 0).length k)).toNat) j + pot rows q (gt rows 0).length (aft (decc q (gt rows 0).length k) j) j := hh.2
    exact ⟨hh.1, by omega⟩
/-- The way's cost. -/
theorem reach_cost {rows : Tb} {q la0 : Int} (g : Good rows q la0) (hp : potB rows q (zeroC rows) la0 ≠ -1) {w c : List Int} {la : Int} (h : Reach rows q la0 w c la) :
    ∀ r : List Int, (w ++ r).length = rows.length → costL rows q (w ++ r) w.length la (potB rows q (zeroC rows) la0 - potB rows q c la) r = costL rows q (w ++ r) 0 la0 0 (w ++ r) ∧ c = cnts (gt rows 0).length (w ++ r) w.length ∧ StOK q (gt rows 0).length c la ∧ sumL c = w.length ∧ potB rows q c la ≠ -1 := by
  induction h with
  | nil =>
    intro r hr
    exact ⟨by rw [Int.sub_self]; rfl, (cnts_zero _ _).symm, zero_st g, sum_zero _, hp⟩
  | @snoc w c la j a b ih =>
    intro r hr
    obtain ⟨h1, h2, h3, h4, h5⟩ := ih ((j : Int) :: r) (by simpa using hr)
    obtain ⟨b1, ⟨b2, b3, b4, b5⟩, b6⟩ := b
    have hcl := h3.c.1
    have e : w ++ [(j : Int)] ++ r = w ++ (j : Int) :: r := by simp
    have hwl : w.length < (w ++ (j : Int) :: r).length := by simp
    have hg : gt (w ++ (j : Int) :: r) w.length = j := by simp [gt, List.getD_eq_getElem?_getD]
    have hd : (w ++ (j : Int) :: r).drop w.length = (j : Int) :: r := by simp
    have hd2 : (w ++ (j : Int) :: r).drop (w.length + 1) = r := by simp
    have hcg := cnts_get (b := (gt rows 0).length) (l := w ++ (j : Int) :: r) (i := w.length) (j := (j : Int)) (by omega) (by omega)
    rw [Int.toNat_natCast, ← h2] at hcg
    have hcs := cnts_set (b := (gt rows 0).length) (l := w ++ (j : Int) :: r) (i := w.length) hwl (by rw [hg]; omega) (by rw [hg]; omega)
    rw [hg, Int.toNat_natCast, ← h2, ← hcg] at hcs
    have on := costL_on (rows := rows) (q := q) (l := w ++ (j : Int) :: r) (i := w.length) (la := la) (s := potB rows q (zeroC rows) la0 - potB rows q c la) hwl (by rw [hg]; omega) (by rw [hg]; exact b2) (by rw [hg, ← hcg]; omega)
    rw [hg, hd, hd2, h1, Int.toNat_natCast] at on
    rw [e, List.length_append, List.length_singleton]
    rw [h4] at b5
    rw [Int.toNat_natCast] at b5
    refine ⟨?_, hcs, aft_st h3 (by omega) b3, by rw [sum_aft c j b1, h4]; omega, b4⟩
    rw [← on]
    congr 1
    omega
theorem reach_end {rows : Tb} {q la0 : Int} (g : Good rows q la0) (hp : potB rows q (zeroC rows) la0 ≠ -1) {w c : List Int} {la : Int} (h : Reach rows q la0 w c la) (hl : w.length = rows.length) : costV rows q la0 w = (potB rows q (zeroC rows) la0, 0) := by
  obtain ⟨h1, h2, h3, h4, h5⟩ := reach_cost g hp h [] (by simpa using hl)
  rw [List.append_nil] at h1
  rw [costV, if_neg (fun hh => hh hl), ← h1, costL]
  have : potB rows q c la = 0 := pot_eq (by omega)
  rw [this, Int.sub_zero]
theorem form_step {rows : Tb} {q : Int} {P : List Int} {u : Nat} (h : ∀ k, k < u → FormK rows q P k) (h' : FormK rows q P u) : ∀ k, k < u + 1 → FormK rows q P k := by
  intro k hk
  rcases Nat.lt_succ_iff_lt_or_eq.1 hk with hk | rfl
  · exact h k hk
  · exact h'
theorem boundk_step {rows : Tb} {q : Int} {P : List Int} {u : Nat} (h : ∀ k, k < u → BoundK rows q P k) (h' : BoundK rows q P u) : ∀ k, k < u + 1 → BoundK rows q P k := by
  intro k hk
  rcases Nat.lt_succ_iff_lt_or_eq.1 hk with hk | rfl
  · exact h k hk
  · exact h'
theorem boundj_step {rows : Tb} {q : Int} {P : List Int} {v : Int} {c : List Int} {la : Int} {u : Nat} (h : ∀ k, k < u → BoundJ rows q P v c la k) (h' : BoundJ rows q P v c la u) : ∀ k, k < u + 1 → BoundJ rows q P v c la k := by
  intro k hk
  rcases Nat.lt_succ_iff_lt_or_eq.1 hk with hk | rfl
  · exact h k hk
  · exact h'
/-- What accepts. -/
def FormA (rows : Tb) (q : Int) (P : List Int) : Prop := (P.length : Int) = numS q (gt rows 0).length ∧ ∀ k, k < P.length → FormK rows q P k
section
open Classical
noncomputable def formB (rows : Tb) (q : Int) (P : List Int) : Bool := decide (FormA rows q P)
noncomputable def boundB (rows : Tb) (q : Int) (P : List Int) (k : Nat) : Bool := decide (BoundK rows q P k)
theorem form_no {rows : Tb} {q : Int} {P : List Int} (h : ¬ FormA rows q P) : formB rows q P = false := decide_eq_false h
theorem form_yes {rows : Tb} {q : Int} {P : List Int} (h : FormA rows q P) : formB rows q P = true := decide_eq_true h
theorem form_of {rows : Tb} {q : Int} {P : List Int} (h : formB rows q P = true) : FormA rows q P := of_decide_eq_true h
theorem form_not {rows : Tb} {q : Int} {P : List Int} (h : formB rows q P = false) : ¬ FormA rows q P := of_decide_eq_false h
theorem bound_no {rows : Tb} {q : Int} {P : List Int} {k : Nat} (h : ¬ BoundK rows q P k) : boundB rows q P k = false := decide_eq_false h
theorem bound_yes {rows : Tb} {q : Int} {P : List Int} {k : Nat} (h : BoundK rows q P k) : boundB rows q P k = true := decide_eq_true h
theorem bound_of {rows : Tb} {q : Int} {P : List Int} {k : Nat} (h : boundB rows q P k = true) : BoundK rows q P k := of_decide_eq_true h
theorem bound_not {rows : Tb} {q : Int} {P : List Int} {k : Nat} (h : boundB rows q P k = false) : ¬ BoundK rows q P k := of_decide_eq_false h
noncomputable def acceptS (rows : Tb) (q la0 : Int) (w : List Int) (v : Int) (P : List Int) : Int :=
  if (costS rows q la0 w).2 ≠ 0 then (costS rows q la0 w).2 else if (costS rows q la0 w).1 ≠ v then 12 else
  if ¬ FormA rows q P then 4 else if ¬ ∀ k, k < P.length → BoundK rows q P k then 8 else if gt P (la0 + 1).toNat < v then 13 else 0
theorem acc_cost {rows : Tb} {q la0 v : Int} {w P : List Int} (h : (costS rows q la0 w).2 ≠ 0) : acceptS rows q la0 w v P = (costS rows q la0 w).2 := by rw [acceptS, if_pos h]
theorem acc_sum {rows : Tb} {q la0 v : Int} {w P : List Int} (h : (costS rows q la0 w).2 = 0) (h1 : (costS rows q la0 w).1 ≠ v) : acceptS rows q la0 w v P = 12 := by rw [acceptS, if_neg (fun hh => hh h), if_pos h1]
theorem acc_form {rows : Tb} {q la0 v : Int} {w P : List Int} (h : (costS rows q la0 w).2 = 0) (h1 : (costS rows q la0 w).1 = v) (h2 : ¬ FormA rows q P) : acceptS rows q la0 w v P = 4 := by rw [acceptS, if_neg (fun hh => hh h), if_neg (fun hh => hh h1), if_pos h2]
theorem acc_bound {rows : Tb} {q la0 v : Int} {w P : List Int} (h : (costS rows q la0 w).2 = 0) (h1 : (costS rows q la0 w).1 = v) (h2 : FormA rows q P) {k : Nat} (hk : k < P.length) (h3 : ¬ BoundK rows q P k) : acceptS rows q la0 w v P = 8 := by
  rw [acceptS, if_neg (fun hh => hh h), if_neg (fun hh => hh h1), if_neg (fun hh => hh h2), if_pos (fun hh => h3 (hh k hk))]
theorem acc_last {rows : Tb} {q la0 v : Int} {w P : List Int} (h : (costS rows q la0 w).2 = 0) (h1 : (costS rows q la0 w).1 = v) (h2 : FormA rows q P) (h3 : ∀ k, k < P.length → BoundK rows q P k) : acceptS rows q la0 w v P = if gt P (la0 + 1).toNat < v then 13 else 0 := by
  rw [acceptS, if_neg (fun hh => hh h), if_neg (fun hh => hh h1), if_neg (fun hh => hh h2), if_neg (fun hh => hh h3)]
end
theorem cost_chk {rows : Tb} {q la0 : Int} {w : List Int} (h : (costS rows q la0 w).2 = 0) : checkS rows q la0 = 0 ∧ costS rows q la0 w = costV rows q la0 w := by
  unfold costS at h ⊢
  split at h
  · rename_i h1; exact absurd h h1
  · rename_i h1; exact ⟨Classical.not_not.mp h1, if_neg h1⟩
/-- No plan: every allocation has an error. -/
theorem none_cost {rows : Tb} {q la0 : Int} (hc : checkS rows q la0 = 0) (hp : potB rows q (zeroC rows) la0 = -1) {K : List Int} (hK : FullT rows q K) (l : List Int) : (costS rows q la0 l).2 ≠ 0 := by
  intro h
  have g := good_of hc
  have g1 := g.q1
  have e := (cost_chk h).2
  have h2 : costV rows q la0 l = ((costV rows q la0 l).1, 0) := Prod.ext rfl (by rw [← e]; exact h)
  have := (cost_least g (full_pot g hK) h2).1
  rw [← zero_idx rows q la0, full_at hK (by omega) (zero_st g)] at this
  exact this hp
theorem accept_plan {rows : Tb} {q la0 : Int} (hc : checkS rows q la0 = 0) (hp : potB rows q (zeroC rows) la0 ≠ -1) {K w c : List Int} {la : Int} (hK : FullT rows q K) (h : Reach rows q la0 w c la) (hl : w.length = rows.length) : costS rows q la0 w = (potB rows q (zeroC rows) la0, 0) ∧ acceptS rows q la0 w (potB rows q (zeroC rows) la0) K = 0 := by
  have g := good_of hc
  have g1 := g.q1
  have hP := full_pot g hK
  have e : costS rows q la0 w = (potB rows q (zeroC rows) la0, 0) := by rw [costS, if_neg (fun hh => hh hc), reach_end g hp h hl]
  refine ⟨e, ?_⟩
  rw [acc_last (by rw [e]) (by rw [e]) ⟨hP.len, hP.form⟩ hP.bound, ← zero_idx rows q la0, full_at hK (by omega) (zero_st g), if_neg (Int.lt_irrefl _)]
theorem plan_le {rows : Tb} {q la0 : Int} (hc : checkS rows q la0 = 0) {K l : List Int} (hK : FullT rows q K) (h : (costS rows q la0 l).2 = 0) : potB rows q (zeroC rows) la0 ≤ (costS rows q la0 l).1 := by
  have g := good_of hc
  have g1 := g.q1
  have e := (cost_chk h).2
  have h2 : costV rows q la0 l = ((costS rows q la0 l).1, 0) := Prod.ext (by rw [e]) (by rw [← e]; exact h)
  have := (cost_least g (full_pot g hK) h2).2
  rwa [← zero_idx rows q la0, full_at hK (by omega) (zero_st g)] at this
/-- What accepts proves the least cost. -/
theorem accept_least {rows : Tb} {q la0 v : Int} {w P K w' c : List Int} {la : Int} (hp : potB rows q (zeroC rows) la0 ≠ -1) (hK : FullT rows q K) (h : Reach rows q la0 w' c la) (hl : w'.length = rows.length) (ha : acceptS rows q la0 w v P = 0) : v = potB rows q (zeroC rows) la0 := by
  unfold acceptS at ha
  split at ha
  · rename_i h1; exact absurd ha h1
  split at ha
  · cases ha
  split at ha
  · cases ha
  split at ha
  · cases ha
  split at ha
  · cases ha
  rename_i h1 h2 h3 h4 h5
  have h1 := Classical.not_not.mp h1
  have h2 := Classical.not_not.mp h2
  have h3 := Classical.not_not.mp h3
  have h4 := Classical.not_not.mp h4
  have hc := (cost_chk h1).1
  have g := good_of hc
  have a := plan_le hc hK h1
  have b := (cost_least g ⟨h3.1, h3.2, h4⟩ (reach_end g hp h hl)).2
  omega
theorem frz_int (H : Heap) (b d : Nat) (l : List Int) : frz H b (d + 2) (intsAV l) = intsAV l := by
  show AV.sl l.length ((l.map AV.i).map (frz H b (d + 1))) = _
  rw [frz_ints]
theorem full_ex {rows : Tb} {q la0 : Int} (g : Good rows q la0) : ∃ K, FullT rows q K := by
  have g1 := g.q1
  have hn : 0 ≤ numS q (gt rows 0).length := Int.mul_nonneg (by omega) (Int.le_of_lt (pow_pos' (by omega) _))
  refine ⟨(List.range (numS q (gt rows 0).length).toNat).map fun i : Nat => potK rows q (gt rows 0).length i, by simp; omega, fun i hi => ?_⟩
  rw [gt_eq _ _ hi]
  simp
/-- What an answer holds. -/
theorem plan_parts {rows : Tb} {q la0 : Int} {r : AV} (hp : PlanR rows q la0 r) : ∃ x v y e, r = .tup [.agg [x, .i v, y], .i e] ∧ storable x = true ∧ storable y = true ∧
    (e ≠ 0 → x = nilI ∧ y = nilI ∧ ∀ l, (costS rows q la0 l).2 ≠ 0) ∧
    (e = 0 → ∃ w K c la, x = intsAV w ∧ y = intsAV K ∧ v = potB rows q (zeroC rows) la0 ∧ FullT rows q K ∧ Reach rows q la0 w c la ∧ w.length = rows.length ∧ checkS rows q la0 = 0 ∧ potB rows q (zeroC rows) la0 ≠ -1) := by
  cases hp with
  | bad h => exact ⟨_, _, _, _, rfl, rfl, rfl, fun _ => ⟨rfl, rfl, fun l => by rw [costS, if_pos h]; exact h⟩, fun h0 => absurd h0 h⟩
  | none h hp =>
    obtain ⟨K, hK⟩ := full_ex (good_of h)
    exact ⟨_, _, _, _, rfl, rfl, rfl, fun _ => ⟨rfl, rfl, none_cost h hp hK⟩, fun h0 => by cases h0⟩
  | plan h hp hK hw hl => exact ⟨_, _, _, _, rfl, rfl, rfl, fun h0 => absurd rfl h0, fun _ => ⟨_, _, _, _, rfl, rfl, rfl, hK, hw, hl, h, hp⟩⟩
theorem full_max {rows : Tb} {q la0 : Int} (g : Good rows q la0) {K : List Int} (hK : FullT rows q K) : K.length ≤ 9223372036854775807 ∧ ∀ i, gt K i ≤ 9223372036854775807 := by
  have h1 := num_bd g
  have h2 := hK.1
  have g1 := g.q1
  refine ⟨by omega, fun i => ?_⟩
  by_cases hi : i < K.length
  · have st := dec_st (q := q) (b := (gt rows 0).length) (k := (i : Int)) (by omega) (by omega)
    have hp := pot_rng g (decc q (gt rows 0).length i) (sum_nn _ fun y hy => (st.c.2 y hy).1) (decl (gt rows 0).length i)
    rw [hK.2 i hi]
    exact Int.le_trans hp.2 (by decide)
  · rw [gt_out _ _ (by omega)]; decide
end Go.Proofs.Ytmkalakojfpfgaa
