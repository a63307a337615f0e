/-
  States of an allocation, their numbers, and what it costs to go on from them: plain terms.
-/
import Derived.Test.YtmkalakojfpfgaaP
import Derived.Test.YtmkalakojfpfgaaAmU
set_option linter.unusedVariables false
namespace Go.Proofs.Ytmkalakojfpfgaa
open Go Go.Am

def encC (q : Int) : List Int → Int
  | [] => 0
  | x :: r => x + (q + 1) * encC q r
def decC (q : Int) : Nat → Int → List Int
  | 0, _ => []
  | k + 1, m => m % (q + 1) :: decC q k (m / (q + 1))
def sumL : List Int → Int
  | [] => 0
  | x :: r => x + sumL r
def OkC (q : Int) (b : Nat) (c : List Int) : Prop := c.length = b ∧ ∀ x, x ∈ c → 0 ≤ x ∧ x ≤ q
theorem pow_pos' {q : Int} (hq : 0 ≤ q) (k : Nat) : 0 < (q + 1) ^ k := Int.pow_pos (by omega)
theorem enc_rng {q : Int} (hq : 0 ≤ q) : ∀ (c : List Int), (∀ x, x ∈ c → 0 ≤ x ∧ x ≤ q) → 0 ≤ encC q c ∧ encC q c < (q + 1) ^ c.length
  | [], _ => ⟨Int.le_refl _, by simp [encC]⟩
  | x :: r, h => by
    have ih := enc_rng hq r fun y hy => h y (List.mem_cons_of_mem _ hy)
    have hx := h x (List.mem_cons_self ..)
    rw [encC, List.length_cons, Int.pow_succ]
    have h1 : 0 ≤ (q + 1) * encC q r := Int.mul_nonneg (by omega) ih.1
    have h2 : (q + 1) * (encC q r + 1) ≤ (q + 1) * (q + 1) ^ r.length := Int.mul_le_mul_of_nonneg_left (by omega) (by omega)
    rw [Int.mul_add, Int.mul_one, Int.mul_comm (q + 1) ((q + 1) ^ r.length)] at h2
    exact ⟨by omega, by omega⟩
theorem dec_len {q : Int} : ∀ (k : Nat) (m : Int), (decC q k m).length = k
  | 0, _ => rfl
  | k + 1, m => by rw [decC, List.length_cons, dec_len k]
theorem dec_rng {q : Int} (hq : 0 ≤ q) : ∀ (k : Nat) (m : Int), ∀ x, x ∈ decC q k m → 0 ≤ x ∧ x ≤ q
  | 0, _, x, hx => by simp [decC] at hx
  | k + 1, m, x, hx => by
    rw [decC, List.mem_cons] at hx
    rcases hx with rfl | hx
    · have h1 := Int.emod_nonneg m (show q + 1 ≠ 0 by omega)
      have h2 := Int.emod_lt_of_pos m (show 0 < q + 1 by omega)
      omega
    · exact dec_rng hq k _ x hx
theorem dec_ok {q : Int} (hq : 0 ≤ q) (k : Nat) (m : Int) : OkC q k (decC q k m) := ⟨dec_len k m, dec_rng hq k m⟩
theorem enc_dec {q : Int} (hq : 0 ≤ q) : ∀ (k : Nat) (m : Int), 0 ≤ m → m < (q + 1) ^ k → encC q (decC q k m) = m
  | 0, m, h0, h1 => by
    rw [Int.pow_zero] at h1
    rw [decC, encC]; omega
  | k + 1, m, h0, h1 => by
    rw [Int.pow_succ] at h1
    have h2 : m / (q + 1) < (q + 1) ^ k := Int.ediv_lt_of_lt_mul (by omega) h1
    rw [decC, encC, enc_dec hq k _ (Int.ediv_nonneg h0 (by omega)) h2]
    have := Int.emod_add_mul_ediv m (q + 1)
    omega
theorem dec_enc {q : Int} (hq : 0 ≤ q) : ∀ (c : List Int), (∀ x, x ∈ c → 0 ≤ x ∧ x ≤ q) → decC q c.length (encC q c) = c
  | [], _ => rfl
  | x :: r, h => by
    have ih := dec_enc hq r fun y hy => h y (List.mem_cons_of_mem _ hy)
    have hx := h x (List.mem_cons_self ..)
    have h1 : (x + (q + 1) * encC q r) % (q + 1) = x := by
      rw [Int.add_mul_emod_self_left]
      exact Int.emod_eq_of_lt hx.1 (by omega)
    have h2 : (x + (q + 1) * encC q r) / (q + 1) = encC q r := by
      rw [Int.add_mul_ediv_left _ _ (by omega), Int.ediv_eq_zero_of_lt hx.1 (by omega)]
      omega
    rw [List.length_cons, decC, encC, h1, h2, ih]
/-- The number of a state. -/
def idxS (q : Int) (b : Nat) (c : List Int) (la : Int) : Int := encC q c * ((b : Int) + 1) + la + 1
abbrev decc (q : Int) (b : Nat) (k : Int) : List Int := decC q b (k / ((b : Int) + 1))
abbrev decl (b : Nat) (k : Int) : Int := k % ((b : Int) + 1) - 1
def numS (q : Int) (b : Nat) : Int := ((b : Int) + 1) * (q + 1) ^ b
theorem stV_pow {q : Int} (hq : 0 ≤ q) : ∀ (k : Nat) (n : Int), 0 < n → stV q n k ≤ 200000 → stV q n k = n * (q + 1) ^ k
  | 0, n, _, _ => by rw [stV, Int.pow_zero, Int.mul_one]
  | k + 1, n, hn, h => by
    unfold stV at h ⊢
    split at h
    · omega
    · rename_i h1
      rw [if_neg h1, stV_pow hq k _ (Int.mul_pos hn (by omega)) h, Int.pow_succ, Int.mul_assoc, Int.mul_comm (q + 1)]
theorem num_eq {rows : Tb} {q la : Int} (g : Good rows q la) : stN rows q = numS q (gt rows 0).length := by
  have h1 := g.q1
  exact stV_pow (by omega) _ _ (by omega) g.st
structure StOK (q : Int) (b : Nat) (c : List Int) (la : Int) : Prop where
  c : OkC q b c
  l0 : -1 ≤ la
  l1 : la < b
theorem idx_rng {q : Int} {b : Nat} {c : List Int} {la : Int} (hq : 0 ≤ q) (h : StOK q b c la) : 0 ≤ idxS q b c la ∧ idxS q b c la < numS q b := by
  have e := enc_rng hq c h.c.2
  rw [h.c.1] at e
  have l0 := h.l0
  have l1 := h.l1
  have h1 : 0 ≤ encC q c * ((b : Int) + 1) := Int.mul_nonneg e.1 (by omega)
  have h2 : (encC q c + 1) * ((b : Int) + 1) ≤ (q + 1) ^ b * ((b : Int) + 1) := Int.mul_le_mul_of_nonneg_right (by omega) (by omega)
  rw [Int.add_mul, Int.one_mul] at h2
  unfold idxS numS
  rw [Int.mul_comm ((b : Int) + 1)]
  exact ⟨by omega, by omega⟩
theorem dec_idx {q : Int} {b : Nat} {c : List Int} {la : Int} (hq : 0 ≤ q) (h : StOK q b c la) : decc q b (idxS q b c la) = c ∧ decl b (idxS q b c la) = la := by
  have l0 := h.l0
  have l1 := h.l1
  have e1 : idxS q b c la = (la + 1) + ((b : Int) + 1) * encC q c := by unfold idxS; rw [Int.mul_comm]; omega
  constructor
  · unfold decc
    rw [e1, Int.add_mul_ediv_left _ _ (by omega), Int.ediv_eq_zero_of_lt (by omega) (by omega), Int.zero_add]
    have := dec_enc hq c h.c.2
    rwa [h.c.1] at this
  · unfold decl
    rw [e1, Int.add_mul_emod_self_left, Int.emod_eq_of_lt (by omega) (by omega)]
    omega
theorem dec_st {q : Int} {b : Nat} {k : Int} (hq : 0 ≤ q) (h0 : 0 ≤ k) : StOK q b (decc q b k) (decl b k) := by
  have h1 := Int.emod_nonneg k (show (b : Int) + 1 ≠ 0 by omega)
  have h2 := Int.emod_lt_of_pos k (show 0 < (b : Int) + 1 by omega)
  exact ⟨dec_ok hq _ _, by unfold decl; omega, by unfold decl; omega⟩
theorem idx_dec {q : Int} {b : Nat} {k : Int} (hq : 0 ≤ q) (h0 : 0 ≤ k) (h1 : k < numS q b) : idxS q b (decc q b k) (decl b k) = k := by
  have h2 : k / ((b : Int) + 1) < (q + 1) ^ b := by
    unfold numS at h1
    rw [Int.mul_comm] at h1
    exact Int.ediv_lt_of_lt_mul (by omega) h1
  unfold idxS decc decl
  rw [enc_dec hq _ _ (Int.ediv_nonneg h0 (by omega)) h2]
  have := Int.emod_add_mul_ediv k ((b : Int) + 1)
  rw [Int.mul_comm] at this
  omega
/-- One over more. -/
abbrev aft (c : List Int) (j : Nat) : List Int := c.set j (gt c j + 1)
theorem aft_ok {q : Int} {b : Nat} {c : List Int} {j : Nat} (h : OkC q b c) (hj : j < b) (hc : gt c j < q) : OkC q b (aft c j) := by
  refine ⟨by rw [aft, List.length_set, h.1], fun x hx => ?_⟩
  rcases List.mem_or_eq_of_mem_set hx with hx | rfl
  · exact h.2 x hx
  · have := h.2 (gt c j) (by rw [gt_eq _ _ (by rw [h.1]; exact hj)]; exact List.getElem_mem _)
    omega
theorem aft_st {q : Int} {b : Nat} {c : List Int} {la : Int} {j : Nat} (h : StOK q b c la) (hj : j < b) (hc : gt c j < q) : StOK q b (aft c j) j := ⟨aft_ok h.c hj hc, by omega, by omega⟩
theorem sum_aft : ∀ (c : List Int) (j : Nat), j < c.length → sumL (aft c j) = sumL c + 1
  | [], j, h => by simp at h
  | x :: r, 0, _ => by
    show sumL ((x + 1) :: r) = _
    rw [sumL, sumL]; omega
  | x :: r, j + 1, h => by
    have ih := sum_aft r j (by simpa using h)
    show sumL (x :: aft r j) = _
    rw [sumL, sumL, ih]; omega
theorem sum_nn : ∀ (c : List Int), (∀ x, x ∈ c → 0 ≤ x) → 0 ≤ sumL c
  | [], _ => Int.le_refl _
  | x :: r, h => by
    have := h x (List.mem_cons_self ..)
    have := sum_nn r fun y hy => h y (List.mem_cons_of_mem _ hy)
    rw [sumL]; omega
theorem enc_aft {q : Int} (hq : 0 ≤ q) : ∀ (c : List Int) (j : Nat), j < c.length → encC q c < encC q (aft c j)
  | [], j, h => by simp at h
  | x :: r, 0, _ => by
    show _ < encC q ((x + 1) :: r)
    rw [encC, encC]; omega
  | x :: r, j + 1, h => by
    have ih := enc_aft hq r j (by simpa using h)
    show _ < encC q (x :: aft r j)
    rw [encC, encC]
    have := Int.mul_lt_mul_of_pos_left ih (show 0 < q + 1 by omega)
    omega
theorem idx_aft {q : Int} {b : Nat} {c : List Int} {la : Int} {j : Nat} (hq : 0 ≤ q) (h : StOK q b c la) (hj : j < b) (hla : (j : Int) ≠ la) : idxS q b c la < idxS q b (aft c j) j := by
  have e := enc_aft hq c j (by rw [h.c.1]; exact hj)
  have l1 := h.l1
  have h1 : (encC q c + 1) * ((b : Int) + 1) ≤ encC q (aft c j) * ((b : Int) + 1) := Int.mul_le_mul_of_nonneg_right (by omega) (by omega)
  rw [Int.add_mul, Int.one_mul] at h1
  unfold idxS
  omega
/-- What it costs to go on: -1 if that cannot be. -/
def scanJ (rows : Tb) (q : Int) (i : Nat) (c : List Int) (la : Int) (g : Nat → Int) : Nat → Int
  | 0 => -1
  | j + 1 =>
    if (j : Int) ≠ la ∧ gt c j < q ∧ g j ≠ -1 ∧ (scanJ rows q i c la g j = -1 ∨ gt (gt rows i) j + g j < scanJ rows q i c la g j) then gt (gt rows i) j + g j else scanJ rows q i c la g j
def potF (rows : Tb) (q : Int) (b : Nat) : Nat → List Int → Int → Int
  | 0, c, _ => if sumL c = rows.length then 0 else -1
  | k + 1, c, la => scanJ rows q (sumL c).toNat c la (fun j => potF rows q b k (aft c j) j) b
def pot (rows : Tb) (q : Int) (b : Nat) (c : List Int) (la : Int) : Int := potF rows q b ((rows.length : Int) - sumL c).toNat c la
abbrev potK (rows : Tb) (q : Int) (b : Nat) (k : Int) : Int := pot rows q b (decc q b k) (decl b k)
theorem scan_rng {rows : Tb} {q : Int} {i : Nat} {c : List Int} {la : Int} {g : Nat → Int} {B : Int} (hB : 0 ≤ B) (hr : ∀ j, 0 ≤ gt (gt rows i) j ∧ gt (gt rows i) j ≤ 1048576) (hg : ∀ j, -1 ≤ g j ∧ g j ≤ B) : ∀ j, -1 ≤ scanJ rows q i c la g j ∧ scanJ rows q i c la g j ≤ B + 1048576
  | 0 => ⟨Int.le_refl _, by rw [scanJ]; omega⟩
  | j + 1 => by
    have ih := scan_rng hB hr hg j (q := q) (c := c) (la := la)
    have := hr j
    have := hg j
    rw [scanJ]
    split <;> omega
theorem gt_out {α : Type} [Inhabited α] (l : List α) (i : Nat) (h : l.length ≤ i) : gt l i = default := by simp [gt, List.getD_eq_getElem?_getD, h]
theorem cell_rng {rows : Tb} {q la0 : Int} (g : Good rows q la0) (i j : Nat) : 0 ≤ gt (gt rows i) j ∧ gt (gt rows i) j ≤ 1048576 := by
  by_cases hi : i < rows.length
  · by_cases hj : j < (gt rows i).length
    · exact g.rng i hi j hj
    · rw [gt_out _ j (by omega)]; exact ⟨Int.le_refl _, by decide⟩
  · rw [gt_out rows i (by omega)]
    rw [gt_out _ j (by exact Nat.zero_le _)]
    exact ⟨Int.le_refl _, by decide⟩
theorem pot_rngF {rows : Tb} {q la0 : Int} (g : Good rows q la0) : ∀ (k : Nat) (c : List Int) (la : Int), -1 ≤ potF rows q (gt rows 0).length k c la ∧ potF rows q (gt rows 0).length k c la ≤ 1048576 * (k : Int)
  | 0, c, la => by rw [potF]; split <;> simp
  | k + 1, c, la => by
    have h := scan_rng (rows := rows) (q := q) (i := (sumL c).toNat) (c := c) (la := la) (g := fun j => potF rows q (gt rows 0).length k (aft c j) j) (B := 1048576 * (k : Int)) (by omega) (cell_rng g _) (fun j => pot_rngF g k _ _) (gt rows 0).length
    rw [potF]
    exact ⟨h.1, by omega⟩
theorem pot_rng {rows : Tb} {q la0 : Int} (g : Good rows q la0) (c : List Int) (hc : 0 ≤ sumL c) (la : Int) : -1 ≤ pot rows q (gt rows 0).length c la ∧ pot rows q (gt rows 0).length c la ≤ 12582912 := by
  have h := pot_rngF g ((rows.length : Int) - sumL c).toNat c la
  have := g.most
  unfold pot
  exact ⟨h.1, by omega⟩
theorem scan_congr {rows : Tb} {q : Int} {i : Nat} {c : List Int} {la : Int} {g h : Nat → Int} : ∀ j, (∀ k, k < j → g k = h k) → scanJ rows q i c la g j = scanJ rows q i c la h j
  | 0, _ => rfl
  | j + 1, e => by rw [scanJ, scanJ, scan_congr j fun k hk => e k (by omega), e j (by omega)]
theorem pot_lt {rows : Tb} {q : Int} {b : Nat} {c : List Int} {la : Int} (hl : c.length = b) (h : sumL c < rows.length) : pot rows q b c la = scanJ rows q (sumL c).toNat c la (fun j => pot rows q b (aft c j) j) b := by
  obtain ⟨k, hk⟩ : ∃ k : Nat, ((rows.length : Int) - sumL c).toNat = k + 1 := ⟨((rows.length : Int) - sumL c).toNat - 1, by omega⟩
  unfold pot
  rw [hk, potF]
  refine scan_congr b fun j hj => ?_
  rw [sum_aft c j (by omega), show ((rows.length : Int) - (sumL c + 1)).toNat = k by omega]
theorem pot_eq {rows : Tb} {q : Int} {b : Nat} {c : List Int} {la : Int} (h : sumL c = rows.length) : pot rows q b c la = 0 := by
  unfold pot
  rw [show ((rows.length : Int) - sumL c).toNat = 0 by omega, potF, if_pos h]
theorem pot_gt {rows : Tb} {q : Int} {b : Nat} {c : List Int} {la : Int} (h : (rows.length : Int) < sumL c) : pot rows q b c la = -1 := by
  unfold pot
  rw [show ((rows.length : Int) - sumL c).toNat = 0 by omega, potF, if_neg (by omega)]
theorem potK_idx {rows : Tb} {q : Int} {b : Nat} {c : List Int} {la : Int} (hq : 0 ≤ q) (h : StOK q b c la) : potK rows q b (idxS q b c la) = pot rows q b c la := by
  have := dec_idx hq h
  unfold potK
  rw [this.1, this.2]
/-- A table that is being filled. -/
structure TabOK (rows : Tb) (q : Int) (b : Nat) (K : List Int) : Prop where
  len : (K.length : Int) = numS q b
  val : ∀ i, i < K.length → gt K i = -2 ∨ gt K i = potK rows q b i
theorem enc_drop {q : Int} {c : List Int} {j : Nat} (h : j < c.length) : encC q (c.drop j) = gt c j + (q + 1) * encC q (c.drop (j + 1)) := by
  rw [drop_gt c j h, encC]
theorem sum_take {c : List Int} : ∀ (j : Nat), j < c.length → sumL (c.take (j + 1)) = sumL (c.take j) + gt c j := by
  have key : ∀ (l : List Int) (x : Int), sumL (l ++ [x]) = sumL l + x := by
    intro l x
    induction l with
    | nil => simp [sumL]
    | cons y r ih => rw [List.cons_append, sumL, sumL, ih]; omega
  intro j hj
  rw [take_gt hj, key]
theorem okc_gt {q : Int} {b : Nat} {c : List Int} (h : OkC q b c) {j : Nat} (hj : j < b) : 0 ≤ gt c j ∧ gt c j ≤ q := h.2 _ (by rw [gt_eq _ _ (by rw [h.1]; exact hj)]; exact List.getElem_mem _)
theorem okc_drop {q : Int} {b : Nat} {c : List Int} (h : OkC q b c) (j : Nat) : ∀ x, x ∈ c.drop j → 0 ≤ x ∧ x ≤ q := fun x hx => h.2 x (List.mem_of_mem_drop hx)
theorem sum_le {q : Int} : ∀ (c : List Int), (∀ x, x ∈ c → 0 ≤ x ∧ x ≤ q) → 0 ≤ sumL c ∧ sumL c ≤ q * c.length
  | [], _ => ⟨Int.le_refl _, by simp [sumL]⟩
  | x :: r, h => by
    have h1 := h x (List.mem_cons_self ..)
    have h2 := sum_le r fun y hy => h y (List.mem_cons_of_mem _ hy)
    rw [sumL, List.length_cons]
    have h3 : q * ((r.length + 1 : Nat) : Int) = q * r.length + q := by rw [Int.natCast_add, Int.mul_add]; simp
    exact ⟨by omega, by omega⟩
end Go.Proofs.Ytmkalakojfpfgaa
