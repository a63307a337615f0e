/-
  Division bit by bit, and the next number: laws in plain numbers.
-/
import Derived.Test.YtokhmkkifmhfmaaDoorL
set_option linter.unusedVariables false
namespace Go.Proofs.YtokhmkkifmhfmaaDoor
open Go Go.Am
theorem four {l : List Int} (h : l.length = 4) : ∃ a b c d, l = [a, b, c, d] := by
  match l, h with
  | [a, b, c, d], _ => exact ⟨a, b, c, d, rfl⟩
theorem lm_val {l : List Int} (hl : l.length = 4) (hr : ∀ j, j < 4 → 0 ≤ gt l j ∧ gt l j ≤ 4294967295) : lm (val l) = l := by
  obtain ⟨a, b, c, d, rfl⟩ := four hl
  have h0 : 0 ≤ a ∧ a ≤ 4294967295 := hr 0 (by decide)
  have h1 : 0 ≤ b ∧ b ≤ 4294967295 := hr 1 (by decide)
  have h2 : 0 ≤ c ∧ c ≤ 4294967295 := hr 2 (by decide)
  have h3 : 0 ≤ d ∧ d ≤ 4294967295 := hr 3 (by decide)
  simp only [lm, val]
  congr 1
  · omega
  congr 1
  · omega
  congr 1
  · omega
  congr 1
  omega
theorem val_lm {m : Int} (h : 0 ≤ m ∧ m ≤ 340282366920938463463374607431768211455) : val (lm m) = m := by
  simp only [lm, val]
  omega
theorem val_nn {l : List Int} (hl : l.length = 4) (hr : ∀ j, j < 4 → 0 ≤ gt l j ∧ gt l j ≤ 4294967295) : 0 ≤ val l := by
  obtain ⟨a, b, c, d, rfl⟩ := four hl
  have h0 : 0 ≤ a ∧ a ≤ 4294967295 := hr 0 (by decide)
  have h1 : 0 ≤ b ∧ b ≤ 4294967295 := hr 1 (by decide)
  have h2 : 0 ≤ c ∧ c ≤ 4294967295 := hr 2 (by decide)
  have h3 : 0 ≤ d ∧ d ≤ 4294967295 := hr 3 (by decide)
  simp only [val]
  omega
/-! ### The next number -/
theorem inc_hit {l : List Int} {m : Int} {i : Nat} (hl : l.length = 4) (hr : ∀ j, j < 4 → 0 ≤ gt l j ∧ gt l j ≤ 4294967295) (hv : val l = m + 1 - pw i) (hi : i < 4) (hx : gt l i + 1 ≤ 4294967295) : l.set i (gt l i + 1) = lm (m + 1) := by
  have h1 : val (l.set i (gt l i + 1)) = m + 1 := by rw [val_set l i _ (by omega), hv]; grind
  rw [← h1, lm_val (by rw [List.length_set, hl])]
  intro j hj
  rw [gt_set _ _ _ _ (by omega)]
  have := hr i hi
  split
  · omega
  · exact hr j hj
theorem inc_miss {l : List Int} {m : Int} {i : Nat} (hl : l.length = 4) (hr : ∀ j, j < 4 → 0 ≤ gt l j ∧ gt l j ≤ 4294967295) (hv : val l = m + 1 - pw i) (hi : i < 4) (hx : ¬ gt l i + 1 ≤ 4294967295) : val (l.set i 0) = m + 1 - pw (i + 1) := by
  have := hr i hi
  have e : gt l i = 4294967295 := by omega
  rw [val_set l i _ (by omega), hv, pw, e]
  grind
/-! ### Bits -/
theorem pw_two (j : Nat) : pw j = (((2 : Nat) ^ (32 * j) : Nat) : Int) := by
  induction j with
  | zero => rfl
  | succ j ih =>
    rw [pw, ih, Nat.mul_succ, Nat.pow_add]
    rw [Int.natCast_mul]
    rfl
theorem two_split (e : Nat) : (2 : Nat) ^ e = 2 ^ (32 * (e / 32)) * 2 ^ (e % 32) := by
  rw [← Nat.pow_add]
  congr 1
  omega
theorem lm_nat (M : Nat) (j : Nat) (h : j < 4) : gt (lm (M : Int)) j = ((M / 2 ^ (32 * j) % 2 ^ 32 : Nat) : Int) := by
  rw [lm_gt _ j h, pw_two, Int.natCast_emod, Int.natCast_ediv]
  rfl
theorem bit_lm (M e : Nat) (he : e < 128) : gt (lm (M : Int)) (e / 32) / (2 : Int) ^ (e % 32) % 2 = ((M / 2 ^ e % 2 : Nat) : Int) := by
  rw [lm_nat M _ (by omega)]
  have e1 : ((2 : Int) ^ (e % 32)) = ((2 ^ (e % 32) : Nat) : Int) := by rw [Int.natCast_pow]; rfl
  rw [e1, ← Int.natCast_ediv]
  have e2 : (2 : Nat) ^ 32 = 2 ^ (e % 32) * 2 ^ (32 - e % 32) := by rw [← Nat.pow_add]; congr 1; omega
  have e3 : M / 2 ^ (32 * (e / 32)) % 2 ^ 32 / 2 ^ (e % 32) = M / 2 ^ e % 2 ^ (32 - e % 32) := by
    rw [e2, Nat.mod_mul_right_div_self, Nat.div_div_eq_div_mul, ← two_split]
  rw [e3]
  have e4 : M / 2 ^ e % 2 ^ (32 - e % 32) % 2 = M / 2 ^ e % 2 := by
    apply Nat.mod_mod_of_dvd
    exact ⟨2 ^ (32 - e % 32 - 1), by rw [← Nat.pow_succ']; congr 1; omega⟩
  omega
theorem dv_step (M D e : Nat) (hD : 0 < D) : ∃ r t : Nat, r = M / 2 ^ (e + 1) % D ∧ t = 2 * r + M / 2 ^ e % 2 ∧ r < D ∧
    (D ≤ t → M / 2 ^ e % D = t - D ∧ M / 2 ^ e / D * 2 ^ e = M / 2 ^ (e + 1) / D * 2 ^ (e + 1) + 2 ^ e) ∧
    (¬ D ≤ t → M / 2 ^ e % D = t ∧ M / 2 ^ e / D * 2 ^ e = M / 2 ^ (e + 1) / D * 2 ^ (e + 1)) := by
  have h1 : M / 2 ^ (e + 1) = M / 2 ^ e / 2 := by rw [Nat.pow_succ, ← Nat.div_div_eq_div_mul]
  have h2 : M / 2 ^ e = 2 * (M / 2 ^ (e + 1)) + M / 2 ^ e % 2 := by rw [h1]; omega
  have h3 := Nat.div_add_mod (M / 2 ^ (e + 1)) D
  have h4 := Nat.mod_lt (M / 2 ^ (e + 1)) hD
  have h5 : (2 : Nat) ^ (e + 1) = 2 * 2 ^ e := by rw [Nat.pow_succ]; omega
  refine ⟨_, _, rfl, rfl, h4, fun hge => ?_, fun hlt => ?_⟩
  · generalize M / 2 ^ (e + 1) / D = q at *
    generalize M / 2 ^ (e + 1) % D = r at *
    generalize M / 2 ^ e % 2 = b at *
    have h6 : M / 2 ^ e = (2 * q + 1) * D + (2 * r + b - D) := by
      rw [h2, ← h3]
      have : D * q = q * D := Nat.mul_comm _ _
      have h7 : (2 * q + 1) * D = 2 * (q * D) + D := by rw [Nat.add_mul, Nat.mul_assoc]; omega
      omega
    have hb : b < 2 := by omega
    rw [h6]
    have h8 : 2 * r + b - D < D := by omega
    refine ⟨by rw [Nat.mul_comm, Nat.mul_add_mod, Nat.mod_eq_of_lt h8], ?_⟩
    rw [Nat.mul_comm (2 * q + 1), Nat.mul_add_div hD, Nat.div_eq_of_lt h8, Nat.add_zero, Nat.add_mul, h5]
    grind
  · generalize M / 2 ^ (e + 1) / D = q at *
    generalize M / 2 ^ (e + 1) % D = r at *
    generalize M / 2 ^ e % 2 = b at *
    have h6 : M / 2 ^ e = (2 * q) * D + (2 * r + b) := by
      rw [h2, ← h3]
      have : D * q = q * D := Nat.mul_comm _ _
      have h7 : (2 * q) * D = 2 * (q * D) := by rw [Nat.mul_assoc]
      omega
    rw [h6]
    have h8 : 2 * r + b < D := by omega
    refine ⟨by rw [Nat.mul_comm, Nat.mul_add_mod, Nat.mod_eq_of_lt h8], ?_⟩
    rw [Nat.mul_comm (2 * q), Nat.mul_add_div hD, Nat.div_eq_of_lt h8, Nat.add_zero, h5]
    grind
/-- The quotient's next bit. -/
theorem set_bit (k e : Nat) (he : e < 128) : ∃ m : Nat, gt (lm ((k * 2 ^ (e + 1) : Nat) : Int)) (e / 32) = ((m * 2 ^ (e % 32 + 1) : Nat) : Int) ∧ m * 2 ^ (e % 32 + 1) + 2 ^ (e % 32) < 4294967296 ∧
    (k * 2 ^ (e + 1) < 340282366920938463463374607431768211456 → (lm ((k * 2 ^ (e + 1) : Nat) : Int)).set (e / 32) ((m * 2 ^ (e % 32 + 1) + 2 ^ (e % 32) : Nat) : Int) = lm ((k * 2 ^ (e + 1) + 2 ^ e : Nat) : Int)) := by
  have hs : e % 32 < 32 := by omega
  have e1 : k * 2 ^ (e + 1) / 2 ^ (32 * (e / 32)) = k * 2 ^ (e % 32 + 1) := by
    have : (2 : Nat) ^ (e + 1) = 2 ^ (e % 32 + 1) * 2 ^ (32 * (e / 32)) := by rw [← Nat.pow_add]; congr 1; omega
    rw [this, ← Nat.mul_assoc, Nat.mul_div_cancel _ (Nat.pow_pos (by decide))]
  have e2 : (2 : Nat) ^ 32 = 2 ^ (32 - (e % 32 + 1)) * 2 ^ (e % 32 + 1) := by rw [← Nat.pow_add]; congr 1; omega
  have e3 : gt (lm ((k * 2 ^ (e + 1) : Nat) : Int)) (e / 32) = ((k % 2 ^ (32 - (e % 32 + 1)) * 2 ^ (e % 32 + 1) : Nat) : Int) := by
    rw [lm_nat _ _ (by omega), e1, e2, Nat.mul_mod_mul_right]
  have hlt : k % 2 ^ (32 - (e % 32 + 1)) * 2 ^ (e % 32 + 1) + 2 ^ (e % 32 + 1) ≤ 4294967296 := by
    have h1 : k % 2 ^ (32 - (e % 32 + 1)) + 1 ≤ 2 ^ (32 - (e % 32 + 1)) := Nat.mod_lt _ (Nat.pow_pos (by decide))
    have h2 := Nat.mul_le_mul_right (2 ^ (e % 32 + 1)) h1
    rw [← e2, Nat.succ_mul] at h2
    exact h2
  have hp : (2 : Nat) ^ (e % 32 + 1) = 2 * 2 ^ (e % 32) := by rw [Nat.pow_succ]; omega
  have hpp : 0 < (2 : Nat) ^ (e % 32) := Nat.pow_pos (by decide)
  refine ⟨_, e3, by omega, fun hq => ?_⟩
  have hqr : 0 ≤ ((k * 2 ^ (e + 1) : Nat) : Int) ∧ ((k * 2 ^ (e + 1) : Nat) : Int) ≤ 340282366920938463463374607431768211455 := by omega
  have hv : val ((lm ((k * 2 ^ (e + 1) : Nat) : Int)).set (e / 32) ((k % 2 ^ (32 - (e % 32 + 1)) * 2 ^ (e % 32 + 1) + 2 ^ (e % 32) : Nat) : Int)) = ((k * 2 ^ (e + 1) + 2 ^ e : Nat) : Int) := by
    rw [val_set _ _ _ (by rw [lm_len]; omega), e3, val_lm hqr, pw_two, Int.natCast_add (k * 2 ^ (e + 1)), two_split e, Int.natCast_mul (2 ^ (32 * (e / 32))), Int.natCast_add]
    grind
  rw [← hv, lm_val (by rw [List.length_set]; rfl)]
  intro j hj
  rw [gt_set _ _ _ _ (by rw [lm_len]; omega)]
  split
  · omega
  · exact lm_rng _ j hj
/-! ### The steps over bits -/
theorem shr63u (a : Int) (t : TypeId) (k : IntKind) : binV Tryd.prog .shr t (u6 a) (.v (.int k 63)) = some (u6 (a / 9223372036854775808)) := shr_u6 a 63 (by decide) t k
theorem shl1 (a : Int) (t : TypeId) (k : IntKind) : binV Tryd.prog .shl t (u6 a) (.v (.int k 1)) = some (u6 (a * 2 % 18446744073709551616)) := shl_u6 a 1 (by decide) t k
theorem and1 (a : Int) (h0 : 0 ≤ a) (h1 : a ≤ 18446744073709551615) (t : TypeId) : binV Tryd.prog .and t (u6 a) (u6 1) = some (u6 (a % 2)) := by
  obtain ⟨m, rfl⟩ : ∃ m : Nat, a = (m : Int) := ⟨a.toNat, by omega⟩
  simp only [binV, intBin, if_true, Option.map_some]
  have hbits : IntKind.u64.bits = 64 := rfl
  rw [hbits]
  have h2 : (BitVec.ofInt 64 (m : Int) &&& BitVec.ofInt 64 (1 : Int)).toNat = m % 2 := by
    rw [BitVec.toNat_and, BitVec.toNat_ofInt, BitVec.toNat_ofInt]
    have e1 : ((m : Int) % (2 ^ 64 : Nat)).toNat = m := by omega
    have e2 : ((1 : Int) % (2 ^ 64 : Nat)).toNat = 1 := by decide
    rw [e1, e2]
    exact Nat.and_two_pow_sub_one_eq_mod m 1
  rw [h2, wrap_u]
  congr 3
  omega
theorem or1 (a b : Int) (ha : 0 ≤ a) (hb : 0 ≤ b ∧ b < 2) (t : TypeId) : binV Tryd.prog .or t (u6 (a * 2 % 18446744073709551616)) (u6 b) = some (u6 (a * 2 % 18446744073709551616 + b)) := by
  obtain ⟨m, hm⟩ : ∃ m : Nat, a % 9223372036854775808 = (m : Int) := ⟨(a % 9223372036854775808).toNat, by omega⟩
  obtain ⟨n, rfl⟩ : ∃ n : Nat, b = (n : Int) := ⟨b.toNat, by omega⟩
  have h := or_u6 m n 1 (by omega) (by omega) t
  rw [Nat.pow_one] at h
  have e1 : ((m * 2 : Nat) : Int) = a * 2 % 18446744073709551616 := by omega
  rw [Int.natCast_add, e1] at h
  exact h
theorem or_bit (m s : Nat) (h : m * 2 ^ (s + 1) + 2 ^ s < 4294967296) (t : TypeId) : binV Tryd.prog .or t (u6 ((m * 2 ^ (s + 1) : Nat) : Int)) (u6 ((2 ^ s : Nat) : Int)) = some (u6 ((m * 2 ^ (s + 1) + 2 ^ s : Nat) : Int)) :=
  or_u6 m (2 ^ s) (s + 1) (by rw [Nat.pow_succ]; have := Nat.pow_pos (a := 2) (n := s) (by decide); omega) (by omega) t
theorem one_shl (s : Nat) (hs : s < 32) (t : TypeId) (k : IntKind) : binV Tryd.prog .shl t (u6 1) (.v (.int k (s : Int))) = some (u6 ((2 ^ s : Nat) : Int)) := by
  rw [shl_u6 1 s (by omega), Int.one_mul]
  have e1 : ((2 : Int) ^ s) = ((2 ^ s : Nat) : Int) := by rw [Int.natCast_pow]; rfl
  have h : (2 : Nat) ^ s < 2 ^ 32 := Nat.pow_lt_pow_right (by decide) hs
  have h32 : (2 : Nat) ^ 32 = 4294967296 := by decide
  have key : ∀ P : Nat, P < 4294967296 → (P : Int) % 18446744073709551616 = (P : Int) := fun P hP => by omega
  rw [e1, key _ (by rw [← h32]; exact h)]
end Go.Proofs.YtokhmkkifmhfmaaDoor
