/-
  The long division of two words by one, digit by digit: laws in plain numbers.
-/
import Derived.Test.YtokhmkkifmhfmaaDoorA2
import Derived.Lib.BitFns
set_option linter.unusedVariables false
namespace Go.Proofs.YtokhmkkifmhfmaaDoor
open Go Go.Am
theorem bitLen_spec : ∀ (f x : Nat), x < 2 ^ f → x ≠ 0 → 1 ≤ Lib.bitLenAux f x ∧ Lib.bitLenAux f x ≤ f ∧ 2 ^ (Lib.bitLenAux f x - 1) ≤ x ∧ x < 2 ^ Lib.bitLenAux f x
  | 0, x, h, h0 => by simp at h; omega
  | f + 1, x, h, h0 => by
    have e : (2 : Nat) ^ (f + 1) = 2 * 2 ^ f := by rw [Nat.pow_succ]; omega
    rw [Lib.bitLenAux, if_neg h0]
    by_cases hx : x / 2 = 0
    · have hx1 : x = 1 := by omega
      subst hx1
      rw [show 1 / 2 = 0 from rfl]
      have hz : Lib.bitLenAux f 0 = 0 := by cases f <;> simp [Lib.bitLenAux]
      rw [hz]
      exact ⟨by omega, by omega, by decide, by decide⟩
    · obtain ⟨h1, h2, h3, h4⟩ := bitLen_spec f (x / 2) (by omega) hx
      generalize Lib.bitLenAux f (x / 2) = L at *
      obtain ⟨L, rfl⟩ : ∃ M, L = M + 1 := ⟨L - 1, by omega⟩
      have e2 : (2 : Nat) ^ (1 + (L + 1)) = 2 * 2 ^ (L + 1) := by rw [Nat.add_comm 1, Nat.pow_succ]; omega
      have e3 : (2 : Nat) ^ (1 + (L + 1) - 1) = 2 * 2 ^ L := by rw [show 1 + (L + 1) - 1 = L + 1 by omega, Nat.pow_succ]; omega
      rw [Nat.add_sub_cancel] at h3
      refine ⟨by omega, by omega, by omega, by omega⟩
/-! ### One digit -/
theorem dg_hi {y1 y0 u v q rh Y : Int} (hY : Y = y1 * 4294967296 + y0) (hYp : 0 < Y) (hv : 0 ≤ v ∧ v < 4294967296) (hq : q * y1 + rh = u) (hu : u < Y) (hc : 4294967296 ≤ q ∨ 4294967296 * rh + v < q * y0) : (u * 4294967296 + v) / Y < q := by
  rw [Int.ediv_lt_iff_lt_mul hYp]
  rcases hc with hc | hc
  · have h1 : 4294967296 * Y ≤ q * Y := Int.mul_le_mul_of_nonneg_right hc (by omega)
    omega
  · have h1 : q * Y = q * y1 * 4294967296 + q * y0 := by rw [hY]; grind
    omega
theorem dg_lo {y1 y0 u v q rh Y : Int} (hY : Y = y1 * 4294967296 + y0) (hYp : 0 < Y) (hq : q * y1 + rh = u) (hc : q * y0 ≤ 4294967296 * rh + v) : q ≤ (u * 4294967296 + v) / Y := by
  rw [Int.le_ediv_iff_mul_le hYp]
  have h1 : q * Y = q * y1 * 4294967296 + q * y0 := by rw [hY]; grind
  omega
theorem dg_big {y0 q rh v : Int} (hq0 : 0 ≤ q) (hq : q ≤ 4294967296) (hy0 : 0 ≤ y0 ∧ y0 < 4294967296) (hrh : 4294967296 ≤ rh) (hv : 0 ≤ v) : q * y0 ≤ 4294967296 * rh + v := by
  have h1 := mul_le' (a := q) (b := y0) (c := 4294967296) (d := 4294967295) hq0 hq hy0.1 (by omega)
  omega
theorem dg_init {y1 y0 u v Y : Int} (hY : Y = y1 * 4294967296 + y0) (hy1 : 2147483648 ≤ y1 ∧ y1 < 4294967296) (hy0 : 0 ≤ y0 ∧ y0 < 4294967296) (hv : 0 ≤ v ∧ v < 4294967296) (hu0 : 0 ≤ u) (hu : u < Y) :
    (u * 4294967296 + v) / Y ≤ u / y1 ∧ u / y1 ≤ 4294967297 ∧ 0 ≤ u / y1 * y1 ∧ u / y1 * y1 ≤ u ∧ u - u / y1 * y1 < 4294967296 ∧ 0 ≤ (u * 4294967296 + v) / Y := by
  have hYp : 0 < Y := by omega
  have hQ0 : 0 ≤ (u * 4294967296 + v) / Y := Int.ediv_nonneg (by omega) (by omega)
  have h1 := Int.mul_ediv_add_emod u y1
  have h2 := Int.emod_nonneg u (show y1 ≠ 0 by omega)
  have h3 := Int.emod_lt_of_pos u (show 0 < y1 by omega)
  have h4 : y1 * (u / y1) = u / y1 * y1 := Int.mul_comm _ _
  have h5 : 0 ≤ u / y1 := Int.ediv_nonneg hu0 (by omega)
  refine ⟨?_, ?_, Int.mul_nonneg h5 (by omega), by omega, by omega, hQ0⟩
  · rw [Int.le_ediv_iff_mul_le (by omega)]
    have h6 : (u * 4294967296 + v) / Y * Y ≤ u * 4294967296 + v := Int.ediv_mul_le _ (by omega)
    generalize (u * 4294967296 + v) / Y = Q at *
    have h7 : Q * Y = Q * y1 * 4294967296 + Q * y0 := by rw [hY]; grind
    have h8 : 0 ≤ Q * y0 := Int.mul_nonneg hQ0 hy0.1
    omega
  · have h6 : u / y1 < 4294967298 := by
      rw [Int.ediv_lt_iff_lt_mul (by omega)]
      omega
    omega
/-- The rest behind a digit. -/
theorem dg_rest {u v Y q : Int} (hYp : 0 < Y) (hq : q = (u * 4294967296 + v) / Y) : 0 ≤ u * 4294967296 + v - q * Y ∧ u * 4294967296 + v - q * Y < Y := by
  have h1 := Int.mul_ediv_add_emod (u * 4294967296 + v) Y
  have h2 := Int.emod_nonneg (u * 4294967296 + v) (show Y ≠ 0 by omega)
  have h3 := Int.emod_lt_of_pos (u * 4294967296 + v) hYp
  rw [← hq, Int.mul_comm] at h1
  omega
theorem dg_lt {u v Y q : Int} (hYp : 0 < Y) (hv : 0 ≤ v ∧ v < 4294967296) (hu0 : 0 ≤ u) (hu : u < Y) (hq : q = (u * 4294967296 + v) / Y) : 0 ≤ q ∧ q < 4294967296 := by
  subst hq
  refine ⟨Int.ediv_nonneg (by omega) (by omega), ?_⟩
  rw [Int.ediv_lt_iff_lt_mul hYp]
  omega
/-- Both digits. -/
theorem d64_post {N y p Y u v q1 q0 u2 : Int} (hy : 0 < y) (hp : 0 < p) (hY : Y = y * p) (hN : N * p = u * 18446744073709551616 + v) (hv : 0 ≤ v ∧ v ≤ 18446744073709551615)
    (hu2 : u2 = u * 4294967296 + v / 4294967296 - q1 * Y) (hq0 : q0 = (u2 * 4294967296 + v % 4294967296) / Y) :
    q1 * 4294967296 + q0 = N / y ∧ (u2 * 4294967296 + v % 4294967296 - q0 * Y) / p = N % y := by
  have hYp : 0 < Y := by rw [hY]; exact Int.mul_pos hy hp
  obtain ⟨hr0, hr1⟩ := dg_rest hYp hq0
  generalize hR : u2 * 4294967296 + v % 4294967296 - q0 * Y = R at *
  have hvv : v = v / 4294967296 * 4294967296 + v % 4294967296 := by omega
  generalize v / 4294967296 = v1 at *
  generalize v % 4294967296 = v0 at *
  have key : R = (N - (q1 * 4294967296 + q0) * y) * p := by
    have e1 : (N - (q1 * 4294967296 + q0) * y) * p = N * p - (q1 * 4294967296 + q0) * (y * p) := by grind
    rw [e1, hN, ← hY]
    grind
  have h0 : 0 ≤ N - (q1 * 4294967296 + q0) * y := by
    rcases Int.lt_or_le (N - (q1 * 4294967296 + q0) * y) 0 with hneg | h
    · have := Int.mul_neg_of_neg_of_pos hneg hp
      omega
    · exact h
  have h1 : N - (q1 * 4294967296 + q0) * y < y := by
    have : (N - (q1 * 4294967296 + q0) * y) * p < y * p := by rw [← key, ← hY]; exact hr1
    exact Int.lt_of_mul_lt_mul_right this (by omega)
  have hdiv : N / y = q1 * 4294967296 + q0 := by
    rw [Int.ediv_eq_iff_of_pos hy]
    constructor <;> grind
  refine ⟨hdiv.symm, ?_⟩
  rw [key, Int.mul_ediv_cancel _ (by omega)]
  have := Int.mul_ediv_add_emod N y
  rw [hdiv] at this
  grind
/-! ### The words that are shifted -/
theorem or_u6 (a b : Nat) (s : Nat) (hb : b < 2 ^ s) (h : a * 2 ^ s + b < 18446744073709551616) (t : TypeId) : binV Tryd.prog .or t (u6 ((a * 2 ^ s : Nat) : Int)) (u6 (b : Int)) = some (u6 ((a * 2 ^ s + b : Nat) : Int)) := by
  simp only [binV, intBin, if_true, Option.map_some]
  have hbits : IntKind.u64.bits = 64 := rfl
  rw [hbits]
  have h1 : (BitVec.ofInt 64 ((a * 2 ^ s : Nat) : Int) ||| BitVec.ofInt 64 (b : Int)).toNat = a * 2 ^ s + b := by
    rw [BitVec.toNat_or, BitVec.toNat_ofInt, BitVec.toNat_ofInt]
    have e1 : (((a * 2 ^ s : Nat) : Int) % (2 ^ 64 : Nat)).toNat = a * 2 ^ s := by omega
    have e2 : ((b : Int) % (2 ^ 64 : Nat)).toNat = b := by omega
    rw [e1, e2]
    have := Nat.shiftLeft_add_eq_or_of_lt hb a
    rw [Nat.shiftLeft_eq] at this
    exact this.symm
  rw [h1, wrap_u]
  congr 3
  omega
theorem shl_u6 (a : Int) (s : Nat) (hs : s ≤ 64) (t : TypeId) (k : IntKind) : binV Tryd.prog .shl t (u6 a) (.v (.int k (s : Int))) = some (u6 (a * (2 : Int) ^ s % 18446744073709551616)) := by
  simp only [binV, shiftBin]
  rw [if_neg (by omega)]
  have hb : IntKind.u64.bits = 64 := rfl
  simp only [Option.map_some, Int.toNat_natCast, hb, Nat.min_eq_left hs, wrap_u]
theorem shr_u6 (a : Int) (s : Nat) (hs : s ≤ 64) (t : TypeId) (k : IntKind) : binV Tryd.prog .shr t (u6 a) (.v (.int k (s : Int))) = some (u6 (a / (2 : Int) ^ s)) := by
  simp only [binV, shiftBin]
  rw [if_neg (by omega)]
  have hb : IntKind.u64.bits = 64 := rfl
  simp only [Option.map_some, Int.toNat_natCast, hb, Nat.min_eq_left hs]
  rw [Int.fdiv_eq_ediv_of_nonneg _ (Int.le_of_lt (Int.pow_pos (by decide)))]
theorem and32 (a : Int) (h0 : 0 ≤ a) (h1 : a ≤ 18446744073709551615) (t : TypeId) : binV Tryd.prog .and t (u6 a) (u6 4294967295) = some (u6 (a % 4294967296)) := by
  obtain ⟨m, rfl⟩ : ∃ m : Nat, a = (m : Int) := ⟨a.toNat, by omega⟩
  simp only [binV, intBin, if_true, Option.map_some]
  have hbits : IntKind.u64.bits = 64 := rfl
  rw [hbits]
  have h2 : (BitVec.ofInt 64 (m : Int) &&& BitVec.ofInt 64 (4294967295 : Int)).toNat = m % 4294967296 := by
    rw [BitVec.toNat_and, BitVec.toNat_ofInt, BitVec.toNat_ofInt]
    have e1 : ((m : Int) % (2 ^ 64 : Nat)).toNat = m := by omega
    have e2 : ((4294967295 : Int) % (2 ^ 64 : Nat)).toNat = 4294967295 := by decide
    rw [e1, e2]
    exact Nat.and_two_pow_sub_one_eq_mod m 32
  rw [h2, wrap_u]
  congr 3
  omega
theorem shr32 (a : Int) (t : TypeId) (k : IntKind) : binV Tryd.prog .shr t (u6 a) (.v (.int k 32)) = some (u6 (a / 4294967296)) := shr_u6 a 32 (by decide) t k
theorem d64_pre {hi lo y : Int} (h0 : 0 ≤ hi) (hlt : hi < y) (hlo : 0 ≤ lo ∧ lo ≤ 18446744073709551615) (hy : y ≤ 18446744073709551615) :
    ∃ (s : Nat) (p Y u v a b : Int), (64 - (Lib.bitLen y.toNat : Int)) = (s : Int) ∧ s ≤ 63 ∧ 0 < p ∧ Y = y * p ∧ 9223372036854775808 ≤ Y ∧ Y ≤ 18446744073709551615 ∧ 0 ≤ u ∧ u < Y ∧ (0 ≤ v ∧ v ≤ 18446744073709551615) ∧ (hi * 18446744073709551616 + lo) * p = u * 18446744073709551616 + v ∧
      binV Tryd.prog .shl 22 (u6 y) (u6 (s : Int)) = some (u6 Y) ∧ binV Tryd.prog .shl 22 (u6 hi) (u6 (s : Int)) = some (u6 a) ∧ binV Tryd.prog .shr 22 (u6 lo) (u6 (64 - (s : Int))) = some (u6 b) ∧ binV Tryd.prog .or 22 (u6 a) (u6 b) = some (u6 u) ∧
      binV Tryd.prog .shl 22 (u6 lo) (u6 (s : Int)) = some (u6 v) ∧ ∀ R, binV Tryd.prog .shr 22 (u6 R) (u6 (s : Int)) = some (u6 (R / p)) := by
  obtain ⟨n, rfl⟩ : ∃ n : Nat, y = (n : Int) := ⟨y.toNat, by omega⟩
  obtain ⟨m, rfl⟩ : ∃ m : Nat, lo = (m : Int) := ⟨lo.toNat, by omega⟩
  obtain ⟨c, rfl⟩ : ∃ c : Nat, hi = (c : Int) := ⟨hi.toNat, by omega⟩
  obtain ⟨h1, h2, h3, h4⟩ := bitLen_spec 64 n (by omega) (by omega)
  rw [Int.toNat_natCast]
  show ∃ (s : Nat) (p Y u v a b : Int), (64 - (Lib.bitLenAux 64 n : Int)) = (s : Int) ∧ _
  generalize Lib.bitLenAux 64 n = L at *
  obtain ⟨s, hs⟩ : ∃ s, 64 = s + L := ⟨64 - L, by omega⟩
  have hpN : 0 < 2 ^ s := Nat.pow_pos (by decide)
  have e64 : 2 ^ s * 2 ^ L = 18446744073709551616 := by rw [← Nat.pow_add, ← hs]
  have e63 : 2 ^ s * 2 ^ (L - 1) = 9223372036854775808 := by rw [← Nat.pow_add, show s + (L - 1) = 63 by omega]
  have hY1 : n * 2 ^ s < 18446744073709551616 := by
    rw [← e64, Nat.mul_comm]; exact Nat.mul_lt_mul_of_pos_left h4 hpN
  have hY0 : 9223372036854775808 ≤ n * 2 ^ s := by
    rw [← e63, Nat.mul_comm]; exact Nat.mul_le_mul_right _ h3
  have hr : m / 2 ^ L < 2 ^ s := by
    rw [Nat.div_lt_iff_lt_mul (Nat.pow_pos (by decide)), e64]; omega
  have hcn : c + 1 ≤ n := by omega
  have hcp : (c + 1) * 2 ^ s ≤ n * 2 ^ s := Nat.mul_le_mul_right _ hcn
  have hcp' : c * 2 ^ s + 2 ^ s ≤ n * 2 ^ s := by rw [← Nat.succ_mul]; exact hcp
  have hv : m * 2 ^ s = m / 2 ^ L * 18446744073709551616 + m * 2 ^ s % 18446744073709551616 := by
    have hd : m * 2 ^ s / 18446744073709551616 = m / 2 ^ L := by
      rw [← e64, Nat.mul_comm m, Nat.mul_div_mul_left _ _ hpN]
    have := Nat.div_add_mod (m * 2 ^ s) 18446744073709551616
    rw [hd] at this
    omega
  have cp : ((2 : Int) ^ s) = ((2 ^ s : Nat) : Int) := by rw [Int.natCast_pow]; rfl
  have cL : ((2 : Int) ^ L) = ((2 ^ L : Nat) : Int) := by rw [Int.natCast_pow]; rfl
  refine ⟨s, ((2 ^ s : Nat) : Int), ((n * 2 ^ s : Nat) : Int), ((c * 2 ^ s + m / 2 ^ L : Nat) : Int), ((m * 2 ^ s % 18446744073709551616 : Nat) : Int), ((c * 2 ^ s : Nat) : Int), ((m / 2 ^ L : Nat) : Int), by omega, by omega, by omega, by rw [Int.natCast_mul], by omega, by omega, by omega, by omega, by omega, ?_, ?_, ?_, ?_, ?_, ?_, ?_⟩
  · have : (c * 18446744073709551616 + m) * 2 ^ s = (c * 2 ^ s + m / 2 ^ L) * 18446744073709551616 + m * 2 ^ s % 18446744073709551616 := by
      rw [Nat.add_mul, hv.trans rfl]
      grind
    have h5 := congrArg (fun z : Nat => (z : Int)) this
    simp only [Int.natCast_mul, Int.natCast_add] at h5
    rw [Int.natCast_add (c * 2 ^ s), Int.natCast_mul c]
    exact h5
  · rw [shl_u6 _ s (by omega), cp, ← Int.natCast_mul]; congr 4; omega
  · rw [shl_u6 _ s (by omega), cp, ← Int.natCast_mul]; congr 4; omega
  · rw [show (64 : Int) - (s : Int) = ((L : Nat) : Int) by omega, shr_u6 _ L (by omega), cL]; rfl
  · exact or_u6 c (m / 2 ^ L) s hr (by omega) 22
  · rw [shl_u6 _ s (by omega), cp, ← Int.natCast_mul]; rfl
  · intro R
    rw [shr_u6 _ s (by omega), cp]
end Go.Proofs.YtokhmkkifmhfmaaDoor
