/-
  Numbers in limbs of 32 bits: laws in plain numbers, and the steps over arrays of limbs.
-/
import Derived.Test.YtfnapmdedmbdbaaDoorA2
set_option linter.unusedVariables false
namespace Go.Proofs.YtfnapmdedmbdbaaDoor
open Go Go.Am
theorem or_u6 (a b : Nat) (s : Nat) (hb : b < 2 ^ s) (h : a * 2 ^ s + b < 18446744073709551616) (t : TypeId) : binV Tryd.prog .or t (u6 ((a * 2 ^ s : Nat) : Int)) (u6 (b : Int)) = some (u6 ((a * 2 ^ s + b : Nat) : Int)) := by
  simp only [binV, intBin, if_true, Option.map_some]
  have hbits : IntKind.u64.bits = 64 := rfl
  rw [hbits]
  have h1 : (BitVec.ofInt 64 ((a * 2 ^ s : Nat) : Int) ||| BitVec.ofInt 64 (b : Int)).toNat = a * 2 ^ s + b := by
    rw [BitVec.toNat_or, BitVec.toNat_ofInt, BitVec.toNat_ofInt]
    have e1 : (((a * 2 ^ s : Nat) : Int) % (2 ^ 64 : Nat)).toNat = a * 2 ^ s := by omega
    have e2 : ((b : Int) % (2 ^ 64 : Nat)).toNat = b := by omega
    rw [e1, e2]
    have := Nat.shiftLeft_add_eq_or_of_lt hb a
    rw [Nat.shiftLeft_eq] at this
    exact this.symm
  rw [h1, wrap_u]
  congr 3
  omega
theorem shl_u6 (a : Int) (s : Nat) (hs : s ≤ 64) (t : TypeId) (k : IntKind) : binV Tryd.prog .shl t (u6 a) (.v (.int k (s : Int))) = some (u6 (a * (2 : Int) ^ s % 18446744073709551616)) := by
  simp only [binV, shiftBin]
  rw [if_neg (by omega)]
  have hb : IntKind.u64.bits = 64 := rfl
  simp only [Option.map_some, Int.toNat_natCast, hb, Nat.min_eq_left hs, wrap_u]
theorem shr_u6 (a : Int) (s : Nat) (hs : s ≤ 64) (t : TypeId) (k : IntKind) : binV Tryd.prog .shr t (u6 a) (.v (.int k (s : Int))) = some (u6 (a / (2 : Int) ^ s)) := by
  simp only [binV, shiftBin]
  rw [if_neg (by omega)]
  have hb : IntKind.u64.bits = 64 := rfl
  simp only [Option.map_some, Int.toNat_natCast, hb, Nat.min_eq_left hs]
  rw [Int.fdiv_eq_ediv_of_nonneg _ (Int.le_of_lt (Int.pow_pos (by decide)))]
theorem and32 (a : Int) (h0 : 0 ≤ a) (h1 : a ≤ 18446744073709551615) (t : TypeId) : binV Tryd.prog .and t (u6 a) (u6 4294967295) = some (u6 (a % 4294967296)) := by
  obtain ⟨m, rfl⟩ : ∃ m : Nat, a = (m : Int) := ⟨a.toNat, by omega⟩
  simp only [binV, intBin, if_true, Option.map_some]
  have hbits : IntKind.u64.bits = 64 := rfl
  rw [hbits]
  have h2 : (BitVec.ofInt 64 (m : Int) &&& BitVec.ofInt 64 (4294967295 : Int)).toNat = m % 4294967296 := by
    rw [BitVec.toNat_and, BitVec.toNat_ofInt, BitVec.toNat_ofInt]
    have e1 : ((m : Int) % (2 ^ 64 : Nat)).toNat = m := by omega
    have e2 : ((4294967295 : Int) % (2 ^ 64 : Nat)).toNat = 4294967295 := by decide
    rw [e1, e2]
    exact Nat.and_two_pow_sub_one_eq_mod m 32
  rw [h2, wrap_u]
  congr 3
  omega
theorem shr32 (a : Int) (t : TypeId) (k : IntKind) : binV Tryd.prog .shr t (u6 a) (.v (.int k 32)) = some (u6 (a / 4294967296)) := shr_u6 a 32 (by decide) t k
def pw : Nat → Int
  | 0 => 1
  | n + 1 => pw n * 4294967296
def val : List Int → Int
  | [] => 0
  | x :: r => x + 4294967296 * val r
theorem pw_pos : ∀ n, 0 < pw n
  | 0 => by decide
  | n + 1 => by have := pw_pos n; rw [pw]; omega
theorem pw_add (a : Nat) : ∀ b, pw (a + b) = pw a * pw b
  | 0 => by simp [pw]
  | b + 1 => by rw [← Nat.add_assoc, pw, pw, pw_add a b]; grind
theorem pw4 : pw 4 = 340282366920938463463374607431768211456 := by decide
theorem val_set : ∀ (l : List Int) (j : Nat) (v : Int), j < l.length → val (l.set j v) = val l + (v - gt l j) * pw j
  | [], j, v, h => by simp at h
  | x :: r, 0, v, h => by
    rw [List.set_cons_zero, val, val]
    show _ = x + 4294967296 * val r + (v - x) * 1
    omega
  | x :: r, j + 1, v, h => by
    have ih := val_set r j v (by simpa using h)
    rw [List.set_cons_succ, val, val, ih, pw]
    show _ = x + 4294967296 * val r + (v - gt r j) * (pw j * 4294967296)
    grind
def lm (m : Int) : List Int := [m % 4294967296, m / 4294967296 % 4294967296, m / 18446744073709551616 % 4294967296, m / 79228162514264337593543950336 % 4294967296]
theorem lm_len (m : Int) : (lm m).length = 4 := rfl
attribute [simp] lm_len
theorem lm_gt (m : Int) (i : Nat) (h : i < 4) : gt (lm m) i = m / pw i % 4294967296 := by
  match i, h with
  | 0, _ => show m % 4294967296 = m / 1 % 4294967296; rw [Int.ediv_one]
  | 1, _ => rfl
  | 2, _ => rfl
  | 3, _ => rfl
theorem lm_rng (m : Int) (i : Nat) (h : i < 4) : 0 ≤ gt (lm m) i ∧ gt (lm m) i ≤ 4294967295 := by
  rw [lm_gt m i h]; omega
theorem mod_succ (m p : Int) (hp : 0 < p) : m % (p * 4294967296) = m % p + m / p % 4294967296 * p := by
  have h1 := Int.mul_ediv_add_emod m p
  have h2 := Int.mul_ediv_add_emod (m / p) 4294967296
  have h3 := Int.emod_nonneg m (show p ≠ 0 by omega)
  have h4 := Int.emod_lt_of_pos m hp
  have h5 : 0 ≤ m / p % 4294967296 ∧ m / p % 4294967296 ≤ 4294967295 := by omega
  have h6 := mul_pos' h5.1 (Int.le_of_lt hp)
  have h7 : m / p % 4294967296 * p ≤ 4294967295 * p := Int.mul_le_mul_of_nonneg_right h5.2 (by omega)
  have hu := (Int.ediv_emod_unique (show 0 < p * 4294967296 by omega) (a := m) (r := m % p + m / p % 4294967296 * p) (q := m / p / 4294967296)).mpr ⟨by
    generalize m / p % 4294967296 = b at *
    generalize m / p / 4294967296 = c at *
    generalize m / p = d at *
    generalize m % p = e at *
    subst h2
    grind, by omega, by omega⟩
  exact hu.2
theorem lim_lt {l : List Int} {j : Nat} (h : ∀ j, j < 8 → 0 ≤ gt l j ∧ gt l j ≤ 4294967295) (hj : j < 8) : 0 ≤ gt l j ∧ gt l j ≤ 4294967295 := h j hj
theorem times_step {l : List Int} {M K c : Int} {i k : Nat} (hl : l.length = 8) (hi : i < 4) (hk : k < 4) (hr : 0 ≤ gt l (i + k) ∧ gt l (i + k) ≤ 4294967295) (hc : 0 ≤ c ∧ c ≤ 4294967295)
    (hv : val l + c * pw (i + k) = M % pw i * K + gt (lm M) i * pw i * (K % pw k)) {n : Int} (hn : n = gt (lm M) i * gt (lm K) k + gt l (i + k) + c) :
    val (l.set (i + k) (n % 4294967296)) + n / 4294967296 * pw (i + (k + 1)) = M % pw i * K + gt (lm M) i * pw i * (K % pw (k + 1)) := by
  rw [val_set l (i + k) _ (by omega), show i + (k + 1) = (i + k) + 1 by omega, pw, pw, mod_succ K (pw k) (pw_pos k), ← lm_gt K k hk]
  have e := pw_add i k
  have h2 := Int.mul_ediv_add_emod n 4294967296
  generalize gt (lm M) i = a at *
  generalize gt (lm K) k = b at *
  generalize gt l (i + k) = x at *
  generalize n / 4294967296 = d at *
  generalize n % 4294967296 = r at *
  generalize pw (i + k) = p at *
  generalize M % pw i * K = R at *
  generalize K % pw k = S at *
  generalize pw i = u at *
  generalize pw k = w at *
  subst hn
  subst e
  grind
theorem times_init {l : List Int} {M K : Int} {i : Nat} (hv : val l = M % pw i * K) : val l + 0 * pw (i + 0) = M % pw i * K + gt (lm M) i * pw i * (K % pw 0) := by
  rw [show pw 0 = 1 from rfl, Int.emod_one, hv]; omega
theorem times_row {l : List Int} {M K c : Int} {i : Nat} (hK : 0 ≤ K ∧ K ≤ 340282366920938463463374607431768211455) (hl : l.length = 8) (hi : i < 4) (hz : gt l (i + 4) = 0)
    (hv : val l + c * pw (i + 4) = M % pw i * K + gt (lm M) i * pw i * (K % pw 4)) : val (l.set (i + 4) c) = M % pw (i + 1) * K := by
  rw [val_set l (i + 4) _ (by omega), hz, show pw (i + 1) = pw i * 4294967296 from rfl, mod_succ M (pw i) (pw_pos i), ← lm_gt M i hi]
  rw [pw4, Int.emod_eq_of_lt hK.1 (by omega)] at hv
  generalize pw (i + 4) = p at *
  generalize gt (lm M) i = a at *
  generalize M % pw i = R at *
  generalize pw i = u at *
  grind
theorem times_end {l : List Int} {M K : Int} (hM : 0 ≤ M ∧ M ≤ 340282366920938463463374607431768211455) (hv : val l = M % pw 4 * K) : val l = M * K := by
  rw [hv, pw4, Int.emod_eq_of_lt hM.1 (by omega)]
theorem eight {l : List Int} (h : l.length = 8) : ∃ a b c d e f g h, l = [a, b, c, d, e, f, g, h] := by
  match l, h with
  | [a, b, c, d, e, f, g, h], _ => exact ⟨a, b, c, d, e, f, g, h, rfl⟩
theorem gt_zero8 (j : Nat) : gt (List.replicate 8 (0 : Int)) j = 0 := by
  match j with
  | 0 | 1 | 2 | 3 | 4 | 5 | 6 | 7 => rfl
  | n + 8 => rfl
/-! ### Arrays -/
/-- A number as the array of its four limbs. -/
abbrev lv (m : Int) : AV := .agg ((lm m).map u6)
theorem lv_eq {m a b c d : Int} (h0 : a = m % 4294967296) (h1 : b = m / 4294967296 % 4294967296) (h2 : c = m / 18446744073709551616 % 4294967296) (h3 : d = m / 79228162514264337593543950336 % 4294967296) : AV.agg [u6 a, u6 b, u6 c, u6 d] = lv m := by
  subst h0 h1 h2 h3; rfl
set_option maxRecDepth 20000
theorem iap57 (b o : Nat) (k : IntKind) (i : Int) (h0 : 0 ≤ i) (h1 : i < 4) : indexAddrV Tryd.prog 95 (.ptr b o) (.v (.int k i)) = some (.ptr b (o + i.toNat)) := by
  rw [ia_ptr _ 95 49 _ 4 tk95 ty49, if_pos ⟨h0, h1⟩]; rw [Nat.mul_one]
theorem iap75 (b o : Nat) (k : IntKind) (i : Int) (h0 : 0 ≤ i) (h1 : i < 8) : indexAddrV Tryd.prog 118 (.ptr b o) (.v (.int k i)) = some (.ptr b (o + i.toNat)) := by
  rw [ia_ptr _ 118 49 _ 8 tk118 ty49, if_pos ⟨h0, h1⟩]; rw [Nat.mul_one]
theorem bld57 (a b c d : Int) : buildV Tryd.prog 95 [(0, u6 a), (1, u6 b), (2, u6 c), (3, u6 d)] = some (.agg [u6 a, u6 b, u6 c, u6 d]) := by kernel_rfl
theorem shl32 (a : Int) (t : TypeId) (k : IntKind) : binV Tryd.prog .shl t (u6 a) (.v (.int k 32)) = some (u6 (a * 4294967296 % 18446744073709551616)) := shl_u6 a 32 (by decide) t k
theorem or32 (a b : Int) (ha : 0 ≤ a ∧ a ≤ 4294967295) (hb : 0 ≤ b ∧ b ≤ 4294967295) (t : TypeId) : binV Tryd.prog .or t (u6 (a * 4294967296 % 18446744073709551616)) (u6 b) = some (u6 (a * 4294967296 + b)) := by
  obtain ⟨m, rfl⟩ : ∃ m : Nat, a = (m : Int) := ⟨a.toNat, by omega⟩
  obtain ⟨n, rfl⟩ : ∃ n : Nat, b = (n : Int) := ⟨b.toNat, by omega⟩
  have h32 : (2 : Nat) ^ 32 = 4294967296 := by decide
  have h := or_u6 m n 32 (by rw [h32]; omega) (by rw [h32]; omega) t
  rw [h32] at h
  have e1 : ((m * 4294967296 : Nat) : Int) = (m : Int) * 4294967296 % 18446744073709551616 := by omega
  have e2 : ((m * 4294967296 + n : Nat) : Int) = (m : Int) * 4294967296 + (n : Int) := by rw [Int.natCast_add, Int.natCast_mul]; rfl
  rw [e1, e2] at h
  exact h
theorem take4 (x y z w : AV) : List.take 4 [x, y, z, w] = [x, y, z, w] := rfl
theorem sL4 (x y z w a b c d : AV) : setL [x, y, z, w] 0 [a, b, c, d] = [a, b, c, d] := rfl
attribute [go_sem] iap57 iap75 bld57 shl32 or32 take4 sL4
theorem toNat_add4 (u : Nat) : Int.toNat ((u : Int) + 4) = u + 4 := rfl
theorem tupL {m a b c d : Int} {p q : Bool} (h0 : a = m % 4294967296) (h1 : b = m / 4294967296 % 4294967296) (h2 : c = m / 18446744073709551616 % 4294967296) (h3 : d = m / 79228162514264337593543950336 % 4294967296) (hp : p = q) : AV.tup [.agg [u6 a, u6 b, u6 c, u6 d], .v (.bool p)] = AV.tup [lv m, .v (.bool q)] := by rw [lv_eq h0 h1 h2 h3, hp]
theorem ACall1 {lim : Nat} {f : FuncId} {x y : AV} {H : Heap} {K : AV → Heap → Prop} (h : x = y) (hk : ACall sig lim f [y] H K) : ACall sig lim f [x] H K := by subst h; exact hk
theorem len0 (H : Heap) : H.length + 0 = H.length := rfl
end Go.Proofs.YtfnapmdedmbdbaaDoor
