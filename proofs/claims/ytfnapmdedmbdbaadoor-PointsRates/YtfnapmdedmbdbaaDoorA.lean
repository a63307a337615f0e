/-
  Integers of 128 bits: what the functions of chapter 2 give. Plain definitions and laws.
-/
import Derived.Test.YtfnapmdedmbdbaaDoorTy
set_option linter.unusedVariables false
namespace Go.Proofs.YtfnapmdedmbdbaaDoor
open Go Go.Am
abbrev u6 (n : Int) : AV := .v (.int .u64 n)
/-- The wide integer with a value. -/
abbrev wv (x : Int) : AV := .agg [AV.i (x / 18446744073709551616), u6 (x % 18446744073709551616)]
def Fw (x : Int) : Prop := -170141183460469231731687303715884105728 ≤ x ∧ x ≤ 170141183460469231731687303715884105727
instance (x : Int) : Decidable (Fw x) := inferInstanceAs (Decidable (_ ∧ _))
def fS (n : Int) : Int × Bool := if Fw n then (n, true) else (0, false)
theorem fS_y {n : Int} (h : Fw n) : fS n = (n, true) := by rw [fS, if_pos h]
theorem fS_n {n : Int} (h : ¬ Fw n) : fS n = (0, false) := by rw [fS, if_neg h]
theorem fS_F (n : Int) : Fw (fS n).1 := by
  unfold fS
  split
  · assumption
  · unfold Fw; omega
theorem wv_eq {n a b : Int} (h1 : a = n / 18446744073709551616) (h2 : b = n % 18446744073709551616) : AV.agg [AV.i a, u6 b] = wv n := by rw [h1, h2]
def ab (n : Int) : Int := if n < 0 then -n else n
theorem ab_neg {n : Int} (h : n < 0) : ab n = -n := by rw [ab, if_pos h]
theorem ab_pos {n : Int} (h : ¬ n < 0) : ab n = n := by rw [ab, if_neg h]
theorem ab_rng (n : Int) : 0 ≤ ab n := by unfold ab; split <;> omega
theorem mul_pos' {a b : Int} (ha : 0 ≤ a) (hb : 0 ≤ b) : 0 ≤ a * b := Int.mul_nonneg ha hb
theorem mul_le' {a b c d : Int} (ha : 0 ≤ a) (hc : a ≤ c) (hb : 0 ≤ b) (hd : b ≤ d) : a * b ≤ c * d := Int.mul_le_mul hc hd hb (by omega)
/-- A product, by the sizes and the signs of its factors. -/
theorem ab_mul (a b : Int) : (if (decide (a < 0) != decide (b < 0)) = true then -(ab a * ab b) else ab a * ab b) = a * b := by
  unfold ab
  by_cases h1 : a < 0 <;> by_cases h2 : b < 0 <;> simp [h1, h2] <;> grind
def cmpS (x y : Int) : Int := if x < y then -1 else if x = y then 0 else 1
def ftS (x : Int) : Int × Bool := if -9223372036854775808 ≤ x ∧ x ≤ 9223372036854775807 then (x, true) else (0, false)
def sg (neg : Bool) (m : Int) : Int := if neg = true then -m else m
theorem sg_t {neg : Bool} (h : neg = true) (m : Int) : sg neg m = -m := by rw [sg, if_pos h]
theorem sg_f {neg : Bool} (h : neg = false) (m : Int) : sg neg m = m := by rw [sg, h]; rfl
theorem tupW {a b n : Int} {p q : Bool} (h1 : a = n / 18446744073709551616) (h2 : b = n % 18446744073709551616) (hp : p = q) : AV.tup [AV.agg [AV.i a, u6 b], .v (.bool p)] = AV.tup [wv n, .v (.bool q)] := by rw [h1, h2, hp]
theorem tup3 {a b c d : Int} {p q : Bool} (h1 : a = c) (h2 : b = d) (hp : p = q) : AV.tup [u6 a, u6 b, .v (.bool p)] = AV.tup [u6 c, u6 d, .v (.bool q)] := by rw [h1, h2, hp]
theorem tup2 {a c : Int} {p q : Bool} (h1 : a = c) (hp : p = q) : AV.tup [u6 a, .v (.bool p)] = AV.tup [u6 c, .v (.bool q)] := by rw [h1, hp]
theorem tupI {a c : Int} {p q : Bool} (h1 : a = c) (hp : p = q) : AV.tup [AV.i a, .v (.bool p)] = AV.tup [AV.i c, .v (.bool q)] := by rw [h1, hp]
theorem cmp_sub (x y : Int) : cmpS (x - y) 0 = cmpS x y := by
  unfold cmpS
  by_cases h1 : x < y
  · rw [if_pos (by omega), if_pos h1]
  · rw [if_neg (by omega), if_neg h1]
    by_cases h2 : x = y
    · rw [if_pos (by omega), if_pos h2]
    · rw [if_neg (by omega), if_neg h2]
theorem ab_le {a : Int} (h : -9223372036854775808 ≤ a ∧ a ≤ 9223372036854775807) : ab a ≤ 9223372036854775808 := by unfold ab; split <;> omega
theorem ab_fit {a b : Int} (ha : -9223372036854775808 ≤ a ∧ a ≤ 9223372036854775807) (hb : -9223372036854775808 ≤ b ∧ b ≤ 9223372036854775807) : Fw (a * b) := by
  have h1 := mul_le' (ab_rng a) (ab_le ha) (ab_rng b) (ab_le hb)
  have h2 := mul_pos' (ab_rng a) (ab_rng b)
  have h3 := ab_mul a b
  unfold Fw
  split at h3 <;> omega
/-! ### Operations -/
theorem wrap_u (n : Int) : IntKind.u64.wrap n = n % 18446744073709551616 := by simp [IntKind.wrap, IntKind.bits, IntKind.signed]
theorem cv2_22 (n : Int) : convV Tryd.prog 2 49 (.v (.int .i64 n)) = some (.v (.int .u64 (n % 18446744073709551616))) := by simp only [convV, ty2, tk49, wrap_u]
theorem cv3_22 (n : Int) : convV Tryd.prog 3 49 (.v (.int .i64 n)) = some (.v (.int .u64 (n % 18446744073709551616))) := by simp only [convV, ty3, tk49, wrap_u]
theorem cv22_2 (n : Int) : convV Tryd.prog 49 2 (.v (.int .u64 n)) = some (.v (.int .i64 ((n + 9223372036854775808) % 18446744073709551616 - 9223372036854775808))) := by
  simp only [convV, ty49, tk2]
  rw [IntKind.wrap_i64]
theorem un_xor (n : Int) (h0 : 0 ≤ n) (h1 : n ≤ 18446744073709551615) : unV .xor (.v (.int .u64 n)) = some (.v (.int .u64 (18446744073709551615 - n))) := by
  obtain ⟨m, rfl⟩ : ∃ m : Nat, n = (m : Int) := ⟨n.toNat, by omega⟩
  have e0 : IntKind.u64.max = 18446744073709551615 := rfl
  have es : IntKind.u64.signed = false := rfl
  simp only [unV, intBin, es, e0, Option.map_some, Bool.false_eq_true, if_false]
  congr 4
  have hb : IntKind.u64.bits = 64 := rfl
  rw [hb]
  have h2 : (BitVec.ofInt 64 (18446744073709551615 : Int) ^^^ BitVec.ofInt 64 (m : Int)).toNat = 18446744073709551615 - m := by
    have e1 : BitVec.ofInt 64 (18446744073709551615 : Int) = BitVec.allOnes 64 := by decide
    rw [e1, BitVec.allOnes_xor, BitVec.toNat_not, BitVec.toNat_ofInt]
    omega
  rw [h2, wrap_u]
  omega
theorem shr63 (t : TypeId) (k : IntKind) (n : Int) : binV Tryd.prog .shr t (.v (.int .i64 n)) (.v (.int k 63)) = some (.v (.int .i64 (n / 9223372036854775808))) := by
  simp only [binV, shiftBin]
  rw [if_neg (by decide)]
  simp only [Option.map_some]
  rw [show (2 : Int) ^ min (63 : Int).toNat IntKind.i64.bits = 9223372036854775808 from rfl, Int.fdiv_eq_ediv_of_nonneg _ (by decide)]
theorem eqw (a b c d : Int) : binV Tryd.prog .eql 51 (.agg [AV.i a, u6 b]) (.agg [AV.i c, u6 d]) = some (.v (.bool (a == c && b == d))) := by
  simp [binV, aggEq, eqOk51, tk51, fieldsEq, scalEq, kOf, ty2, ty49]
  cases (a == c) <;> cases (b == d) <;> rfl
theorem new_ (a b c d : Int) : binV Tryd.prog .neq 51 (.agg [AV.i a, u6 b]) (.agg [AV.i c, u6 d]) = some (.v (.bool (!(a == c && b == d)))) := by
  simp [binV, aggEq, eqOk51, tk51, fieldsEq, scalEq, kOf, ty2, ty49]
  cases (a == c) <;> cases (b == d) <;> rfl
set_option maxRecDepth 20000 in
theorem bld0 : buildV Tryd.prog 51 [] = some (.agg [AV.i 0, u6 0]) := by simp only [buildV, ty51]; rfl
theorem bld1 (a b : Int) : buildV Tryd.prog 51 [(0, AV.i a), (1, u6 b)] = some (.agg [AV.i a, u6 b]) := by
  simp only [buildV, ty51, places, ty2, ty49]; rfl
theorem bldL (b : Int) : buildV Tryd.prog 51 [(1, u6 b)] = some (.agg [AV.i 0, u6 b]) := by
  simp only [buildV, ty51, places, ty2, ty49]; rfl
theorem bldH (a : Int) : buildV Tryd.prog 51 [(0, AV.i a)] = some (.agg [AV.i a, u6 0]) := by
  simp only [buildV, ty51, places, ty2, ty49]; rfl
theorem take2 (x y : AV) : List.take 2 [x, y] = [x, y] := rfl
theorem sL2 (x y c d : AV) : setL [x, y] 0 [c, d] = [c, d] := rfl
theorem sL0 (x y c : AV) : setL [x, y] 0 [c] = [c, y] := rfl
theorem sL1 (x y c : AV) : setL [x, y] 1 [c] = [x, c] := rfl
attribute [go_sem] sL2 sL0 sL1 wrap_u cv2_22 cv3_22 cv22_2 un_xor shr63 eqw new_ bld0 bld1 bldL bldH take2
/-! ### The callees that are taken by contract -/
theorem add64_ok (lim : Nat) (H : Heap) (x y c : Int) (h : 0 ≤ x ∧ 0 ≤ y ∧ 0 ≤ c ∧ c ≤ 1) : ACall sig lim 61 [u6 x, u6 y, u6 c] H fun r H' => r = .tup [u6 ((x + y + c) % 18446744073709551616), u6 ((x + y + c) / 18446744073709551616)] ∧ H' = H :=
  ⟨1, _, H, by show Option.map _ (add64V [u6 x, u6 y, u6 c] H) = _; simp only [add64V, if_pos h]; rfl, rfl, rfl⟩
theorem mul64_ok (lim : Nat) (H : Heap) (x y : Int) (h : (0 ≤ x ∧ x ≤ 18446744073709551615) ∧ 0 ≤ y ∧ y ≤ 18446744073709551615) : ACall sig lim 50 [u6 x, u6 y] H fun r H' => r = .tup [u6 (x * y / 18446744073709551616), u6 (x * y % 18446744073709551616)] ∧ H' = H :=
  ⟨1, _, H, by show Option.map _ (mul64V [u6 x, u6 y] H) = _; simp only [mul64V, if_pos h]; rfl, rfl, rfl⟩
end Go.Proofs.YtfnapmdedmbdbaaDoor
