/-
  Numerals: laws in plain numbers, and the steps over texts.
-/
import Derived.Test.YtfnapmdedmbdbaaDoorL
import Derived.Lib.ItoaNum
import Derived.Lib.Repeat
import Derived.Lib.Strings
import Derived.Laws.Strings
set_option linter.unusedVariables false
namespace Go.Proofs.YtfnapmdedmbdbaaDoor
open Go Go.Am
abbrev DD (n : Nat) : List UInt8 := Lib.decDigits n
abbrev bs (l : List UInt8) : ByteArray := ⟨l.toArray⟩
abbrev sv (l : List UInt8) : AV := .v (.string (bs l))
theorem dd_small {n : Nat} (h : n < 10) : DD n = [UInt8.ofNat (48 + n)] := by show Lib.decDigits n = _; rw [Lib.decDigits, dif_pos h]
theorem dd_big {n : Nat} (h : ¬ n < 10) : DD n = DD (n / 10) ++ [UInt8.ofNat (48 + n % 10)] := by show Lib.decDigits n = _; rw [Lib.decDigits, dif_neg h]
theorem dd_len_le : ∀ (k n : Nat), 0 < k → n < 10 ^ k → (DD n).length ≤ k
  | 0, _, h, _ => by omega
  | k + 1, n, _, hn => by
    by_cases h : n < 10
    · rw [dd_small h]; simp
    · rw [dd_big h, List.length_append]
      have hk : 0 < k := by
        rcases k with _ | k
        · simp at hn; omega
        · omega
      have := dd_len_le k (n / 10) hk (by rw [Nat.pow_succ] at hn; omega)
      simp only [List.length_cons, List.length_nil]
      omega
theorem dd_len_pos (n : Nat) : 0 < (DD n).length := by
  by_cases h : n < 10
  · rw [dd_small h]; simp
  · rw [dd_big h]; simp
/-- A number with k digits, filled up with zeros. -/
def padN (k r : Nat) : List UInt8 := List.replicate (k - (DD r).length) 48 ++ DD r
theorem pad_succ {k r : Nat} (hk : 0 < k) (hr : r < 10 ^ (k + 1)) : padN (k + 1) r = padN k (r / 10) ++ [UInt8.ofNat (48 + r % 10)] := by
  unfold padN
  by_cases h : r < 10
  · rw [dd_small h, show r / 10 = 0 by omega, dd_small (show 0 < 10 by decide), show r % 10 = r by omega]
    simp only [List.length_cons, List.length_nil]
    rw [show k + 1 - (0 + 1) = (k - (0 + 1)) + 1 by omega, List.replicate_succ']
    rfl
  · have hl := dd_len_le k (r / 10) hk (by rw [Nat.pow_succ] at hr; omega)
    rw [dd_big h, List.length_append]
    simp only [List.length_cons, List.length_nil]
    rw [show k + 1 - ((DD (r / 10)).length + (0 + 1)) = k - (DD (r / 10)).length by omega, List.append_assoc]
theorem dd_pad : ∀ (k q r : Nat), 0 < q → 0 < k → r < 10 ^ k → DD (q * 10 ^ k + r) = DD q ++ padN k r
  | 0, _, _, _, h, _ => by omega
  | k + 1, q, r, hq, _, hr => by
    have e : q * 10 ^ (k + 1) = q * 10 ^ k * 10 := by rw [Nat.pow_succ, Nat.mul_assoc]
    have hp : 0 < q * 10 ^ k := Nat.mul_pos hq (Nat.pow_pos (by decide))
    rw [dd_big (by omega), show (q * 10 ^ (k + 1) + r) / 10 = q * 10 ^ k + r / 10 by omega, show (q * 10 ^ (k + 1) + r) % 10 = r % 10 by omega]
    by_cases hk : k = 0
    · subst hk
      have hr10 : r < 10 := by simpa using hr
      rw [show r / 10 = 0 by omega, Nat.pow_zero, Nat.mul_one, Nat.add_zero]
      unfold padN
      rw [dd_small hr10, show r % 10 = r by omega]
      rfl
    · rw [dd_pad k q (r / 10) hq (by omega) (by rw [Nat.pow_succ] at hr; omega), pad_succ (by omega) hr, List.append_assoc]
theorem rep_zero : ∀ k, Lib.repeatL [48] k = List.replicate k (48 : UInt8)
  | 0 => rfl
  | k + 1 => by rw [Lib.repeatL, rep_zero k, List.replicate_succ]; rfl
/-- The text of a wide integer. -/
def txW (x : Int) : List UInt8 := (if x < 0 then [45] else []) ++ DD (ab x).toNat
theorem txW_neg {x : Int} (h : x < 0) : txW x = 45 :: DD (ab x).toNat := by rw [txW, if_pos h]; rfl
theorem txW_pos {x : Int} (h : ¬ x < 0) : txW x = DD (ab x).toNat := by rw [txW, if_neg h]; rfl
/-! ### Steps over texts -/
theorem bs_app (l m : List UInt8) : bs l ++ bs m = bs (l ++ m) := by
  apply ByteArray.ext
  rw [ByteArray.data_append]
  simp
theorem bs_size (l : List UInt8) : (bs l).size = l.length := by simp [ByteArray.size]
theorem bin_bs (P : Program) (t : TypeId) (l m : List UInt8) (h : l.length + m.length ≤ 1000) : binV P .add t (sv l) (sv m) = some (sv (l ++ m)) := by
  have hl := bs_size l
  have hm := bs_size m
  simp only [binV, strBin]
  rw [if_pos (by omega), bs_app]
  rfl
theorem bs_list (l : List UInt8) : (bs l).toList = l := by rw [ByteArray.toList_eq]
theorem eq_bs (P : Program) (t : TypeId) (l m : List UInt8) : binV P .eql t (sv l) (sv m) = some (.v (.bool (l == m))) := by
  show some (AV.v (.bool ((bs l).toList == (bs m).toList))) = _
  rw [bs_list, bs_list]
theorem ne_bs (P : Program) (t : TypeId) (l m : List UInt8) : binV P .neq t (sv l) (sv m) = some (.v (.bool (!(l == m)))) := by
  show some (AV.v (.bool (!((bs l).toList == (bs m).toList)))) = _
  rw [bs_list, bs_list]
theorem len_bs (l : List UInt8) : lenV (tyOf Tryd.prog 9) (sv l) = some (AV.i (l.length : Int)) := by rw [lnt9, bs_size]
theorem rep_ok (lim : Nat) (H : Heap) (k : Int) (h : 0 ≤ k ∧ k ≤ 100) : ACall sig lim 57 [sv [48], AV.i k] H fun r H' => r = sv (List.replicate k.toNat 48) ∧ H' = H :=
  ⟨1, _, H, by
    show Option.map _ (repV [sv [48], AV.i k] H) = _
    simp only [repV, if_pos (show 0 ≤ k ∧ k ≤ 1000000 ∧ (bs [48]).size ≤ 1000 from ⟨h.1, by omega, by decide⟩)]
    rw [← rep_zero]
    rfl, rfl, rfl⟩
theorem cut_ok (lim : Nat) (H : Heap) (l : List UInt8) : ACall sig lim 56 [sv l, sv [45]] H fun r H' => r = .tup [sv (Lib.trimPrefix l [45]), .v (.bool (Lib.hasPrefix l [45]))] ∧ H' = H :=
  ⟨1, _, H, by show Option.map (fun x => (x, H)) (cutV [sv l, sv [45]] H) = _; rfl, rfl, rfl⟩
attribute [go_sem] List.size_toArray bin_bs eq_bs ne_bs len_bs
end Go.Proofs.YtfnapmdedmbdbaaDoor
