/-
  Parsing a day: steps over bytes.
-/
import Derived.Test.YtocmcdejkoejhaaDoorK9
import Derived.Test.YtocmcdejkoejhaaDoorAmU
set_option linter.unusedVariables false
namespace Go.Proofs.YtocmcdejkoejhaaDoor
open Go Go.Am
theorem cv53 (s : ByteArray) : convV Tryd.prog 9 53 (.v (.string s)) = none := by
  simp only [convV, tk53]
  cases tyOf Tryd.prog 9 <;> rfl
theorem tk5u : tk Tryd.prog 5 = some (.int .u8) := by rw [tk, ty5]; rfl
theorem cv5_3 (n : Int) : convV Tryd.prog 5 3 (.v (.int .u8 n)) = some (.v (.int .i64 (IntKind.i64.wrap n))) := by
  simp only [convV, ty5, tk3]
theorem iap52 (b o : Nat) (k : IntKind) (i : Int) (h0 : 0 ≤ i) (h1 : i < 3) : indexAddrV Tryd.prog 52 (.ptr b o) (.v (.int k i)) = some (.ptr b (o + i.toNat)) := by
  rw [ia_ptr _ 52 3 _ 3 tk52 ty3, if_pos ⟨h0, h1⟩]; rw [Nat.mul_one]
theorem ixs9 (s : ByteArray) (k : IntKind) (i : Nat) (h : i < s.size) : indexV Tryd.prog 9 (.v (.string s)) (.v (.int k (i : Int))) = some (.v (.int .u8 (bt s i))) := by
  simp only [indexV, tk9]
  rw [if_pos ⟨by omega, by omega⟩]
  rfl
theorem bt_ld (s : ByteArray) (i : Nat) (h : i < s.size) : (s.data.toList.map fun c => AV.v (.int .u8 (c.toNat : Int)))[i]? = some (.v (.int .u8 (bt s i))) := by
  have h' : i < s.data.size := h
  rw [List.getElem?_map, Array.getElem?_toList]
  unfold bt
  rw [Array.getElem?_eq_getElem h']
  rfl
theorem set_pst (s : ByteArray) (u : Nat) (h : ¬ (u = 4 ∨ u = 7)) : setL ((pst s u).2.map AV.i) (pst s u).1 [AV.i (10 * gt (pst s u).2 (pst s u).1 + (bt s u - 48))] = (pst s (u + 1)).2.map AV.i := by
  rw [pst, if_neg h]
  show List.set _ _ _ = _
  rw [List.map_set]
theorem pst_dash {s : ByteArray} {u : Nat} (h : u = 4 ∨ u = 7) : (pst s (u + 1)).2 = (pst s u).2 ∧ (pst s (u + 1)).1 = (pst s u).1 + 1 := by
  rw [pst, if_pos h]; exact ⟨rfl, rfl⟩
theorem pst_dig {s : ByteArray} {u : Nat} (h : ¬ (u = 4 ∨ u = 7)) : (pst s (u + 1)).1 = (pst s u).1 := by
  rw [pst, if_neg h]
theorem pst_lt (s : ByteArray) (u : Nat) : (pst s u).1 < 3 := by
  rw [pst_part]; split <;> (try split) <;> omega
theorem pst_small {s : ByteArray} {u : Nat} (h : ∀ i, i < u → okB s i) (hu : u ≤ 10) (q : Nat) : 0 ≤ gt (pst s u).2 q ∧ gt (pst s u).2 q ≤ 10000000000 := by
  have h1 := pst_rng h q
  have h2 : (10 : Nat) ^ u ≤ 10 ^ 10 := Nat.pow_le_pow_right (by decide) hu
  have h3 : ((10 : Int) ^ u) = (((10 : Nat) ^ u : Nat) : Int) := by rw [Int.natCast_pow]; rfl
  have h4 : (10 : Nat) ^ 10 = 10000000000 := by decide
  omega
theorem okB_dash {s : ByteArray} {u : Nat} (h : u = 4 ∨ u = 7) (hb : bt s u = 45) : okB s u := by unfold okB; rw [if_pos h]; exact hb
theorem okB_dig {s : ByteArray} {u : Nat} (h : ¬ (u = 4 ∨ u = 7)) (hb : 48 ≤ bt s u ∧ bt s u ≤ 57) : okB s u := by unfold okB; rw [if_neg h]; exact hb
theorem not_dash {s : ByteArray} {u : Nat} (h : u = 4 ∨ u = 7) (hb : ¬ bt s u = 45) : ¬ okB s u := by unfold okB; rw [if_pos h]; exact hb
theorem not_dig {s : ByteArray} {u : Nat} (h : ¬ (u = 4 ∨ u = 7)) (hb : ¬ (48 ≤ bt s u ∧ bt s u ≤ 57)) : ¬ okB s u := by unfold okB; rw [if_neg h]; exact hb
theorem bs54 (lim : Nat) (H : Heap) (x y z : Operand) (ev : Operand → AV) (hx : ev x = AV.i 0) (hy : ev y = AV.i 0) (hz : ev z = AV.i 0) :
    effV Tryd.prog lim (.buildSlice 54 3 #[(0, x), (1, y), (2, z)]) ev H = some (.own 1 H.length 0 3, H ++ [some (([0, 0, 0] : List Int).map AV.i)]) := by
  simp only [effV, tk54, ty3]
  rw [if_pos ⟨rfl, by decide, by decide⟩]
  simp only [List.map_cons, List.map_nil, hx, hy, hz]
  rfl
theorem bin_seql (P : Program) (t : TypeId) (a b : ByteArray) : binV P .eql t (.v (.string a)) (.v (.string b)) = some (.v (.bool (a.toList == b.toList))) := rfl
theorem bin_bs (P : Program) (t : TypeId) (l m : List UInt8) (h : l.length + m.length ≤ 100) : binV P .add t (.v (.string (bs l))) (.v (.string (bs m))) = some (.v (.string (bs (l ++ m)))) := by
  have hl : (bs l).size = l.length := by simp [ByteArray.size]
  have hm : (bs m).size = m.length := by simp [ByteArray.size]
  simp only [binV, strBin]
  rw [if_pos (by omega), bs_app]
  rfl
attribute [go_sem] iap52 ixs9 cv5_3 bin_seql bin_bs
end Go.Proofs.YtocmcdejkoejhaaDoor
