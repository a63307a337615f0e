/-
  Days as texts. Plain definitions and laws.
-/
import Derived.Test.YtocmcdejkoejhaaDoorK8
set_option linter.unusedVariables false
namespace Go.Proofs.YtocmcdejkoejhaaDoor
open Go Go.Am
def dg (k : Int) : UInt8 := UInt8.ofNat (48 + k.toNat)
abbrev p4l (y : Int) : List UInt8 := [dg (y / 1000), dg (y / 100 % 10), dg (y / 10 % 10), dg (y % 10)]
abbrev p2l (y : Int) : List UInt8 := [dg (y / 10), dg (y % 10)]
abbrev bs (l : List UInt8) : ByteArray := ⟨l.toArray⟩
theorem bs_app (l m : List UInt8) : bs l ++ bs m = bs (l ++ m) := by
  apply ByteArray.ext
  rw [ByteArray.data_append]
  simp
theorem dg_nat {k : Int} (h : 0 ≤ k) (h9 : k ≤ 9) : ((dg k).toNat : Int) = 48 + k := by
  unfold dg
  rw [UInt8.toNat_ofNat']
  omega
/-- The byte at a place. -/
def bt (s : ByteArray) (i : Nat) : Int := ((s.data[i]?.getD 0).toNat : Int)
theorem bt_bs (l : List UInt8) (i : Nat) : bt (bs l) i = ((l[i]?.getD 0).toNat : Int) := by simp [bt]
theorem bt_rng (s : ByteArray) (i : Nat) : 0 ≤ bt s i ∧ bt s i ≤ 255 := by
  unfold bt
  have := (s.data[i]?.getD 0).toNat_lt
  omega
def okB (s : ByteArray) (i : Nat) : Prop := if i = 4 ∨ i = 7 then bt s i = 45 else 48 ≤ bt s i ∧ bt s i ≤ 57
def pst (s : ByteArray) : Nat → Nat × List Int
  | 0 => (0, [0, 0, 0])
  | u + 1 => if u = 4 ∨ u = 7 then ((pst s u).1 + 1, (pst s u).2) else ((pst s u).1, (pst s u).2.set (pst s u).1 (10 * gt (pst s u).2 (pst s u).1 + (bt s u - 48)))
theorem pst_len (s : ByteArray) : ∀ u, (pst s u).2.length = 3
  | 0 => rfl
  | u + 1 => by
    unfold pst
    split
    · exact pst_len s u
    · rw [List.length_set]; exact pst_len s u
theorem pst_part (s : ByteArray) : ∀ u, (pst s u).1 = (if u ≤ 4 then 0 else if u ≤ 7 then 1 else 2)
  | 0 => rfl
  | u + 1 => by
    have ih := pst_part s u
    unfold pst
    split
    · rename_i h
      show (pst s u).1 + 1 = _
      rw [ih]
      rcases h with rfl | rfl <;> rfl
    · rename_i h
      show (pst s u).1 = _
      rw [ih]
      split <;> split <;> (try split) <;> (try split) <;> omega
theorem pst_rng {s : ByteArray} : ∀ {u : Nat}, (∀ i, i < u → okB s i) → ∀ q, 0 ≤ gt (pst s u).2 q ∧ gt (pst s u).2 q < 10 ^ u
  | 0, _, q => by
    rcases q with _ | _ | _ | q <;> simp [pst, gt]
  | u + 1, h, q => by
    have ih := pst_rng (s := s) (u := u) (fun i hi => h i (by omega))
    have hq := ih q
    have hp := ih (pst s u).1
    have e : (10 : Int) ^ (u + 1) = 10 ^ u * 10 := Int.pow_succ _ _
    unfold pst
    split
    · show 0 ≤ gt (pst s u).2 q ∧ gt (pst s u).2 q < _
      omega
    · rename_i h1
      have hb := h u (by omega)
      unfold okB at hb
      rw [if_neg h1] at hb
      show 0 ≤ gt ((pst s u).2.set _ _) q ∧ gt ((pst s u).2.set _ _) q < _
      have hl := pst_len s u
      have hpp := pst_part s u
      rw [gt_set _ _ _ _ (by rw [hl, hpp]; split <;> (try split) <;> omega)]
      split <;> omega
open Classical in
noncomputable def parS (s : ByteArray) : Int × Int := if ¬ s.size = 10 then (0, 4) else if ∀ i, i < 10 → okB s i then dayS (gt (pst s 10).2 0) (gt (pst s 10).2 1) (gt (pst s 10).2 2) else (0, 4)
theorem par_a {s : ByteArray} (h : ¬ s.size = 10) : parS s = (0, 4) := by rw [parS, if_pos h]
theorem par_b {s : ByteArray} (h : s.size = 10) {i : Nat} (hi : i < 10) (hb : ¬ okB s i) : parS s = (0, 4) := by
  rw [parS, if_neg (fun hh => hh h), if_neg (fun hh => hb (hh i hi))]
theorem par_c {s : ByteArray} (h : s.size = 10) (hb : ∀ i, i < 10 → okB s i) : parS s = dayS (gt (pst s 10).2 0) (gt (pst s 10).2 1) (gt (pst s 10).2 2) := by
  rw [parS, if_neg (fun hh => hh h), if_pos hb]
/-- The text of a date. -/
def txt (y m d : Int) : ByteArray := bs (p4l y ++ [45] ++ p2l m ++ [45] ++ p2l d)
theorem par_txt {y m d : Int} (hy : 1900 ≤ y ∧ y ≤ 2199) (hm : 1 ≤ m ∧ m ≤ 12) (hd : 1 ≤ d ∧ d ≤ 31) : parS (txt y m d) = dayS y m d := by
  have b0 : bt (txt y m d) 0 = 48 + y / 1000 := by rw [txt, bt_bs]; exact dg_nat (by omega) (by omega)
  have b1 : bt (txt y m d) 1 = 48 + y / 100 % 10 := by rw [txt, bt_bs]; exact dg_nat (by omega) (by omega)
  have b2 : bt (txt y m d) 2 = 48 + y / 10 % 10 := by rw [txt, bt_bs]; exact dg_nat (by omega) (by omega)
  have b3 : bt (txt y m d) 3 = 48 + y % 10 := by rw [txt, bt_bs]; exact dg_nat (by omega) (by omega)
  have b4 : bt (txt y m d) 4 = 45 := by rw [txt, bt_bs]; rfl
  have b5 : bt (txt y m d) 5 = 48 + m / 10 := by rw [txt, bt_bs]; exact dg_nat (by omega) (by omega)
  have b6 : bt (txt y m d) 6 = 48 + m % 10 := by rw [txt, bt_bs]; exact dg_nat (by omega) (by omega)
  have b7 : bt (txt y m d) 7 = 45 := by rw [txt, bt_bs]; rfl
  have b8 : bt (txt y m d) 8 = 48 + d / 10 := by rw [txt, bt_bs]; exact dg_nat (by omega) (by omega)
  have b9 : bt (txt y m d) 9 = 48 + d % 10 := by rw [txt, bt_bs]; exact dg_nat (by omega) (by omega)
  have hsz : (txt y m d).size = 10 := rfl
  have hok : ∀ i, i < 10 → okB (txt y m d) i := by
    intro i hi
    unfold okB
    match i, hi with
    | 0, _ => rw [if_neg (by decide), b0]; omega
    | 1, _ => rw [if_neg (by decide), b1]; omega
    | 2, _ => rw [if_neg (by decide), b2]; omega
    | 3, _ => rw [if_neg (by decide), b3]; omega
    | 4, _ => rw [if_pos (by decide), b4]
    | 5, _ => rw [if_neg (by decide), b5]; omega
    | 6, _ => rw [if_neg (by decide), b6]; omega
    | 7, _ => rw [if_pos (by decide), b7]
    | 8, _ => rw [if_neg (by decide), b8]; omega
    | 9, _ => rw [if_neg (by decide), b9]; omega
  have hp : (pst (txt y m d) 10).2 = [y, m, d] := by
    have e1 : pst (txt y m d) 4 = (0, [y, 0, 0]) := by
      simp only [pst, b0, b1, b2, b3]
      simp [gt]
      omega
    have e2 : pst (txt y m d) 7 = (1, [y, m, 0]) := by
      rw [pst, pst, pst, e1]
      simp [gt, b5, b6]
      omega
    rw [pst, pst, pst, e2]
    simp [gt, b8, b9]
    omega
  rw [par_c hsz hok, hp]
  rfl
/-- Text. -/
noncomputable def txS (n : Int) : ByteArray × Int := if n < 0 ∨ 109572 < n then (⟨#[]⟩, 2) else (txt (dateS n).1 (dateS n).2.1 (dateS n).2.2, 0)
theorem txt_parts (y m d : Int) : bs (p4l y) ++ bs [45] ++ bs (p2l m) ++ bs [45] ++ bs (p2l d) = txt y m d := by
  rw [bs_app, bs_app, bs_app, bs_app]
  rfl
end Go.Proofs.YtocmcdejkoejhaaDoor
