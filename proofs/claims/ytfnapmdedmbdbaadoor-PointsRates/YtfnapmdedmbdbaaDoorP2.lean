/-
  Net run rates as strings, in plain numbers.
-/
import Derived.Test.YtfnapmdedmbdbaaDoorP
import Derived.Test.YtfnapmdedmbdbaaDoorT
set_option linter.unusedVariables false
set_option linter.unusedSimpArgs false
namespace Go.Proofs.YtfnapmdedmbdbaaDoor
open Go Go.Am
def okR (z : St) (b : Int) : Prop := okS z ∧ 1 ≤ b ∧ b ≤ 8
instance (z : St) (b : Int) : Decidable (okR z b) := by unfold okR; exact inferInstance
/-- The rate in thousandths of a run. -/
def rq (z : St) (b : Int) : Int := (2 * ab (rxn z * (b * 1000)) + rxd z) / (2 * rxd z)
def rtx (z : St) (b : Int) : List UInt8 := (if rxn z < 0 ∧ 0 < rq z b then 45 else 43) :: (DD (rq z b / 1000).toNat ++ 46 :: padN 3 (rq z b % 1000).toNat)
def rtS (z : St) (b : Int) : List UInt8 × Int := if okR z b then (rtx z b, 0) else ([], 2)
theorem rtS_y {z : St} {b : Int} (h : okR z b) : rtS z b = (rtx z b, 0) := if_pos h
theorem rtS_n {z : St} {b : Int} (h : ¬ okR z b) : rtS z b = ([], 2) := if_neg h
theorem scal_rng {n b : Int} (hn : -1099511627776 ≤ n ∧ n ≤ 1099511627776) (hb : 1 ≤ b ∧ b ≤ 8) : -8796093022208000 ≤ n * (b * 1000) ∧ n * (b * 1000) ≤ 8796093022208000 ∧ n * b = n * (b * 1000) / 1000 ∧ n * b * 2000 = 2 * (n * (b * 1000)) ∧ (0 - n) * b * 2000 = -(2 * (n * (b * 1000))) ∧ n * b * 1000 = n * (b * 1000) ∧ (n < 0 ↔ n * (b * 1000) < 0) := by
  have h : b = 1 ∨ b = 2 ∨ b = 3 ∨ b = 4 ∨ b = 5 ∨ b = 6 ∨ b = 7 ∨ b = 8 := by omega
  rcases h with rfl | rfl | rfl | rfl | rfl | rfl | rfl | rfl <;> omega
theorem rq_rng {z : St} {b : Int} (h : okR z b) : 0 ≤ rq z b ∧ rq z b ≤ 8796093022208001 := by
  have h1 := rxn_rng h.1
  have h2 := rxd_rng h.1
  have h3 := scal_rng h1 h.2
  have h4 : ab (rxn z * (b * 1000)) ≤ 8796093022208000 ∧ 0 ≤ ab (rxn z * (b * 1000)) := by unfold ab; split <;> omega
  unfold rq
  constructor
  · exact Int.ediv_nonneg (by omega) (by omega)
  · have : (2 * ab (rxn z * (b * 1000)) + rxd z) / (2 * rxd z) ≤ (8796093022208001 * (2 * rxd z)) / (2 * rxd z) := Int.ediv_le_ediv (by omega) (by omega)
    rw [Int.mul_ediv_cancel _ (by omega)] at this
    exact this
theorem dd_len3 {n : Nat} (h : n < 1000) : 0 < (DD n).length ∧ (DD n).length ≤ 3 := ⟨dd_len_pos n, dd_len_le 3 n (by decide) (by simpa using h)⟩
theorem pad_len3 {n : Nat} (h : n < 1000) : (padN 3 n).length = 3 := by
  have := dd_len3 h
  unfold padN
  rw [List.length_append, List.length_replicate]
  omega
theorem dd_len20 {n : Nat} (h : n < 10000000000000000000) : (DD n).length ≤ 19 := dd_len_le 19 n (by decide) (by simpa using h)
theorem rtx_len {z : St} {b : Int} (h : okR z b) : (rtx z b).length ≤ 24 := by
  have := rq_rng h
  have h1 := dd_len20 (n := (rq z b / 1000).toNat) (by omega)
  have h2 := pad_len3 (n := (rq z b % 1000).toNat) (by omega)
  unfold rtx
  rw [List.length_cons, List.length_append, List.length_cons]
  omega
/-- What is written of a number by its digits, from the last one on. -/
theorem pad_one (n : Nat) : padN 1 n = DD n := by
  have := dd_len_pos n
  unfold padN
  rw [show 1 - (DD n).length = 0 by omega]
  rfl

/-! ### Numerals -/
theorem dd_dig : ∀ (n : Nat) (c : UInt8), c ∈ DD n → 48 ≤ c.toNat ∧ c.toNat ≤ 57 := by
  intro n
  induction n using Nat.strongRecOn with
  | ind n ih =>
    intro c hc
    by_cases h : n < 10
    · rw [dd_small h] at hc
      obtain rfl := List.mem_singleton.mp hc
      rw [UInt8.toNat_ofNat']
      omega
    · rw [dd_big h] at hc
      rcases List.mem_append.mp hc with h1 | h1
      · exact ih _ (by omega) c h1
      · obtain rfl := List.mem_singleton.mp h1
        rw [UInt8.toNat_ofNat']
        omega
theorem dd_cut (n : Nat) : Lib.hasPrefix (DD n) [45] = false ∧ Lib.trimPrefix (DD n) [45] = DD n := by
  have h : Lib.hasPrefix (DD n) [45] = false := by
    cases hd : DD n with
    | nil => rfl
    | cons c l =>
      have := dd_dig n c (by rw [hd]; exact List.mem_cons_self)
      have hc : ¬ (45 : UInt8) = c := fun e => by rw [← e] at this; exact absurd this.1 (by decide)
      simp [Lib.hasPrefix, List.isPrefixOf, hc]
  exact ⟨h, by rw [Lib.trimPrefix, h]; rfl⟩
theorem itoa_tx (n : Int) : Lib.itoa n = txW n := by
  unfold Lib.itoa
  by_cases h : n < 0
  · rw [if_pos h, txW_neg h]
    congr 2
    unfold ab
    split <;> omega
  · rw [if_neg h, txW_pos h]
    congr 1
    unfold ab
    split <;> omega
/-- What is still to be written: the digits of u ahead of s, with w digits in all or more. -/
def otx (w u : Nat) (s : List UInt8) : List UInt8 := if u = 0 ∧ w ≤ s.length then s else padN (w - s.length) u ++ s
theorem otx_end {w : Nat} {s : List UInt8} (h : w ≤ s.length) : otx w 0 s = s := if_pos ⟨rfl, h⟩
theorem otx_start {w u : Nat} (h : 0 < w) : otx w u [] = padN w u := by
  rw [otx, if_neg (by simp; omega)]
  simp
theorem otx_step {w u : Nat} {s : List UInt8} (h : ¬ (u = 0 ∧ w ≤ s.length)) : otx w (u / 10) (UInt8.ofNat (48 + u % 10) :: s) = otx w u s := by
  unfold otx
  rw [if_neg h]
  unfold padN
  simp only [List.length_cons]
  by_cases h1 : u < 10
  · rw [dd_small h1, show u / 10 = 0 by omega, show u % 10 = u by omega, dd_small (show 0 < 10 by decide)]
    by_cases h2 : w ≤ s.length + 1
    · rw [if_pos ⟨rfl, h2⟩]
      simp only [List.length_cons, List.length_nil]
      rw [show w - s.length - (0 + 1) = 0 by omega]
      rfl
    · rw [if_neg (by omega)]
      simp only [List.length_cons, List.length_nil]
      rw [show w - s.length - (0 + 1) = (w - (s.length + 1) - (0 + 1)) + 1 by omega, List.replicate_succ']
      simp
  · rw [if_neg (by omega), dd_big h1, List.length_append]
    simp only [List.length_cons, List.length_nil]
    rw [show w - s.length - ((DD (u / 10)).length + (0 + 1)) = w - (s.length + 1) - (DD (u / 10)).length by omega]
    simp
theorem otx_len (w u : Nat) (s : List UInt8) : s.length ≤ (otx w u s).length := by
  unfold otx
  split
  · exact Nat.le_refl _
  · rw [List.length_append]; omega
theorem pad_len (w m : Nat) (hw : w ≤ 20) (hm : m ≤ 9223372036854775808) : (padN w m).length ≤ 20 := by
  have := dd_len20 (n := m) (by omega)
  unfold padN
  rw [List.length_append, List.length_replicate]
  omega
theorem dig_slice : ∀ v : Nat, v < 10 → sliceV Tryd.prog 9 (sv [48, 49, 50, 51, 52, 53, 54, 55, 56, 57]) (some (u6 (v : Int))) (some (u6 ((v : Int) + 1))) = some (sv [UInt8.ofNat (48 + v)]) := by
  intro v hv
  have hs : (bs [48, 49, 50, 51, 52, 53, 54, 55, 56, 57]).size = 10 := rfl
  simp only [sliceV, tk9, bound]
  rw [if_pos ⟨by omega, by omega, by rw [hs]; omega⟩]
  rw [show ((v : Int)).toNat = v by omega, show ((v : Int) + 1).toNat = v + 1 by omega]
  have : v = 0 ∨ v = 1 ∨ v = 2 ∨ v = 3 ∨ v = 4 ∨ v = 5 ∨ v = 6 ∨ v = 7 ∨ v = 8 ∨ v = 9 := by omega
  rcases this with rfl | rfl | rfl | rfl | rfl | rfl | rfl | rfl | rfl | rfl <;> rfl
theorem cv2_49 (n : Int) (h : 0 ≤ n ∧ n ≤ 9223372036854775807) : convV Tryd.prog 2 49 (AV.i n) = some (u6 n) := by
  simp only [convV, ty2, tk49, wrap_u]
  congr 3
  omega
theorem cv2_49n (n : Int) (h : -9223372036854775808 ≤ n ∧ n < 0) : convV Tryd.prog 2 49 (AV.i n) = some (u6 (n + 18446744073709551616)) := by
  simp only [convV, ty2, tk49, wrap_u]
  congr 3
  omega
theorem txW_nn {n : Int} (h : 0 ≤ n) : txW n = DD n.toNat := by
  rw [txW_pos (by omega)]
  congr 1
  unfold ab
  split <;> omega
theorem txW_len {n : Int} (h : -9223372036854775808 ≤ n ∧ n ≤ 9223372036854775807) : (txW n).length ≤ 20 := by
  have hb : 0 ≤ ab n ∧ ab n ≤ 9223372036854775808 := by unfold ab; split <;> omega
  have := dd_len20 (n := (ab n).toNat) (by omega)
  unfold txW
  split <;> simp <;> omega
theorem fmt_ok (lim : Nat) (H : Heap) (n : Int) (h : -9223372036854775808 ≤ n ∧ n ≤ 9223372036854775807) : ACall sig lim 55 [AV.i n, AV.i 10] H fun r H' => r = sv (txW n) ∧ H' = H :=
  ⟨1, _, H, by
    show Option.map (fun x => (x, H)) (if (10 : Int) = 10 ∧ -9223372036854775808 ≤ n ∧ n ≤ 9223372036854775807 then some (AV.v (.string ⟨(Lib.itoa n).toArray⟩)) else none) = _
    rw [if_pos ⟨rfl, h⟩, itoa_tx]
    rfl, rfl, rfl⟩
theorem rq_at {z : St} {b T : Int} (hT : T = rxn z * (b * 1000)) : rq z b = (2 * ab T + rxd z) / (2 * rxd z) := by rw [rq, hT]
theorem q_wrap {X D Y E q : Int} (h1 : X = Y) (h2 : D = E) (hq : q = Y / E) (hr : 0 ≤ q ∧ q ≤ 8796093022208001) : IntKind.i64.wrap (X / D) = q := by
  subst h1 h2 hq
  exact wrap_i64 _ (by omega)
theorem rtS_err {z : St} {b : Int} (h : (rtS z b).2 = 0) : okR z b := by
  by_cases h1 : okR z b
  · exact h1
  · rw [rtS_n h1] at h; cases h
/-- Three standings in a row. -/
def g3 (x y z : St) (i : Nat) : St := if i = 0 then x else if i = 1 then y else z
abbrev S3 (x y z : St) : List AV := stL x ++ (stL y ++ stL z)
theorem bs27 (lim : Nat) (H : Heap) (a b c : Operand) (ev : Operand → AV) (x y z : St) (ha : ev a = stA x) (hb : ev b = stA y) (hc : ev c = stA z) {n : Nat} (hn : H.length = n) {H2 : Heap} (hH : H ++ [some (S3 x y z)] = H2) : effV Tryd.prog lim (.buildSlice 27 3 #[(0, a), (1, b), (2, c)]) ev H = some (.own 10 n 0 3, H2) := by
  subst hn hH
  simp only [effV, tk27, ty23]
  rw [if_pos ⟨rfl, by decide, by decide⟩]
  simp only [List.map_cons, List.map_nil, ha, hb, hc]
  rfl
theorem hgx (H X : Heap) (a b c d : Blk) : hget (H ++ some a :: some b :: some c :: some d :: X) (H.length + 3) = some d := by rw [hget_app']; rfl
theorem hgx1 (H X : Heap) (a b : Blk) : hget (H ++ some a :: some b :: X) (H.length + 1) = some b := by rw [hget_app']; rfl
theorem hgx2 (H X : Heap) (a b c : Blk) : hget (H ++ some a :: some b :: some c :: X) (H.length + 2) = some c := by rw [hget_app']; rfl
attribute [go_sem] hgx1 hgx2 hgx
theorem g3_all {x y z : St} (h : ∀ j, j < 3 → okS (g3 x y z j)) : okS x ∧ okS y ∧ okS z := ⟨h 0 (by decide), h 1 (by decide), h 2 (by decide)⟩
theorem rtx_m {z : St} {b : Int} (h : rxn z < 0 ∧ 0 < rq z b) : rtx z b = 45 :: (DD (rq z b / 1000).toNat ++ 46 :: padN 3 (rq z b % 1000).toNat) := by rw [rtx, if_pos h]
theorem rtx_p {z : St} {b : Int} (h : ¬ (rxn z < 0 ∧ 0 < rq z b)) : rtx z b = 43 :: (DD (rq z b / 1000).toNat ++ 46 :: padN 3 (rq z b % 1000).toNat) := by rw [rtx, if_neg h]
end Go.Proofs.YtfnapmdedmbdbaaDoor
