/-
  Reading numerals: the value of a text, and which texts are those of a wide integer.
-/
import Derived.Test.YtokhmkkifmhfmaaDoorT
set_option linter.unusedVariables false
namespace Go.Proofs.YtokhmkkifmhfmaaDoor
open Go Go.Am
theorem lm_zero {P : Nat} (h : P < 340282366920938463463374607431768211456) : (!((P : Int) % 4294967296 == 0 && (P : Int) / 4294967296 % 4294967296 == 0 && (P : Int) / 18446744073709551616 % 4294967296 == 0 && (P : Int) / 79228162514264337593543950336 % 4294967296 == 0)) = !decide (P = 0) := by
  congr 1
  rw [Bool.eq_iff_iff]
  simp only [Bool.and_eq_true, beq_iff_eq, decide_eq_true_eq]
  omega
theorem dd_dig : ∀ (n : Nat) (c : UInt8), c ∈ DD n → 48 ≤ c.toNat ∧ c.toNat ≤ 57 := by
  intro n
  induction n using Nat.strongRecOn with
  | ind n ih =>
    intro c hc
    by_cases h : n < 10
    · rw [dd_small h] at hc
      obtain rfl := List.mem_singleton.mp hc
      rw [UInt8.toNat_ofNat']
      omega
    · rw [dd_big h] at hc
      rcases List.mem_append.mp hc with h1 | h1
      · exact ih _ (by omega) c h1
      · obtain rfl := List.mem_singleton.mp h1
        rw [UInt8.toNat_ofNat']
        omega
theorem rt_step {M P : Nat} {t : List UInt8} (hL : (DD M).length ≤ 39) (ht : (t = [] ∧ DD M = DD P) ∨ (t ≠ [] ∧ DD M = if P = 0 then t else DD P ++ t)) (h : P ≠ 0 ∨ t = []) :
    t.length < 39 ∧ DD M = if P / 10 = 0 then UInt8.ofNat (48 + P % 10) :: t else DD (P / 10) ++ UInt8.ofNat (48 + P % 10) :: t := by
  have e : DD M = DD P ++ t := by
    rcases ht with ⟨rfl, h1⟩ | ⟨h0, h1⟩
    · simpa using h1
    · rw [if_neg (by rcases h with h | h; exact h; exact absurd h h0)] at h1; exact h1
  have hp := dd_len_pos P
  refine ⟨?_, ?_⟩
  · rw [e, List.length_append] at hL; omega
  · rw [e]
    by_cases h10 : P < 10
    · rw [if_pos (by omega), dd_small h10, show P % 10 = P by omega]; rfl
    · rw [if_neg (by omega), dd_big h10, List.append_assoc]; rfl
theorem rt_end {M P : Nat} {t : List UInt8} (ht : (t = [] ∧ DD M = DD P) ∨ (t ≠ [] ∧ DD M = if P = 0 then t else DD P ++ t)) (h : P = 0) (h0 : ¬ t = []) : DD M = t := by
  rcases ht with ⟨h1, _⟩ | ⟨_, h1⟩
  · exact absurd h1 h0
  · rwa [if_pos h] at h1
/-- What the digits of a text come to. -/
def vd (l : List UInt8) : Nat := l.foldl (fun a c => a * 10 + (c.toNat - 48)) 0
def isD (c : UInt8) : Prop := 48 ≤ c.toNat ∧ c.toNat ≤ 57
theorem vd_snoc (l : List UInt8) (c : UInt8) : vd (l ++ [c]) = vd l * 10 + (c.toNat - 48) := by simp [vd, List.foldl_append]
theorem vd_dd (n : Nat) : vd (DD n) = n := by
  induction n using Nat.strongRecOn with
  | ind n ih =>
    by_cases h : n < 10
    · rw [dd_small h]
      show 0 * 10 + ((UInt8.ofNat (48 + n)).toNat - 48) = n
      rw [UInt8.toNat_ofNat']
      omega
    · rw [dd_big h, vd_snoc, ih _ (by omega), UInt8.toNat_ofNat']
      omega
theorem vd_take (l : List UInt8) (i : Nat) (hi : i < l.length) : vd (l.take (i + 1)) = vd (l.take i) * 10 + (l[i].toNat - 48) := by
  rw [List.take_add_one, List.getElem?_eq_getElem hi]
  exact vd_snoc _ _
theorem vd_app_le (l m : List UInt8) : vd l ≤ vd (l ++ m) := by
  induction m generalizing l with
  | nil => simp
  | cons c m ih =>
    have h1 := ih (l ++ [c])
    rw [vd_snoc, List.append_assoc] at h1
    have h2 : vd l * 10 + (c.toNat - 48) ≤ vd (l ++ c :: m) := h1
    omega
theorem vd_le (l : List UInt8) (i : Nat) : vd (l.take i) ≤ vd l := by
  have := vd_app_le (l.take i) (l.drop i)
  rwa [List.take_append_drop] at this
theorem vd_lt (l : List UInt8) (h : ∀ c ∈ l, isD c) : ∀ i, i ≤ l.length → vd (l.take i) < 10 ^ i
  | 0, _ => by simp [vd]
  | i + 1, hi => by
    have h1 := vd_lt l h i (by omega)
    have h2 := h l[i] (List.getElem_mem _)
    unfold isD at h2
    rw [vd_take l i (by omega), Nat.pow_succ]
    omega
/-- The digits behind the sign. -/
def dg9 (l : List UInt8) : List UInt8 := Lib.trimPrefix l [45]
def ng9 (l : List UInt8) : Bool := Lib.hasPrefix l [45]
/-- What a text can only mean. -/
def pv (l : List UInt8) : Int := sg (ng9 l) (vd (dg9 l) : Int)
theorem ng_cons (c : UInt8) (l : List UInt8) : ng9 (c :: l) = (c == 45) := by
  simp only [ng9, Lib.hasPrefix, List.isPrefixOf, Bool.and_true]
  exact Bool.beq_comm
theorem dg_cons (c : UInt8) (l : List UInt8) : dg9 (c :: l) = if c = 45 then l else c :: l := by
  unfold dg9 Lib.trimPrefix
  by_cases h : c = 45
  · subst h; simp [Lib.hasPrefix]
  · simp [Lib.hasPrefix, h, Ne.symm h]
theorem dg_len (l : List UInt8) : (dg9 l).length ≤ l.length := by
  unfold dg9 Lib.trimPrefix
  split
  · simp
  · omega
theorem ng_nil : ng9 [] = false := rfl
theorem dg_nil : dg9 [] = [] := rfl
theorem dd_ne (n : Nat) : ∃ c l, DD n = c :: l ∧ c ≠ 45 := by
  rcases hl : DD n with _ | ⟨c, l⟩
  · have := dd_len_pos n; rw [hl] at this; simp at this
  · refine ⟨c, l, rfl, ?_⟩
    have := dd_dig n c (by rw [hl]; exact List.mem_cons_self ..)
    rintro rfl
    simp at this
theorem dg_tx {x : Int} (hx : Fw x) : dg9 (txW x) = DD (ab x).toNat ∧ ng9 (txW x) = decide (x < 0) := by
  by_cases h : x < 0
  · rw [txW_neg h, dg_cons, if_pos rfl, ng_cons]
    exact ⟨rfl, by simp [h]⟩
  · rw [txW_pos h]
    obtain ⟨c, l, e, hc⟩ := dd_ne (ab x).toNat
    rw [e, dg_cons, if_neg hc, ng_cons]
    exact ⟨rfl, by simp [h, hc]⟩
theorem pv_tx {x : Int} (hx : Fw x) : pv (txW x) = x := by
  obtain ⟨h1, h2⟩ := dg_tx hx
  have hm := ab_rng x
  rw [pv, h1, h2, vd_dd, show (((ab x).toNat : Nat) : Int) = ab x by omega]
  by_cases h : x < 0
  · rw [decide_eq_true h, sg_t rfl, ab_neg h]; omega
  · rw [decide_eq_false h, sg_f rfl, ab_pos h]
theorem tx_len {x : Int} (hx : Fw x) : (txW x).length ≤ 200 := by
  have hm := ab_rng x
  have hW := ab_W hx
  have := dd_len_le 39 (ab x).toNat (by decide) (by omega)
  by_cases h : x < 0
  · rw [txW_neg h, List.length_cons]; omega
  · rw [txW_pos h]; omega
/-- The text is that of a wide integer. -/
def okP (l : List UInt8) : Prop := Fw (pv l) ∧ txW (pv l) = l
instance (l : List UInt8) : Decidable (okP l) := by unfold okP Fw; exact inferInstance
theorem okP_of {x : Int} (hx : Fw x) {l : List UInt8} (h : txW x = l) : okP l ∧ pv l = x := by
  subst h
  have := pv_tx hx
  exact ⟨⟨by rw [this]; exact hx, by rw [this]⟩, this⟩
theorem okP_parts {l : List UInt8} (h : okP l) : 0 < (dg9 l).length ∧ (dg9 l).length ≤ 39 ∧ (∀ c ∈ dg9 l, isD c) ∧ ((vd (dg9 l) : Nat) : Int) = ab (pv l) := by
  obtain ⟨hx, hl⟩ := h
  obtain ⟨h1, h2⟩ := dg_tx hx
  rw [hl] at h1
  have hm := ab_rng (pv l)
  have hW := ab_W hx
  rw [h1]
  refine ⟨dd_len_pos _, dd_len_le 39 _ (by decide) (by omega), dd_dig _, ?_⟩
  rw [vd_dd]
  omega
theorem okP_val {l : List UInt8} (h : okP l) : vd (dg9 l) ≤ 170141183460469231731687303715884105728 := by
  have h1 := (okP_parts h).2.2.2
  have h2 := ab_W h.1
  omega
theorem ps_step {hi lo d : Int} (hh : 0 ≤ hi) (hl : 0 ≤ lo) (hd : 0 ≤ d) : ((hi * 18446744073709551616 + lo) * 10 + d = ((hi * 10 / 18446744073709551616) + ((hi * 10 % 18446744073709551616 + lo * 10 / 18446744073709551616 + 0) / 18446744073709551616) + (((hi * 10 % 18446744073709551616 + lo * 10 / 18446744073709551616 + 0) % 18446744073709551616 + 0 + (lo * 10 % 18446744073709551616 + d + 0) / 18446744073709551616) / 18446744073709551616)) * 340282366920938463463374607431768211456 + (((hi * 10 % 18446744073709551616 + lo * 10 / 18446744073709551616 + 0) % 18446744073709551616 + 0 + (lo * 10 % 18446744073709551616 + d + 0) / 18446744073709551616) % 18446744073709551616) * 18446744073709551616 + ((lo * 10 % 18446744073709551616 + d + 0) % 18446744073709551616)) ∧ 0 ≤ (hi * 10 / 18446744073709551616) ∧ 0 ≤ ((hi * 10 % 18446744073709551616 + lo * 10 / 18446744073709551616 + 0) / 18446744073709551616) ∧ 0 ≤ (((hi * 10 % 18446744073709551616 + lo * 10 / 18446744073709551616 + 0) % 18446744073709551616 + 0 + (lo * 10 % 18446744073709551616 + d + 0) / 18446744073709551616) / 18446744073709551616) ∧ (0 ≤ (((hi * 10 % 18446744073709551616 + lo * 10 / 18446744073709551616 + 0) % 18446744073709551616 + 0 + (lo * 10 % 18446744073709551616 + d + 0) / 18446744073709551616) % 18446744073709551616) ∧ (((hi * 10 % 18446744073709551616 + lo * 10 / 18446744073709551616 + 0) % 18446744073709551616 + 0 + (lo * 10 % 18446744073709551616 + d + 0) / 18446744073709551616) % 18446744073709551616) ≤ 18446744073709551615) ∧ 0 ≤ ((lo * 10 % 18446744073709551616 + d + 0) % 18446744073709551616) ∧ ((lo * 10 % 18446744073709551616 + d + 0) % 18446744073709551616) ≤ 18446744073709551615 := by
  obtain ⟨o, eo⟩ : ∃ z, z = lo * 10 / 18446744073709551616 := ⟨_, rfl⟩
  obtain ⟨l, el⟩ : ∃ z, z = lo * 10 % 18446744073709551616 := ⟨_, rfl⟩
  obtain ⟨m, em⟩ : ∃ z, z = hi * 10 / 18446744073709551616 := ⟨_, rfl⟩
  obtain ⟨h, eh⟩ : ∃ z, z = hi * 10 % 18446744073709551616 := ⟨_, rfl⟩
  have e1 : lo * 10 = o * 18446744073709551616 + l ∧ 0 ≤ o ∧ 0 ≤ l := by omega
  have e2 : hi * 10 = m * 18446744073709551616 + h ∧ 0 ≤ m ∧ 0 ≤ h := by omega
  rw [← eo, ← el, ← em, ← eh]
  clear eo el em eh
  obtain ⟨n, en⟩ : ∃ z, z = (h + o + 0) / 18446744073709551616 := ⟨_, rfl⟩
  obtain ⟨k, ek⟩ : ∃ z, z = (h + o + 0) % 18446744073709551616 := ⟨_, rfl⟩
  have e3 : h + o = n * 18446744073709551616 + k ∧ 0 ≤ n ∧ 0 ≤ k := by omega
  obtain ⟨q, eq⟩ : ∃ z, z = (l + d + 0) / 18446744073709551616 := ⟨_, rfl⟩
  obtain ⟨l2, el2⟩ : ∃ z, z = (l + d + 0) % 18446744073709551616 := ⟨_, rfl⟩
  have e4 : l + d = q * 18446744073709551616 + l2 ∧ 0 ≤ q ∧ 0 ≤ l2 ∧ l2 ≤ 18446744073709551615 := by omega
  rw [← en, ← ek, ← eq, ← el2]
  clear en ek eq el2
  obtain ⟨p, ep⟩ : ∃ z, z = (k + 0 + q) / 18446744073709551616 := ⟨_, rfl⟩
  obtain ⟨h2, eh2⟩ : ∃ z, z = (k + 0 + q) % 18446744073709551616 := ⟨_, rfl⟩
  have e5 : k + q = p * 18446744073709551616 + h2 ∧ 0 ≤ p ∧ 0 ≤ h2 ∧ h2 ≤ 18446744073709551615 := by omega
  rw [← ep, ← eh2]
  clear ep eh2
  omega
theorem dg_zero {l : List UInt8} (h : ¬ 0 < l.length) : dg9 l = l := by
  rcases l with _ | ⟨c, l⟩
  · rfl
  · simp at h
theorem dg_yes {l : List UInt8} (h : 0 < l.length) (h1 : l[0].toNat = 45) : dg9 l = l.drop 1 := by
  rcases l with _ | ⟨c, l⟩
  · simp at h
  · have : c = 45 := UInt8.toNat_inj.mp h1
    rw [dg_cons, if_pos this]; rfl
theorem dg_no {l : List UInt8} (h : 0 < l.length) (h1 : ¬ l[0].toNat = 45) : dg9 l = l := by
  rcases l with _ | ⟨c, l⟩
  · rfl
  · have : ¬ c = 45 := fun h2 => h1 (by rw [List.getElem_cons_zero, h2]; rfl)
    rw [dg_cons, if_neg this]
theorem dg_same (l : List UInt8) : (dg9 l == l) = !(ng9 l) := by
  rcases l with _ | ⟨c, l⟩
  · rfl
  · rw [dg_cons, ng_cons]
    by_cases h : c = 45
    · rw [if_pos h, h, beq_eq_false_iff_ne.mpr fun h1 => by have := congrArg List.length h1; simp at this]; rfl
    · rw [if_neg h, beq_self_eq_true, beq_eq_false_iff_ne.mpr h]; rfl
theorem sl_bs (l : List UInt8) (h : 0 < l.length) : sliceV Tryd.prog 9 (sv l) (some (AV.i 1)) none = some (sv (l.drop 1)) := by
  have hs := bs_size l
  simp only [sliceV, tk9, bound]
  rw [if_pos ⟨by decide, by omega, Int.le_refl _⟩]
  congr 3
  apply ByteArray.ext
  rw [ByteArray.data_extract]
  simp only [hs]
  show (l.toArray.extract 1 l.length) = (l.drop 1).toArray
  simp
  exact (List.take_of_length_le (by simp))
/-- What reading a text gives. -/
def pr (l : List UInt8) : Int × Int := if okP l then (pv l, 0) else (0, 4)
theorem pr_y {l : List UInt8} (h : okP l) : pr l = (pv l, 0) := by rw [pr, if_pos h]
theorem pr_n {l : List UInt8} (h : ¬ okP l) : pr l = (0, 4) := by rw [pr, if_neg h]
theorem pr_F (l : List UInt8) : Fw (pr l).1 := by
  by_cases h : okP l
  · rw [pr_y h]; exact h.1
  · rw [pr_n h]; show Fw 0; unfold Fw; omega
theorem take_isD {l : List UInt8} {i : Nat} (hi : i < l.length) (h : ∀ c ∈ l.take i, isD c) (h1 : isD l[i]) : ∀ c ∈ l.take (i + 1), isD c := by
  intro c hc
  rw [List.take_add_one, List.getElem?_eq_getElem hi] at hc
  rcases List.mem_append.mp hc with h2 | h2
  · exact h c h2
  · obtain rfl := List.mem_singleton.mp h2
    exact h1
theorem bs_at (l : List UInt8) (i : Nat) (h : i < l.length) : (bs l).data[i]?.getD 0 = l[i] := by
  show (l.toArray[i]?).getD 0 = _
  rw [List.getElem?_toArray, List.getElem?_eq_getElem h]
  rfl
theorem ix_bs (l : List UInt8) (i : Nat) (h : i < l.length) : indexV Tryd.prog 9 (sv l) (AV.i (i : Int)) = some (.v (.int .u8 ((l[i].toNat : Nat) : Int))) := by
  have e := bs_at l i h
  have hs := bs_size l
  simp only [indexV, tk9]
  rw [if_pos ⟨by omega, by omega⟩]
  show some (AV.v (.int .u8 ((((bs l).data[(i : Int).toNat]?.getD 0).toNat : Nat) : Int))) = _
  rw [Int.toNat_natCast, e]
end Go.Proofs.YtokhmkkifmhfmaaDoor
