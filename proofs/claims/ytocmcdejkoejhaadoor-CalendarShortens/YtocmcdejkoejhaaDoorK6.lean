/-
  The least travel times: the three loops as a function of the table, and what they give. Plain definitions and laws.
-/
import Derived.Test.YtocmcdejkoejhaaDoorK4
set_option linter.unusedVariables false
namespace Go.Proofs.YtocmcdejkoejhaaDoor
open Go Go.Am
abbrev Mx := Nat → Nat → Int
def upM (M : Mx) (k i j : Nat) : Mx := fun a b => if a = i ∧ b = j then min (M i j) (M i k + M k j) else M a b
def fwJ (M : Mx) (k i : Nat) : Nat → Mx
  | 0 => M
  | j + 1 => upM (fwJ M k i j) k i j
def fwI (M : Mx) (n k : Nat) : Nat → Mx
  | 0 => M
  | i + 1 => fwJ (fwI M n k i) k i n
def fwK (M : Mx) (n : Nat) : Nat → Mx
  | 0 => M
  | k + 1 => fwI (fwK M n k) n k n
def tb (t : List (List Int)) : Mx := fun i j => gt (gt t i) j
def rowM (n : Nat) (M : Mx) (i : Nat) : List Int := (List.range n).map (M i)
def matM (n : Nat) (M : Mx) : List (List Int) := (List.range n).map (rowM n M)
def shT (t : List (List Int)) : List (List Int) := matM t.length (fwK (tb t) t.length t.length)

theorem rowM_len (n : Nat) (M : Mx) (i : Nat) : (rowM n M i).length = n := by simp [rowM]
theorem matM_len (n : Nat) (M : Mx) : (matM n M).length = n := by simp [matM]
theorem gt_range {α : Type} [Inhabited α] (n : Nat) (f : Nat → α) (i : Nat) (h : i < n) : gt ((List.range n).map f) i = f i := by
  simp [gt, h]
theorem rowM_gt (n : Nat) (M : Mx) (i j : Nat) (h : j < n) : gt (rowM n M i) j = M i j := gt_range n _ j h
theorem matM_gt (n : Nat) (M : Mx) (i : Nat) (h : i < n) : gt (matM n M) i = rowM n M i := gt_range n _ i h
theorem matM_tb (n : Nat) (M : Mx) (i j : Nat) (hi : i < n) (hj : j < n) : tb (matM n M) i j = M i j := by
  unfold tb; rw [matM_gt n M i hi, rowM_gt n M i j hj]
theorem gt_ext {α : Type} [Inhabited α] : ∀ {a b : List α}, a.length = b.length → (∀ i, i < a.length → gt a i = gt b i) → a = b
  | a, b, h, hh => by
    apply List.ext_getElem h
    intro i h1 h2
    have := hh i h1
    simpa [gt, h1, h2] using this
theorem rowM_of (t : List Int) (M : Mx) (i n : Nat) (hl : t.length = n) (h : ∀ j, j < n → M i j = gt t j) : rowM n M i = t := by
  apply gt_ext (by rw [rowM_len, hl])
  intro j hj
  rw [rowM_len] at hj
  rw [rowM_gt n M i j hj, h j hj]
theorem matM_of {t : List (List Int)} (hl : ∀ i, i < t.length → (gt t i).length = t.length) : matM t.length (tb t) = t := by
  apply gt_ext (by rw [matM_len])
  intro i hi
  rw [matM_len] at hi
  rw [matM_gt _ _ i hi]
  exact rowM_of _ _ _ _ (hl i hi) fun j hj => rfl
theorem rowM_congr (n : Nat) {M N : Mx} (i : Nat) (h : ∀ j, j < n → M i j = N i j) : rowM n M i = rowM n N i := by
  apply gt_ext (by rw [rowM_len, rowM_len])
  intro j hj
  rw [rowM_len] at hj
  rw [rowM_gt n M i j hj, rowM_gt n N i j hj, h j hj]
theorem rowM_up (n : Nat) (M : Mx) (k i j : Nat) (hj : j < n) : (rowM n M i).set j (min (M i j) (M i k + M k j)) = rowM n (upM M k i j) i := by
  apply List.ext_getElem (by rw [List.length_set, rowM_len, rowM_len])
  intro b h1 h2
  rw [List.getElem_set]
  simp only [rowM, List.getElem_map, List.getElem_range, upM, true_and]
  by_cases h : j = b
  · subst h; simp
  · rw [if_neg h, if_neg (fun hh => h hh.symm)]
theorem rowM_up_other (n : Nat) (M : Mx) (k i j a : Nat) (h : a ≠ i) : rowM n (upM M k i j) a = rowM n M a := by
  apply rowM_congr
  intro b _
  simp [upM, h]

/-! ### Ranges -/
def RngM (n : Nat) (M : Mx) : Prop := ∀ i j, i < n → j < n → 0 ≤ M i j ∧ M i j ≤ 30
theorem RngM.up {n : Nat} {M : Mx} (h : RngM n M) {k i j : Nat} (hk : k < n) (hi : i < n) (hj : j < n) : RngM n (upM M k i j) := fun a b ha hb => by
  have h1 := h a b ha hb
  have h2 := h i j hi hj
  have h3 := h i k hi hk
  have h4 := h k j hk hj
  unfold upM
  split <;> omega
theorem RngM.fwJ {n : Nat} {M : Mx} (h : RngM n M) {k i : Nat} (hk : k < n) (hi : i < n) : ∀ {j : Nat}, j ≤ n → RngM n (fwJ M k i j)
  | 0, _ => h
  | j + 1, hj => (RngM.fwJ h hk hi (j := j) (by omega)).up hk hi (by omega)
theorem RngM.fwI {n : Nat} {M : Mx} (h : RngM n M) {k : Nat} (hk : k < n) : ∀ {i : Nat}, i ≤ n → RngM n (fwI M n k i)
  | 0, _ => h
  | i + 1, hi => (RngM.fwI h hk (i := i) (by omega)).fwJ hk (by omega) (Nat.le_refl _)
theorem RngM.fwK {n : Nat} {M : Mx} (h : RngM n M) : ∀ {k : Nat}, k ≤ n → RngM n (fwK M n k)
  | 0, _ => h
  | k + 1, hk => (RngM.fwK h (k := k) (by omega)).fwI (by omega) (Nat.le_refl _)

/-! ### One round of k, all at once -/
def stp (M : Mx) (k : Nat) : Mx := fun i j => min (M i j) (M i k + M k j)
/-- What the rounds keep: within range, nothing from a ground to itself. -/
structure GoodM (n : Nat) (M : Mx) : Prop where
  rng : RngM n M
  dg : ∀ i, i < n → M i i = 0
theorem fwJ_at {n : Nat} {M : Mx} (g : GoodM n M) {k i : Nat} (hk : k < n) (hi : i < n) : ∀ j, j ≤ n → ∀ a b, a < n → b < n → fwJ M k i j a b = if a = i ∧ b < j then stp M k a b else M a b
  | 0, _, a, b, _, _ => by rw [if_neg (by omega)]; rfl
  | j + 1, hj, a, b, ha, hb => by
    have ih := fwJ_at g hk hi j (by omega)
    show upM (fwJ M k i j) k i j a b = _
    unfold upM
    rw [ih i j hi (by omega), ih i k hi hk, ih k j hk (by omega), ih a b ha hb]
    have r1 := g.rng i k hi hk
    have r2 := g.rng k j hk (by omega)
    have r3 := g.dg k hk
    have r4 := g.rng k k hk hk
    have e1 : stp M k i k = M i k := by unfold stp; omega
    have e2 : stp M k k j = M k j := by unfold stp; omega
    rw [if_neg (show ¬ (i = i ∧ j < j) by omega), e1, ite_self]
    by_cases hki : k = i ∧ j < j
    · omega
    rw [if_neg hki]
    by_cases h : a = i ∧ b = j
    · rw [if_pos h, if_pos (by omega), h.1, h.2]; rfl
    · rw [if_neg h]
      by_cases h2 : a = i ∧ b < j
      · rw [if_pos h2, if_pos (by omega)]
      · rw [if_neg h2, if_neg (by omega)]
theorem stp_good {n : Nat} {M : Mx} (g : GoodM n M) {k : Nat} (hk : k < n) : GoodM n (stp M k) := by
  constructor
  · intro i j hi hj
    have h1 := g.rng i j hi hj
    have h2 := g.rng i k hi hk
    have h3 := g.rng k j hk hj
    unfold stp; omega
  · intro i hi
    have h1 := g.dg i hi
    have h2 := g.rng i k hi hk
    have h3 := g.rng k i hk hi
    unfold stp; omega
theorem fwI_at {n : Nat} {M : Mx} (g : GoodM n M) {k : Nat} (hk : k < n) : ∀ i, i ≤ n → (∀ a b, a < n → b < n → fwI M n k i a b = if a < i then stp M k a b else M a b) ∧ GoodM n (fwI M n k i)
  | 0, _ => ⟨fun a b _ _ => by rw [if_neg (by omega)]; rfl, g⟩
  | i + 1, hi => by
    obtain ⟨ih, ig⟩ := fwI_at g hk i (by omega)
    have hat : ∀ a b, a < n → b < n → fwI M n k (i + 1) a b = if a < i + 1 then stp M k a b else M a b := fun a b ha hb => by
      show fwJ (fwI M n k i) k i n a b = _
      rw [fwJ_at ig hk (by omega) n (Nat.le_refl _) a b ha hb]
      by_cases h : a = i
      · subst h
        rw [if_pos ⟨rfl, hb⟩, if_pos (by omega)]
        have r1 := g.rng k b hk hb
        have r3 := g.dg k hk
        have e2 : stp M k k b = M k b := by unfold stp; omega
        show min (fwI M n k a a b) (fwI M n k a a k + fwI M n k a k b) = _
        rw [ih a b ha hb, ih a k ha hk, ih k b hk hb, e2, ite_self, if_neg (by omega), if_neg (by omega)]
        rfl
      · rw [if_neg (by omega), ih a b ha hb]
        by_cases h2 : a < i
        · rw [if_pos h2, if_pos (by omega)]
        · rw [if_neg h2, if_neg (by omega)]
    refine ⟨hat, ⟨ig.rng.fwJ hk (by omega) (Nat.le_refl _), fun a ha => ?_⟩⟩
    rw [hat a a ha ha, (stp_good g hk).dg a ha, g.dg a ha, ite_self]
theorem fwK_at {n k : Nat} {M : Mx} (g : GoodM n (fwK M n k)) (hk : k < n) (a b : Nat) (ha : a < n) (hb : b < n) : fwK M n (k + 1) a b = stp (fwK M n k) k a b := by
  show fwI (fwK M n k) n k n a b = _
  rw [(fwI_at g hk n (Nat.le_refl _)).1 a b ha hb, if_pos ha]
theorem fwK_good {n : Nat} {M : Mx} (g : GoodM n M) : ∀ {k : Nat}, k ≤ n → GoodM n (fwK M n k)
  | 0, _ => g
  | k + 1, hk => (fwI_at (fwK_good g (k := k) (by omega)) (by omega) n (Nat.le_refl _)).2
/-- A table that reads the same in both directions stays one. -/
theorem fwK_sym {n : Nat} {M : Mx} (g : GoodM n M) (hs : ∀ i j, i < n → j < n → M i j = M j i) : ∀ {k : Nat}, k ≤ n → ∀ i j, i < n → j < n → fwK M n k i j = fwK M n k j i
  | 0, _ => hs
  | k + 1, hk => fun i j hi hj => by
    have gk := fwK_good g (k := k) (by omega)
    have ih := fwK_sym g hs (k := k) (by omega)
    rw [fwK_at gk (by omega) i j hi hj, fwK_at gk (by omega) j i hj hi]
    have h1 := ih i j hi hj
    have h2 := ih i k hi (by omega)
    have h3 := ih k j (by omega) hj
    unfold stp; omega
theorem fwK_le {n : Nat} {M : Mx} (g : GoodM n M) : ∀ {k : Nat}, k ≤ n → ∀ i j, i < n → j < n → fwK M n k i j ≤ M i j
  | 0, _ => fun i j _ _ => Int.le_refl _
  | k + 1, hk => fun i j hi hj => by
    have gk := fwK_good g (k := k) (by omega)
    have ih := fwK_le g (k := k) (by omega) i j hi hj
    rw [fwK_at gk (by omega) i j hi hj]
    unfold stp; omega
theorem fwK_tri {n : Nat} {M : Mx} (g : GoodM n M) : ∀ {k : Nat}, k ≤ n → ∀ i j m, i < n → j < n → m < k → fwK M n k i j ≤ fwK M n k i m + fwK M n k m j
  | 0, _ => fun i j m _ _ hm => by omega
  | k + 1, hk => fun i j m hi hj hm => by
    have gk := fwK_good g (k := k) (by omega)
    have ih := fwK_tri g (k := k) (by omega)
    have hm' : m < n := by omega
    rw [fwK_at gk (by omega) i j hi hj, fwK_at gk (by omega) i m hi hm', fwK_at gk (by omega) m j hm' hj]
    have d := gk.dg k (by omega)
    have r1 := gk.rng k m (by omega) hm'
    have r2 := gk.rng m k hm' (by omega)
    unfold stp
    by_cases h : m = k
    · subst h; omega
    · have t1 := ih i j m hi hj (by omega)
      have t2 := ih k j m (by omega) hj (by omega)
      have t3 := ih i k m hi (by omega) (by omega)
      omega
/-- A table with the triangle inequality stays as it is. -/
theorem upM_id {M : Mx} {k i j : Nat} (h : M i j ≤ M i k + M k j) : upM M k i j = M := by
  funext a b
  unfold upM
  split
  · rename_i hh; rw [hh.1, hh.2]; omega
  · rfl
theorem fwK_id {n : Nat} {M : Mx} (h : ∀ i j k, i < n → j < n → k < n → M i j ≤ M i k + M k j) : ∀ k, k ≤ n → fwK M n k = M
  | 0, _ => rfl
  | k + 1, hk => by
    have hJ : ∀ i, i < n → ∀ j, j ≤ n → fwJ M k i j = M := fun i hi j => by
      induction j with
      | zero => intro _; rfl
      | succ j ih =>
        intro hj
        show upM (fwJ M k i j) k i j = M
        rw [ih (by omega)]
        exact upM_id (h i j k hi (by omega) (by omega))
    have hI : ∀ i, i ≤ n → fwI M n k i = M := fun i => by
      induction i with
      | zero => intro _; rfl
      | succ i ih =>
        intro hi
        show fwJ (fwI M n k i) k i n = M
        rw [ih (by omega)]
        exact hJ i (by omega) n (Nat.le_refl _)
    show fwI (fwK M n k) n k n = M
    rw [fwK_id h k (by omega)]
    exact hI n (Nat.le_refl _)

/-! ### Tables -/
theorem tr_of {t : List (List Int)} {i j : Nat} (h : trE t i j = 0) : 0 ≤ tb t i j ∧ tb t i j ≤ 30 ∧ (i = j → tb t i j = 0) ∧ tb t j i = tb t i j := by
  unfold trE at h
  unfold tb
  split at h
  · cases h
  split at h
  · cases h
  split at h
  · cases h
  omega
theorem ct_good {t : List (List Int)} (h : ctS t = 0) : GoodM t.length (tb t) ∧ ∀ i j, i < t.length → j < t.length → tb t i j = tb t j i := by
  obtain ⟨_, _, _, ht⟩ := ct_of h
  refine ⟨⟨fun i j hi hj => ?_, fun i hi => ?_⟩, fun i j hi hj => ?_⟩
  · have := tr_of (ht i j hi hj); omega
  · have := tr_of (ht i i hi hi); omega
  · have := tr_of (ht i j hi hj); omega
theorem ferr_zero {f : Nat → Int} : ∀ {n : Nat}, (∀ i, i < n → f i = 0) → ferr f n = 0
  | 0, _ => rfl
  | n + 1, h => ferr_ok (ferr_zero fun i hi => h i (by omega)) (h n (by omega))
theorem ct_mat {n : Nat} {M : Mx} (h0 : 0 < n) (h20 : n ≤ 20) (g : GoodM n M) (hs : ∀ i j, i < n → j < n → M i j = M j i) : ctS (matM n M) = 0 := by
  have hl := matM_len n M
  apply ct_e
  · omega
  · omega
  · apply ferr_zero
    intro i hi
    rw [hl] at hi
    rw [lnE, if_neg]
    rw [matM_gt n M i hi, rowM_len, hl]
    exact fun hh => hh rfl
  · rw [hl]
    apply ferr_zero
    intro i hi
    unfold rowE
    rw [hl]
    apply ferr_zero
    intro j hj
    have h1 := matM_tb n M i j hi hj
    have h2 := matM_tb n M j i hj hi
    unfold tb at h1 h2
    have r := g.rng i j hi hj
    have s := hs i j hi hj
    unfold trE
    rw [h1, h2, if_neg (by omega), if_neg, if_neg (by omega)]
    rintro ⟨hij, hz⟩
    subst hij
    exact hz (g.dg i hi)
theorem shT_len (t : List (List Int)) : (shT t).length = t.length := matM_len _ _
theorem shT_row {t : List (List Int)} {i : Nat} (h : i < t.length) : gt (shT t) i = rowM t.length (fwK (tb t) t.length t.length) i := matM_gt _ _ _ h
theorem shT_rlen {t : List (List Int)} {i : Nat} (h : i < t.length) : (gt (shT t) i).length = t.length := by rw [shT_row h, rowM_len]
theorem shT_tb {t : List (List Int)} {i j : Nat} (hi : i < t.length) (hj : j < t.length) : gt (gt (shT t) i) j = fwK (tb t) t.length t.length i j := matM_tb _ _ _ _ hi hj
theorem shT_ct {t : List (List Int)} (h : ctS t = 0) : ctS (shT t) = 0 := by
  obtain ⟨h0, h20, _, _⟩ := ct_of h
  obtain ⟨g, hs⟩ := ct_good h
  exact ct_mat h0 h20 (fwK_good g (Nat.le_refl _)) (fwK_sym g hs (Nat.le_refl _))
theorem shT_le {t : List (List Int)} (h : ctS t = 0) {i j : Nat} (hi : i < t.length) (hj : j < t.length) : gt (gt (shT t) i) j ≤ gt (gt t i) j := by
  rw [shT_tb hi hj]
  exact fwK_le (ct_good h).1 (Nat.le_refl _) i j hi hj
theorem shT_tri {t : List (List Int)} (h : ctS t = 0) {i j k : Nat} (hi : i < t.length) (hj : j < t.length) (hk : k < t.length) : gt (gt (shT t) i) j ≤ gt (gt (shT t) i) k + gt (gt (shT t) k) j := by
  rw [shT_tb hi hj, shT_tb hi hk, shT_tb hk hj]
  exact fwK_tri (ct_good h).1 (Nat.le_refl _) i j k hi hj hk
theorem shT_rng {t : List (List Int)} (h : ctS t = 0) {i j : Nat} (hi : i < t.length) (hj : j < t.length) : 0 ≤ gt (gt (shT t) i) j ∧ gt (gt (shT t) i) j ≤ 30 := by
  rw [shT_tb hi hj]
  exact (fwK_good (ct_good h).1 (Nat.le_refl _)).rng i j hi hj
theorem shT_shT {t : List (List Int)} (h : ctS t = 0) : shT (shT t) = shT t := by
  have hl := shT_len t
  have hid := fwK_id (n := t.length) (M := tb (shT t)) (fun i j k hi hj hk => shT_tri h hi hj hk) t.length (Nat.le_refl _)
  show matM (shT t).length (fwK (tb (shT t)) (shT t).length (shT t).length) = shT t
  rw [hl, hid]
  have := matM_of (t := shT t) (fun i hi => by rw [hl] at hi ⊢; exact shT_rlen hi)
  rwa [hl] at this
/-- A way that was accepted still is. -/
theorem vF_sh {t s : List (List Int)} {l : List Vi} {rest : Int} {n : Nat} (hle : ∀ i j, i < n → j < n → gt (gt s i) j ≤ gt (gt t i) j) (hall : ∀ i, i < l.length → 0 ≤ (gt l i).g ∧ (gt l i).g < n) : ∀ (k i : Nat), 1 ≤ i → i + k ≤ l.length → vF t l rest k i = -1 → vF s l rest k i = -1
  | 0, _, _, _, _ => rfl
  | k + 1, i, h1, hi, h => by
    unfold vF at h ⊢
    have a1 := hall i (by omega)
    have a2 := hall (i - 1) (by omega)
    have hh := hle (gt l (i - 1)).g.toNat (gt l i).g.toNat (by omega) (by omega)
    split at h
    · omega
    · rename_i hn
      rw [if_neg (by omega)]
      exact vF_sh hle hall k (i + 1) (by omega) (by omega) h
theorem route_sh {t : List (List Int)} {l : List Vi} {rest : Int} (h : ctS t = 0) : (routeS (shT t) l rest).2 = (routeS t l rest).2 ∧ ((routeS t l rest).1 = -1 → (routeS (shT t) l rest).1 = -1) := by
  unfold routeS
  rw [if_neg (show ¬ ¬ ctS t = 0 from fun hh => hh h), if_neg (show ¬ ¬ ctS (shT t) = 0 from fun hh => hh (shT_ct h)), shT_len]
  by_cases h1 : 400 < l.length
  · rw [if_pos h1, if_pos h1]; exact ⟨rfl, id⟩
  rw [if_neg h1, if_neg h1]
  by_cases h2 : rest < 0 ∨ 400 < rest
  · rw [if_pos h2, if_pos h2]; exact ⟨rfl, id⟩
  rw [if_neg h2, if_neg h2]
  by_cases h3 : ¬ ferr (fun i => viE t.length (gt l i)) l.length = 0
  · rw [if_pos h3, if_pos h3]; exact ⟨rfl, id⟩
  rw [if_neg h3, if_neg h3]
  refine ⟨rfl, fun hh => ?_⟩
  have hz := Decidable.not_not.mp h3
  by_cases hl : l.length = 0
  · show vF _ l rest (l.length - 1) 1 = -1
    rw [hl]; rfl
  · refine vF_sh (n := t.length) (fun i j hi hj => shT_le h hi hj) (fun i hi => ?_) (l.length - 1) 1 (Nat.le_refl _) (by omega) hh
    have := ferr_all hz i hi
    simp only [viE] at this
    split at this
    · cases this
    split at this
    · cases this
    omega
end Go.Proofs.YtocmcdejkoejhaaDoor
