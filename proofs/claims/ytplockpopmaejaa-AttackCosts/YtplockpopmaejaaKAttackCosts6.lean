/-
  Texts of AttackCosts, part 7 of 17. Weights moved: the program's two rows of weights and the reference's list of outcomes tell the same. Plain proofs.
-/
import Derived.Test.YtplockpopmaejaaKAttackCosts5
import Derived.Test.YtplockpopmaejaaKAttackCosts3
import Derived.Test.YtplockpopmaejaaProg
import Derived.KernelRfl
import Derived.Shelf.SlSortCmp.InsertionK
import Derived.Shelf.SlSortCmp.WholeK
import Derived.Laws.Externs
section
set_option linter.unusedVariables false
set_option linter.unusedSimpArgs false
namespace Go.Proofs.Ytplockpopmaejaa
open Go Go.Am
theorem gt_eq {α : Type} [Inhabited α] (l : List α) (i : Nat) (h : i < l.length) : gt l i = l[i] := by simp [gt, h]
theorem gt_out {α : Type} [Inhabited α] (l : List α) (i : Nat) (h : l.length ≤ i) : gt l i = default := by simp [gt, List.getElem?_eq_none h]
theorem gt_set {α : Type} [Inhabited α] (l : List α) (i j : Nat) (x : α) (h : i < l.length) : gt (l.set i x) j = if i = j then x else gt l j := by
  simp only [gt, List.getD_eq_getElem?_getD, List.getElem?_set]
  by_cases hij : i = j
  · subst hij; simp [h]
  · simp [hij]
theorem gt_snoc {α : Type} [Inhabited α] (l : List α) (x : α) (j : Nat) : gt (l ++ [x]) j = if j < l.length then gt l j else if j = l.length then x else default := by
  simp only [gt, List.getD_eq_getElem?_getD]
  by_cases h : j < l.length
  · rw [List.getElem?_append_left h, if_pos h]
  · rw [List.getElem?_append_right (by omega), if_neg h]
    by_cases h2 : j = l.length
    · subst h2; simp
    · rw [if_neg h2, List.getElem?_eq_none (by simp; omega)]; rfl
theorem ext_gt {α : Type} [Inhabited α] {l m : List α} (h : l.length = m.length) (hh : ∀ k, k < l.length → gt l k = gt m k) : l = m := by
  apply List.ext_getElem h
  intro i h1 h2
  rw [← gt_eq l i h1, ← gt_eq m i h2]
  exact hh i h1
theorem wC_set_ne (w : List Int) (r o : Nat) (x : Int) (h : r ≠ o) (ho : o < w.length) : ((w.set r x).map AV.i)[o]? = some (AV.i (gt w o)) := by
  rw [List.getElem?_map, List.getElem?_set_ne h, List.getElem?_eq_getElem ho, gt_eq _ _ ho]
  rfl
/-! ### Sums of rows -/
def sumL : List Int → Int
  | [] => 0
  | x :: l => x + sumL l
theorem sumL_set : ∀ (l : List Int) (i : Nat) (x : Int), i < l.length → sumL (l.set i x) = sumL l - gt l i + x
  | [], i, x, h => by simp at h
  | a :: l, 0, x, _ => by simp [sumL, gt]; omega
  | a :: l, i + 1, x, h => by
    have ih := sumL_set l i x (by simpa using h)
    have e : gt (a :: l) (i + 1) = gt l i := by simp [gt]
    rw [e]
    simp only [List.set_cons_succ, sumL, ih]
    omega
theorem sumL_nn : ∀ (l : List Int), (∀ i, i < l.length → 0 ≤ gt l i) → 0 ≤ sumL l
  | [], _ => Int.le_refl _
  | a :: l, h => by
    have h0 := h 0 (by simp)
    have ih := sumL_nn l fun i hi => by simpa [gt] using h (i + 1) (by simpa using hi)
    have e : gt (a :: l) 0 = a := by simp [gt]
    simp only [sumL]
    omega
theorem le_sumL : ∀ (l : List Int) (i : Nat), (∀ i, i < l.length → 0 ≤ gt l i) → i < l.length → gt l i ≤ sumL l
  | [], i, _, hi => by simp at hi
  | a :: l, 0, h, _ => by
    have ih := sumL_nn l fun i hi => by simpa [gt] using h (i + 1) (by simpa using hi)
    have e : gt (a :: l) 0 = a := by simp [gt]
    simp only [sumL, e]
    omega
  | a :: l, i + 1, h, hi => by
    have h0 := h 0 (by simp)
    have ih := le_sumL l i (fun i hi => by simpa [gt] using h (i + 1) (by simpa using hi)) (by simpa using hi)
    have e : gt (a :: l) 0 = a := by simp [gt]
    have e1 : gt (a :: l) (i + 1) = gt l i := by simp [gt]
    simp only [sumL, e1]
    omega
theorem sumL_app (l m : List Int) : sumL (l ++ m) = sumL l + sumL m := by
  induction l with
  | nil => simp [sumL]
  | cons a l ih => simp only [List.cons_append, sumL, ih]; omega
theorem sumL_one (n a : Nat) (f : Nat → Int) (w : Int) : sumL ((List.range n).map fun j => f j + if a = j then w else 0) = sumL ((List.range n).map f) + if a < n then w else 0 := by
  induction n with
  | zero => simp [sumL]
  | succ n ih =>
    rw [List.range_succ, List.map_append, List.map_append, sumL_app, sumL_app, ih]
    simp only [List.map_cons, List.map_nil, sumL]
    by_cases h : a = n
    · subst h; rw [if_pos rfl, if_neg (by omega), if_pos (by omega)]; omega
    · rw [if_neg h]
      by_cases h2 : a < n
      · rw [if_pos h2, if_pos (by omega)]; omega
      · rw [if_neg h2, if_neg (by omega)]; omega
/-! ### The row of weights of a list -/
def ix (o : Oc) : Nat := o.r.toNat + if o.k then 8 else 0
def cnt (d : List Oc) (j : Nat) : Nat → Int
  | 0 => 0
  | u + 1 => cnt d j u + if ix (gt d u) = j then (gt d u).w else 0
def wv (d : List Oc) : List Int := (List.range 16).map fun j => cnt d j d.length
theorem wv_len (d : List Oc) : (wv d).length = 16 := by simp [wv]
theorem wv_gt (d : List Oc) {j : Nat} (h : j < 16) : gt (wv d) j = cnt d j d.length := by
  rw [gt_eq _ _ (by rw [wv_len]; exact h)]
  simp [wv]
structure GL (d : List Oc) : Prop where
  rg : ∀ i, i < d.length → 0 ≤ (gt d i).r ∧ (gt d i).r ≤ 7 ∧ 0 ≤ (gt d i).w
  inj : ∀ i j, i < d.length → j < d.length → ix (gt d i) = ix (gt d j) → i = j
  sum : sW d d.length = 16
theorem ix_lt {o : Oc} (h0 : 0 ≤ o.r) (h : o.r ≤ 7) : ix o < 16 := by unfold ix; split <;> omega
theorem ix_inj {a b : Oc} (ha : 0 ≤ a.r ∧ a.r ≤ 7) (hb : 0 ≤ b.r ∧ b.r ≤ 7) (h : ix a = ix b) : a.r = b.r ∧ a.k = b.k := by
  unfold ix at h
  cases hx : a.k <;> cases hy : b.k <;> simp [hx, hy] at h ⊢ <;> omega
theorem sum_wvU {d : List Oc} (h : ∀ i, i < d.length → 0 ≤ (gt d i).r ∧ (gt d i).r ≤ 7) : ∀ u, u ≤ d.length → sumL ((List.range 16).map fun j => cnt d j u) = sW d u
  | 0, _ => by
    have : ∀ n : Nat, sumL ((List.range n).map fun _ => (0 : Int)) = 0 := by
      intro n
      induction n with
      | zero => rfl
      | succ n ih => rw [List.range_succ, List.map_append, sumL_app, ih]; rfl
    exact this 16
  | u + 1, hu => by
    have ih := sum_wvU h u (by omega)
    have := h u (by omega)
    have h1 := sumL_one 16 (ix (gt d u)) (fun j => cnt d j u) (gt d u).w
    rw [if_pos (ix_lt this.1 this.2)] at h1
    rw [sW, ← ih]
    exact h1
theorem cnt_nn {d : List Oc} (h : ∀ i, i < d.length → 0 ≤ (gt d i).w) (j : Nat) : ∀ u, u ≤ d.length → 0 ≤ cnt d j u
  | 0, _ => Int.le_refl _
  | u + 1, hu => by
    have ih := cnt_nn h j u (by omega)
    have := h u (by omega)
    rw [cnt]
    split <;> omega
theorem cnt_none {d : List Oc} {j : Nat} : ∀ {u : Nat}, (∀ i, i < u → ix (gt d i) ≠ j) → cnt d j u = 0
  | 0, _ => rfl
  | u + 1, h => by rw [cnt, cnt_none fun i hi => h i (by omega), if_neg (h u (by omega))]; rfl
theorem cnt_at {d : List Oc} (g : ∀ i j, i < d.length → j < d.length → ix (gt d i) = ix (gt d j) → i = j) {i : Nat} (hi : i < d.length) : ∀ u, u ≤ d.length → cnt d (ix (gt d i)) u = if i < u then (gt d i).w else 0
  | 0, _ => by simp [cnt]
  | u + 1, hu => by
    rw [cnt, cnt_at g hi u (by omega)]
    by_cases h : u = i
    · subst h; rw [if_neg (by omega), if_pos rfl, if_pos (by omega)]; omega
    · rw [if_neg fun hh => h (g u i (by omega) hi hh)]
      by_cases h2 : i < u
      · rw [if_pos h2, if_pos (by omega)]; omega
      · rw [if_neg h2, if_neg (by omega)]; omega
theorem GL.at {d : List Oc} (g : GL d) {i : Nat} (hi : i < d.length) : gt (wv d) (ix (gt d i)) = (gt d i).w := by
  have := g.rg i hi
  rw [wv_gt _ (ix_lt this.1 this.2.1), cnt_at g.inj hi _ (Nat.le_refl _), if_pos hi]
/-- A row of 16 weights, none of them below 0, of sum 16. -/
structure Gd (w : List Int) : Prop where
  len : w.length = 16
  nn : ∀ i, i < 16 → 0 ≤ gt w i
  sum : sumL w = 16
theorem Gd.le {w : List Int} (g : Gd w) {i : Nat} (h : i < 16) : 0 ≤ gt w i ∧ gt w i ≤ 16 := by
  refine ⟨g.nn i h, ?_⟩
  have := le_sumL w i (fun k hk => g.nn k (by rw [← g.len]; exact hk)) (by rw [g.len]; exact h)
  rw [g.sum] at this
  exact this
theorem GL.gd {d : List Oc} (g : GL d) : Gd (wv d) where
  len := wv_len d
  nn i h := by rw [wv_gt _ h]; exact cnt_nn (fun i hi => (g.rg i hi).2.2) _ _ (Nat.le_refl _)
  sum := by
    have := sum_wvU (fun i hi => ⟨(g.rg i hi).1, (g.rg i hi).2.1⟩) d.length (Nat.le_refl _)
    rw [g.sum] at this
    exact this
theorem GL.le {d : List Oc} (g : GL d) {i : Nat} (hi : i < d.length) : (gt d i).w ≤ 16 := by
  have := g.rg i hi
  have h := (g.gd.le (ix_lt this.1 this.2.1)).2
  rw [g.at hi] at h
  exact h
theorem sW_nn {d : List Oc} (g : GL d) : ∀ u, u ≤ d.length → 0 ≤ sW d u ∧ sW d u ≤ 16 * u
  | 0, _ => ⟨Int.le_refl _, by simp [sW]⟩
  | u + 1, hu => by
    have ih := sW_nn g u (by omega)
    have := g.rg u (by omega)
    have := g.le (i := u) (by omega)
    rw [sW]; omega
theorem chk_lt {d : List Oc} (h : chkD d = 0) : ∀ j, j < d.length → ∀ i, i < j → ltO (gt d i) (gt d j)
  | 0, _, i, hi => by omega
  | j + 1, hj, i, hi => by
    have h1 := (stE_ok (ferr_all (chkD_of h).2.2.1 (j + 1) hj)).2 (by omega)
    rw [show j + 1 - 1 = j by omega] at h1
    by_cases hij : i = j
    · subst hij; exact h1
    · have h2 := chk_lt h j (by omega) i (by omega)
      unfold ltO at *
      rcases h1 with h1 | ⟨h1, h3, h4⟩ <;> rcases h2 with h2 | ⟨h2, h5, h6⟩
      · left; omega
      · left; omega
      · left; omega
      · simp_all
theorem gl_chk {d : List Oc} (h : chkD d = 0) : GL d := by
  obtain ⟨h0, h16, hf, hs⟩ := chkD_of h
  have rg : ∀ i, i < d.length → 0 ≤ (gt d i).r ∧ (gt d i).r ≤ 7 ∧ 0 ≤ (gt d i).w := fun i hi => by
    have := (stE_ok (ferr_all hf i hi)).1
    omega
  refine ⟨rg, ?_, hs⟩
  have key : ∀ i j, i < j → j < d.length → ix (gt d i) ≠ ix (gt d j) := fun i j hij hj he => by
    have h1 := chk_lt h j hj i hij
    have h2 := ix_inj ⟨(rg i (by omega)).1, (rg i (by omega)).2.1⟩ ⟨(rg j hj).1, (rg j hj).2.1⟩ he
    unfold ltO at h1
    rcases h1 with h1 | ⟨_, h3, h4⟩
    · omega
    · rw [h2.2] at h3; rw [h3] at h4; cases h4
  intro i j hi hj he
  rcases Nat.lt_trichotomy i j with h1 | h1 | h1
  · exact absurd he (key i j h1 hj)
  · exact h1
  · exact absurd he.symm (key j i h1 hi)
/-- The program's row, laid outcome by outcome. -/
def inW (d : List Oc) : Nat → List Int
  | 0 => List.replicate 16 0
  | u + 1 => (inW d u).set (ix (gt d u)) (gt d u).w
theorem inW_len (d : List Oc) : ∀ u, (inW d u).length = 16
  | 0 => by simp [inW]
  | u + 1 => by rw [inW, List.length_set, inW_len d u]
theorem inW_eq {d : List Oc} (g : GL d) : ∀ u, u ≤ d.length → ∀ j, j < 16 → gt (inW d u) j = cnt d j u
  | 0, _, j, hj => by
    rw [inW, gt_eq _ _ (by simpa using hj), List.getElem_replicate]; rfl
  | u + 1, hu, j, hj => by
    have ih := inW_eq g u (by omega) j hj
    have := g.rg u (by omega)
    rw [inW, gt_set _ _ _ _ (by rw [inW_len]; exact ix_lt this.1 this.2.1), ih, cnt]
    by_cases h : ix (gt d u) = j
    · subst h
      rw [if_pos rfl, if_pos rfl, cnt_at g.inj (by omega) u (by omega), if_neg (by omega)]
      omega
    · rw [if_neg h, if_neg h]; omega
theorem inW_wv {d : List Oc} (g : GL d) : inW d d.length = wv d :=
  ext_gt (by rw [inW_len, wv_len]) fun k hk => by
    rw [inW_len] at hk
    rw [inW_eq g _ (Nat.le_refl _) k hk, wv_gt _ hk]
/-! ### The program's moves -/
def topR (w : List Int) : Nat → Nat
  | 0 => 0
  | r + 1 => if gt w (r + 1) ≠ 0 then r + 1 else topR w r
theorem topR_le (w : List Int) : ∀ n, topR w n ≤ n
  | 0 => Nat.le_refl _
  | r + 1 => by have := topR_le w r; rw [topR]; split <;> omega
theorem topR_ne {w : List Int} : ∀ {n : Nat}, topR w n ≠ 0 → gt w (topR w n) ≠ 0
  | 0, h => absurd rfl h
  | r + 1, h => by
    rw [topR] at h ⊢
    by_cases h1 : gt w (r + 1) ≠ 0
    · rw [if_pos h1]; exact h1
    · rw [if_neg h1] at h ⊢; exact topR_ne h
theorem topR_zero {w : List Int} : ∀ {n : Nat}, (∀ i, 1 ≤ i → i ≤ n → gt w i = 0) → topR w n = 0
  | 0, _ => rfl
  | r + 1, h => by
    rw [topR, if_neg (fun hh => hh (h (r + 1) (by omega) (by omega)))]
    exact topR_zero fun i h1 h2 => h i h1 (by omega)
theorem topR_is {w : List Int} {t : Nat} (ht : 1 ≤ t) (hw : gt w t ≠ 0) : ∀ {n : Nat}, t ≤ n → (∀ i, t < i → i ≤ n → gt w i = 0) → topR w n = t
  | 0, h, _ => by omega
  | r + 1, h, hz => by
    rw [topR]
    by_cases h1 : t = r + 1
    · subst h1; rw [if_pos hw]
    · rw [if_neg (fun hh => hh (hz (r + 1) (by omega) (by omega)))]
      exact topR_is ht hw (by omega) fun i h2 h3 => hz i h2 (by omega)
theorem topR_at {w : List Int} {r : Nat} (h : 1 ≤ r) (hw : ¬ gt w r = 0) : topR w r = r := by
  obtain ⟨n, rfl⟩ : ∃ n, r = n + 1 := ⟨r - 1, by omega⟩
  rw [topR, if_pos hw]
theorem topR_down {w : List Int} {r : Int} (h : 1 ≤ r) (hw : gt w r.toNat = 0) : topR w (r - 1).toNat = topR w r.toNat := by
  obtain ⟨n, hn⟩ : ∃ n, r.toNat = n + 1 := ⟨r.toNat - 1, by omega⟩
  rw [hn] at hw
  rw [hn, topR, if_neg (fun hh => hh hw), show (r - 1).toNat = n by omega]
def mvW (w : List Int) (a b : Nat) : List Int := (w.set a (gt w a - 1)).set b (gt (w.set a (gt w a - 1)) b + 1)
def hardW (w : List Int) (k : Int) : List Int := if topR w 7 = 0 then w else mvW w (topR w 7) (if k.tmod 2 = 0 then 0 else 8)
def easyW (w : List Int) : List Int := if 0 < gt w 8 then mvW w 8 1 else if 0 < gt w 0 then mvW w 0 1 else w
theorem hard_is {w : List Int} {k : Int} {t o : Nat} (ht : topR w 7 = t) (h1 : 1 ≤ t) (h7 : t ≤ 7) (ho : (if k.tmod 2 = 0 then 0 else 8) = o) (hl : w.length = 16) : (w.set t (gt w t - 1)).set o (gt w o + 1) = hardW w k := by
  have h0 : o = 0 ∨ o = 8 := by split at ho <;> omega
  rw [hardW, ht, if_neg (by omega), ho, mvW, gt_set _ t o _ (by omega), if_neg (by omega)]
theorem mvW_gd {w : List Int} (g : Gd w) {a b : Nat} (ha : a < 16) (hb : b < 16) (hab : a ≠ b) (h : gt w a ≠ 0) : Gd (mvW w a b) := by
  have h1 := g.nn a ha
  have l1 : (w.set a (gt w a - 1)).length = 16 := by rw [List.length_set, g.len]
  refine ⟨by rw [mvW, List.length_set, l1], fun i hi => ?_, ?_⟩
  · have h2 := g.nn i hi
    have h3 := g.nn b hb
    rw [mvW, gt_set _ _ _ _ (by rw [l1]; exact hb), gt_set _ _ _ _ (by rw [g.len]; exact ha), gt_set _ _ _ _ (by rw [g.len]; exact ha), if_neg hab]
    by_cases e1 : b = i
    · rw [if_pos e1]; omega
    · rw [if_neg e1]
      by_cases e2 : a = i
      · rw [if_pos e2]; omega
      · rw [if_neg e2]; exact h2
  · rw [mvW, sumL_set _ _ _ (by rw [l1]; exact hb), sumL_set _ _ _ (by rw [g.len]; exact ha), g.sum]
    omega
theorem hard_gd {w : List Int} (g : Gd w) (k : Int) : Gd (hardW w k) := by
  unfold hardW
  by_cases h : topR w 7 = 0
  · rw [if_pos h]; exact g
  · rw [if_neg h]
    have := topR_le w 7
    exact mvW_gd g (by omega) (by split <;> omega) (by split <;> omega) (topR_ne h)
theorem easy_gd {w : List Int} (g : Gd w) : Gd (easyW w) := by
  unfold easyW
  by_cases h : 0 < gt w 8
  · rw [if_pos h]; exact mvW_gd g (by omega) (by omega) (by omega) (by omega)
  · rw [if_neg h]
    by_cases h2 : 0 < gt w 0
    · rw [if_pos h2]; exact mvW_gd g (by omega) (by omega) (by omega) (by omega)
    · rw [if_neg h2]; exact g
def hst (w : List Int) : Nat → List Int
  | 0 => w
  | k + 1 => hardW (hst w k) k
def est (w : List Int) : Nat → List Int
  | 0 => w
  | k + 1 => easyW (est w k)
theorem hst_gd {w : List Int} (g : Gd w) : ∀ k, Gd (hst w k)
  | 0 => g
  | k + 1 => hard_gd (hst_gd g k) k
theorem est_gd {w : List Int} (g : Gd w) : ∀ k, Gd (est w k)
  | 0 => g
  | k + 1 => easy_gd (est_gd g k)
theorem hst_stop {w : List Int} {i : Nat} (h : topR (hst w i) 7 = 0) : ∀ n, i ≤ n → hst w n = hst w i
  | 0, hn => by rw [show i = 0 by omega]
  | n + 1, hn => by
    by_cases e : i = n + 1
    · rw [e]
    · have ih := hst_stop h n (by omega)
      rw [hst, ih, hardW, if_pos h]
theorem est_stop {w : List Int} {i : Nat} (h : ¬ 0 < gt (est w i) 8) (h2 : ¬ 0 < gt (est w i) 0) : ∀ n, i ≤ n → est w n = est w i
  | 0, hn => by rw [show i = 0 by omega]
  | n + 1, hn => by
    by_cases e : i = n + 1
    · rw [e]
    · have ih := est_stop h h2 n (by omega)
      rw [est, ih, easyW, if_neg h, if_neg h2]
theorem hst_e1 {w : List Int} {i n : Nat} (h : topR (hst w i) 7 = 0) (hn : i + 1 ≤ n) : hst w (i + 1) = hst w n := by
  rw [hst_stop h (i + 1) (by omega), hst_stop h n (by omega)]
theorem est_e1 {w : List Int} {i n : Nat} (h : ¬ (0 < gt (est w i) 8 ∨ 0 < gt (est w i) 0)) (hn : i + 1 ≤ n) : est w (i + 1) = est w n := by
  rw [est_stop (fun hh => h (.inl hh)) (fun hh => h (.inr hh)) (i + 1) (by omega), est_stop (fun hh => h (.inl hh)) (fun hh => h (.inr hh)) n (by omega)]
theorem inW_k1 {d : List Oc} {u : Nat} (h : (gt d u).k = true) : (inW d u).set (8 + (gt d u).r.toNat) (gt d u).w = inW d (u + 1) := by
  rw [inW, ix, h, if_pos rfl, Nat.add_comm]
theorem inW_k0 {d : List Oc} {u : Nat} (h : (gt d u).k = false) : (inW d u).set ((gt d u).r.toNat) (gt d u).w = inW d (u + 1) := by
  rw [inW, ix, h, if_neg (by simp), Nat.add_zero]
def finW (d : List Oc) (n : Int) : List Int := est (hst (wv d) n.toNat) (-n).toNat
/-! ### The reference's moves -/
def keyI (d : List Oc) (r : Int) (k : Bool) : Int := fidx (fun i => decide ((gt d i).r = r) && ((gt d i).k == k)) d.length
def dnO (d : List Oc) (f : Nat) : List Oc := d.set f ⟨(gt d f).r, (gt d f).k, (gt d f).w - 1⟩
def upO (d : List Oc) (r : Int) (k : Bool) : List Oc := if 0 ≤ keyI d r k then d.set (keyI d r k).toNat ⟨(gt d (keyI d r k).toNat).r, (gt d (keyI d r k).toNat).k, (gt d (keyI d r k).toNat).w + 1⟩ else d ++ [⟨r, k, 1⟩]
def mvO (d : List Oc) (f : Nat) (r : Int) (k : Bool) : List Oc := upO (dnO d f) r k
theorem dnO_len (d : List Oc) (f : Nat) : (dnO d f).length = d.length := by rw [dnO, List.length_set]
theorem dnO_box {d : List Oc} (g : GL d) {f : Nat} (hf : f < d.length) (u : Nat) (hu : u < d.length) : -1 ≤ (gt (dnO d f) u).w ∧ (gt (dnO d f) u).w ≤ 16 := by
  have h1 := g.rg u hu
  have h2 := g.le hu
  have h3 := g.rg f hf
  have h4 := g.le hf
  rw [dnO, gt_set _ _ _ _ hf]
  by_cases e : f = u
  · rw [if_pos e]; show -1 ≤ (gt d f).w - 1 ∧ (gt d f).w - 1 ≤ 16; omega
  · rw [if_neg e]; omega
theorem cnt_set {d : List Oc} {f : Nat} (hf : f < d.length) (x : Int) (j : Nat) : ∀ u, u ≤ d.length → cnt (d.set f ⟨(gt d f).r, (gt d f).k, x⟩) j u = cnt d j u + if f < u ∧ ix (gt d f) = j then x - (gt d f).w else 0
  | 0, _ => by simp [cnt]
  | u + 1, hu => by
    have ih := cnt_set hf x j u (by omega)
    rw [cnt, cnt, ih, gt_set _ _ _ _ hf]
    by_cases h : f = u
    · subst h
      have e : ix ⟨(gt d f).r, (gt d f).k, x⟩ = ix (gt d f) := rfl
      have e2 : (⟨(gt d f).r, (gt d f).k, x⟩ : Oc).w = x := rfl
      have e3 : ¬ (f < f ∧ ix (gt d f) = j) := fun hh => by omega
      have e4 : (f < f + 1 ∧ ix (gt d f) = j) ↔ ix (gt d f) = j := ⟨fun hh => hh.2, fun hh => ⟨by omega, hh⟩⟩
      simp only [if_true, e, e2, if_neg e3, e4]
      by_cases h2 : ix (gt d f) = j
      · simp only [if_pos h2]; omega
      · simp only [if_neg h2]
    · have e3 : (f < u + 1 ∧ ix (gt d f) = j) ↔ (f < u ∧ ix (gt d f) = j) := ⟨fun hh => ⟨by omega, hh.2⟩, fun hh => ⟨by omega, hh.2⟩⟩
      simp only [if_neg h, e3]
      omega
theorem wv_set {d : List Oc} {f : Nat} (hf : f < d.length) (hr : 0 ≤ (gt d f).r ∧ (gt d f).r ≤ 7) (x : Int) : wv (d.set f ⟨(gt d f).r, (gt d f).k, x⟩) = (wv d).set (ix (gt d f)) (gt (wv d) (ix (gt d f)) + (x - (gt d f).w)) := by
  refine ext_gt (by rw [List.length_set, wv_len, wv_len]) fun j hj => ?_
  rw [wv_len] at hj
  have hx := ix_lt hr.1 hr.2
  rw [wv_gt _ hj, List.length_set, cnt_set hf x j _ (Nat.le_refl _), gt_set _ _ _ _ (by rw [wv_len]; exact hx), wv_gt _ hj, wv_gt _ hx]
  by_cases h : ix (gt d f) = j
  · rw [if_pos ⟨hf, h⟩, if_pos h, h]
  · rw [if_neg (fun hh => h hh.2), if_neg h]; omega
theorem sW_set {d : List Oc} {f : Nat} (hf : f < d.length) (x : Int) : ∀ u, u ≤ d.length → sW (d.set f ⟨(gt d f).r, (gt d f).k, x⟩) u = sW d u + if f < u then x - (gt d f).w else 0
  | 0, _ => by simp [sW]
  | u + 1, hu => by
    have ih := sW_set hf x u (by omega)
    rw [sW, sW, ih, gt_set _ _ _ _ hf]
    by_cases h : f = u
    · subst h; rw [if_pos rfl, if_neg (by omega), if_pos (by omega)]; simp only []; omega
    · rw [if_neg h]
      by_cases h2 : f < u
      · rw [if_pos h2, if_pos (by omega)]; omega
      · rw [if_neg h2, if_neg (by omega)]; omega
/-- Ranges and keys, whatever the sum. -/
structure GK (d : List Oc) : Prop where
  rg : ∀ i, i < d.length → 0 ≤ (gt d i).r ∧ (gt d i).r ≤ 7 ∧ 0 ≤ (gt d i).w
  inj : ∀ i j, i < d.length → j < d.length → ix (gt d i) = ix (gt d j) → i = j
theorem GL.gk {d : List Oc} (g : GL d) : GK d := ⟨g.rg, g.inj⟩
theorem gk_set {d : List Oc} (g : GK d) {f : Nat} (hf : f < d.length) {x : Int} (hx : 0 ≤ x) : GK (d.set f ⟨(gt d f).r, (gt d f).k, x⟩) := by
  have e : ∀ i, ix (gt (d.set f ⟨(gt d f).r, (gt d f).k, x⟩) i) = ix (gt d i) := fun i => by
    rw [gt_set _ _ _ _ hf]
    by_cases h : f = i
    · subst h; rw [if_pos rfl]; rfl
    · rw [if_neg h]
  refine ⟨fun i hi => ?_, fun i j hi hj h => ?_⟩
  · rw [List.length_set] at hi
    rw [gt_set _ _ _ _ hf]
    have h1 := g.rg i hi
    have h2 := g.rg f hf
    by_cases h : f = i
    · rw [if_pos h]; exact ⟨h2.1, h2.2.1, hx⟩
    · rw [if_neg h]; exact h1
  · rw [List.length_set] at hi hj
    rw [e, e] at h
    exact g.inj i j hi hj h
theorem cnt_app {d : List Oc} (x : Oc) (j : Nat) : ∀ u, u ≤ d.length → cnt (d ++ [x]) j u = cnt d j u
  | 0, _ => rfl
  | u + 1, hu => by
    have hg : gt (d ++ [x]) u = gt d u := by rw [gt_snoc, if_pos (by omega)]
    rw [cnt, cnt, cnt_app x j u (by omega), hg]
theorem sW_app {d : List Oc} (x : Oc) : ∀ u, u ≤ d.length → sW (d ++ [x]) u = sW d u
  | 0, _ => rfl
  | u + 1, hu => by
    have hg : gt (d ++ [x]) u = gt d u := by rw [gt_snoc, if_pos (by omega)]
    rw [sW, sW, sW_app x u (by omega), hg]
theorem key_some {d : List Oc} {r : Int} {k : Bool} : (keyI d r k = -1 ∧ ∀ i, i < d.length → ¬ ((gt d i).r = r ∧ (gt d i).k = k)) ∨ ∃ v, v < d.length ∧ keyI d r k = v ∧ (gt d v).r = r ∧ (gt d v).k = k := by
  rcases fidx_some (p := fun i => decide ((gt d i).r = r) && ((gt d i).k == k)) (n := d.length) with ⟨h1, h2⟩ | ⟨v, h1, h2, h3, _⟩
  · refine .inl ⟨h1, fun i hi hh => ?_⟩
    have := h2 i hi
    simp [hh.1, hh.2] at this
  · refine .inr ⟨v, h1, h2, ?_⟩
    simpa using h3
theorem up_ok {d : List Oc} (g : GK d) {r : Int} {k : Bool} (hr : 0 ≤ r ∧ r ≤ 7) : GK (upO d r k) ∧ wv (upO d r k) = (wv d).set (ix ⟨r, k, 0⟩) (gt (wv d) (ix ⟨r, k, 0⟩) + 1) ∧ sW (upO d r k) (upO d r k).length = sW d d.length + 1 ∧ (upO d r k).length ≤ d.length + 1 := by
  have hx : ix ⟨r, k, 0⟩ < 16 := ix_lt (o := ⟨r, k, 0⟩) hr.1 hr.2
  unfold upO
  rcases key_some (d := d) (r := r) (k := k) with ⟨h1, h2⟩ | ⟨v, h1, h2, h3, h4⟩
  · rw [if_neg (by rw [h1]; omega)]
    have hno : ∀ i, i < d.length → ix (gt d i) ≠ ix ⟨r, k, 0⟩ := fun i hi he => by
      have := g.rg i hi
      have h5 := ix_inj (b := ⟨r, k, 0⟩) ⟨this.1, this.2.1⟩ hr he
      exact h2 i hi h5
    have e1 : ix ⟨r, k, 1⟩ = ix ⟨r, k, 0⟩ := rfl
    refine ⟨⟨fun i hi => ?_, fun i j hi hj he => ?_⟩, ?_, ?_, by simp⟩
    · rw [gt_snoc]
      by_cases h : i < d.length
      · rw [if_pos h]; exact g.rg i h
      · rw [if_neg h, if_pos (by simp at hi; omega)]; exact ⟨hr.1, hr.2, by show (0 : Int) ≤ 1; omega⟩
    · simp at hi hj
      rw [gt_snoc, gt_snoc] at he
      by_cases h : i < d.length
      · rw [if_pos h] at he
        by_cases h' : j < d.length
        · rw [if_pos h'] at he; exact g.inj i j h h' he
        · rw [if_neg h', if_pos (by omega)] at he; exact absurd he (hno i h)
      · rw [if_neg h, if_pos (by omega)] at he
        by_cases h' : j < d.length
        · rw [if_pos h'] at he; exact absurd he.symm (hno j h')
        · omega
    · refine ext_gt (by rw [List.length_set, wv_len, wv_len]) fun j hj => ?_
      rw [wv_len] at hj
      have hg : gt (d ++ [(⟨r, k, 1⟩ : Oc)]) d.length = ⟨r, k, 1⟩ := by rw [gt_snoc, if_neg (by omega), if_pos rfl]
      rw [wv_gt _ hj, gt_set _ _ _ _ (by rw [wv_len]; exact hx), wv_gt _ hj, wv_gt _ hx, List.length_append, List.length_singleton, cnt, cnt_app _ _ _ (Nat.le_refl _), hg, e1]
      by_cases h : ix ⟨r, k, 0⟩ = j
      · rw [if_pos h, if_pos h, h]
      · rw [if_neg h, if_neg h]; omega
    · have hg : gt (d ++ [(⟨r, k, 1⟩ : Oc)]) d.length = ⟨r, k, 1⟩ := by rw [gt_snoc, if_neg (by omega), if_pos rfl]
      rw [List.length_append, List.length_singleton, sW, sW_app _ _ (Nat.le_refl _), hg]
  · rw [if_pos (by rw [h2]; omega), h2, Int.toNat_natCast]
    have hv := g.rg v h1
    have e1 : ix (gt d v) = ix ⟨r, k, 0⟩ := by rw [← h3, ← h4]; rfl
    refine ⟨gk_set g h1 (by omega), ?_, ?_, by simp⟩
    · rw [wv_set h1 ⟨hv.1, hv.2.1⟩, e1]
      congr 1
      omega
    · rw [List.length_set, sW_set h1 _ _ (Nat.le_refl _), if_pos h1]
      omega
theorem mv_ok {d : List Oc} (g : GL d) {f : Nat} (hf : f < d.length) (hw : 0 < (gt d f).w) {r : Int} {k : Bool} (hr : 0 ≤ r ∧ r ≤ 7) : GL (mvO d f r k) ∧ wv (mvO d f r k) = mvW (wv d) (ix (gt d f)) (ix ⟨r, k, 0⟩) ∧ (mvO d f r k).length ≤ d.length + 1 := by
  have hfr := g.rg f hf
  have g1 : GK (dnO d f) := gk_set g.gk hf (by omega)
  have w1 : wv (dnO d f) = (wv d).set (ix (gt d f)) (gt (wv d) (ix (gt d f)) - 1) := by
    rw [dnO, wv_set hf ⟨hfr.1, hfr.2.1⟩]; congr 1; omega
  have s1 : sW (dnO d f) (dnO d f).length = 15 := by
    rw [dnO, List.length_set, sW_set hf _ _ (Nat.le_refl _), if_pos hf, g.sum]; omega
  have l1 : (dnO d f).length = d.length := by rw [dnO, List.length_set]
  obtain ⟨g2, w2, s2, l2⟩ := up_ok (k := k) g1 hr
  refine ⟨⟨g2.rg, g2.inj, by rw [mvO, s2, s1]; omega⟩, ?_, by rw [mvO, ← l1]; exact l2⟩
  rw [mvO, w2, w1]; rfl
def candO (o : Oc) : Bool := !o.k && decide (0 < o.r) && decide (0 < o.w)
def mostU (d : List Oc) : Nat → Int
  | 0 => -1
  | u + 1 => if candO (gt d u) = true ∧ (mostU d u < 0 ∨ (gt d (mostU d u).toNat).r < (gt d u).r) then u else mostU d u
theorem most_T {d : List Oc} {u : Nat} {n : Int} (hn : n = mostU d u) (h1 : (gt d u).k = false) (h2 : 0 < (gt d u).r) (h3 : 0 < (gt d u).w) (h4 : n < 0 ∨ (gt d n.toNat).r < (gt d u).r) : (u : Int) = mostU d (u + 1) := by
  subst hn
  rw [mostU, if_pos ⟨by unfold candO; simp [h1, h2, h3], h4⟩]
theorem most_F {d : List Oc} {u : Nat} {n : Int} (hn : n = mostU d u) (h : ¬ ((gt d u).k = false ∧ 0 < (gt d u).r ∧ 0 < (gt d u).w ∧ (n < 0 ∨ (gt d n.toNat).r < (gt d u).r))) : n = mostU d (u + 1) := by
  subst hn
  rw [mostU, if_neg]
  rintro ⟨h1, h2⟩
  refine h ?_
  unfold candO at h1
  simp only [Bool.and_eq_true, Bool.not_eq_true', decide_eq_true_eq] at h1
  exact ⟨h1.1.1, h1.1.2, h1.2, h2⟩
theorem most_box (d : List Oc) : ∀ u, -1 ≤ mostU d u ∧ mostU d u < u
  | 0 => ⟨Int.le_refl _, by simp [mostU]⟩
  | u + 1 => by
    have := most_box d u
    rw [mostU]
    split <;> omega
theorem most_ok {d : List Oc} : ∀ u, (mostU d u = -1 ∧ ∀ i, i < u → candO (gt d i) = false) ∨ ∃ b : Nat, b < u ∧ mostU d u = b ∧ candO (gt d b) = true ∧ ∀ i, i < u → candO (gt d i) = true → (gt d i).r ≤ (gt d b).r
  | 0 => .inl ⟨rfl, fun i hi => by omega⟩
  | u + 1 => by
    have ih := most_ok (d := d) u
    rw [mostU]
    by_cases h : candO (gt d u) = true ∧ (mostU d u < 0 ∨ (gt d (mostU d u).toNat).r < (gt d u).r)
    · rw [if_pos h]
      refine .inr ⟨u, by omega, rfl, h.1, fun i hi hc => ?_⟩
      by_cases e : i = u
      · rw [e]; exact Int.le_refl _
      · rcases ih with ⟨h1, h2⟩ | ⟨b, h1, h2, h3, h4⟩
        · rw [h2 i (by omega)] at hc; cases hc
        · have h5 := h4 i (by omega) hc
          rcases h.2 with h6 | h6
          · omega
          · rw [h2, Int.toNat_natCast] at h6; omega
    · rw [if_neg h]
      rcases ih with ⟨h1, h2⟩ | ⟨b, h1, h2, h3, h4⟩
      · refine .inl ⟨h1, fun i hi => ?_⟩
        by_cases e : i = u
        · subst e
          cases hc : candO (gt d i) with
          | false => rfl
          | true => exact absurd ⟨hc, .inl (by omega)⟩ h
        · exact h2 i (by omega)
      · refine .inr ⟨b, by omega, h2, h3, fun i hi hc => ?_⟩
        by_cases e : i = u
        · subst e
          apply Int.not_lt.1
          intro hh
          exact h ⟨hc, .inr (by rw [h2, Int.toNat_natCast]; exact hh)⟩
        · exact h4 i (by omega) hc
theorem cand_of {o : Oc} : candO o = true ↔ o.k = false ∧ 0 < o.r ∧ 0 < o.w := by
  unfold candO; cases o.k <;> simp
theorem GL.zero {d : List Oc} (g : GL d) {j : Nat} (hj : j < 16) (h : ∀ i, i < d.length → ix (gt d i) = j → (gt d i).w = 0) : gt (wv d) j = 0 := by
  by_cases hh : ∃ i, i < d.length ∧ ix (gt d i) = j
  · obtain ⟨i, h1, h2⟩ := hh
    rw [← h2, g.at h1]; exact h i h1 h2
  · rw [wv_gt _ hj]
    exact cnt_none fun i hi he => hh ⟨i, hi, he⟩
theorem ix_low {o : Oc} (h0 : 0 ≤ o.r) {j : Nat} (h : ix o = j) (hj : j ≤ 7) : o.k = false ∧ o.r = j := by
  unfold ix at h
  cases hk : o.k <;> simp [hk] at h ⊢ <;> omega
theorem most_top {d : List Oc} (g : GL d) : (mostU d d.length = -1 ∧ topR (wv d) 7 = 0) ∨ ∃ b : Nat, b < d.length ∧ mostU d d.length = b ∧ 0 < (gt d b).w ∧ ix (gt d b) = topR (wv d) 7 ∧ topR (wv d) 7 ≠ 0 := by
  rcases most_ok (d := d) d.length with ⟨h1, h2⟩ | ⟨b, h1, h2, h3, h4⟩
  · refine .inl ⟨h1, topR_zero fun i hi1 hi7 => g.zero (by omega) fun a ha he => ?_⟩
    have hr := g.rg a ha
    have hl := ix_low hr.1 he hi7
    have hc := h2 a ha
    have : ¬ 0 < (gt d a).w := fun hw => by
      rw [cand_of.2 ⟨hl.1, by omega, hw⟩] at hc; cases hc
    omega
  · have hc := cand_of.1 h3
    have hr := g.rg b h1
    have hix : ix (gt d b) = (gt d b).r.toNat := by unfold ix; rw [hc.1]; simp
    have ht : topR (wv d) 7 = (gt d b).r.toNat := by
      refine topR_is (by omega) (by rw [← hix, g.at h1]; omega) (by omega) fun i hi1 hi7 => g.zero (by omega) fun a ha he => ?_
      have hra := g.rg a ha
      have hl := ix_low hra.1 he hi7
      have : ¬ 0 < (gt d a).w := fun hw => by
        have := h4 a ha (cand_of.2 ⟨hl.1, by omega, hw⟩)
        omega
      omega
    exact .inr ⟨b, h1, h2, hc.2.2, by rw [hix, ht], by rw [ht]; omega⟩
def dotI (d : List Oc) (k : Bool) : Int := fidx (fun i => decide ((gt d i).r = 0) && ((gt d i).k == k) && decide (0 < (gt d i).w)) d.length
theorem dot_box (d : List Oc) (k : Bool) : -1 ≤ dotI d k ∧ dotI d k < d.length := by
  unfold dotI
  rcases fidx_some (p := fun i => decide ((gt d i).r = 0) && ((gt d i).k == k) && decide (0 < (gt d i).w)) (n := d.length) with ⟨h1, h2⟩ | ⟨v, h1, h2, h3, _⟩ <;> omega
theorem dot_ok {d : List Oc} (g : GL d) (k : Bool) : (dotI d k = -1 ∧ ¬ 0 < gt (wv d) (if k then 8 else 0)) ∨ ∃ v : Nat, v < d.length ∧ dotI d k = v ∧ 0 < (gt d v).w ∧ ix (gt d v) = (if k then 8 else 0) ∧ 0 < gt (wv d) (if k then 8 else 0) := by
  rcases fidx_some (p := fun i => decide ((gt d i).r = 0) && ((gt d i).k == k) && decide (0 < (gt d i).w)) (n := d.length) with ⟨h1, h2⟩ | ⟨v, h1, h2, h3, _⟩
  · refine .inl ⟨h1, ?_⟩
    have : gt (wv d) (if k then 8 else 0) = 0 := g.zero (by split <;> omega) fun a ha he => by
      have hr := g.rg a ha
      have hk := ix_inj (a := gt d a) (b := ⟨0, k, 0⟩) ⟨hr.1, hr.2.1⟩ ⟨Int.le_refl _, by show (0 : Int) ≤ 7; omega⟩ (by rw [he]; unfold ix; cases k <;> rfl)
      have h4 := h2 a ha
      simp only [Bool.and_eq_false_imp, Bool.and_eq_true, decide_eq_true_eq, beq_iff_eq, decide_eq_false_iff_not] at h4
      have := h4 ⟨hk.1, hk.2⟩
      omega
    omega
  · simp only [Bool.and_eq_true, decide_eq_true_eq, beq_iff_eq] at h3
    have e : ix (gt d v) = (if k then 8 else 0) := by unfold ix; rw [h3.1.1, h3.1.2]; cases k <;> rfl
    exact .inr ⟨v, h1, h2, h3.2, e, by rw [← e, g.at h1]; exact h3.2⟩
def rs1 (d : List Oc) (k : Nat) : List Oc := if 0 ≤ mostU d d.length then mvO d (mostU d d.length).toNat 0 (decide ((k : Int).tmod 2 = 1)) else d
theorem tmod2 (k : Nat) : (k : Int).tmod 2 = 0 ∨ (k : Int).tmod 2 = 1 := by
  rw [Int.tmod_eq_emod_of_nonneg (by omega)]; omega
theorem rs1_ok {d : List Oc} (g : GL d) (k : Nat) : GL (rs1 d k) ∧ wv (rs1 d k) = hardW (wv d) k ∧ (rs1 d k).length ≤ d.length + 1 := by
  unfold rs1 hardW
  rcases most_top g with ⟨h1, h2⟩ | ⟨b, h1, h2, h3, h4, h5⟩
  · rw [if_neg (by omega), if_pos h2]; exact ⟨g, rfl, by omega⟩
  · rw [if_pos (by omega), if_neg h5, h2, Int.toNat_natCast]
    obtain ⟨a, b', c⟩ := mv_ok (k := decide ((k : Int).tmod 2 = 1)) g h1 h3 (r := 0) ⟨Int.le_refl _, by omega⟩
    refine ⟨a, ?_, c⟩
    rw [b', h4]
    congr 1
    rcases tmod2 k with h | h
    · rw [h]; rfl
    · rw [h]; rfl
def rs2I (d : List Oc) : Int := if dotI d true < 0 then dotI d false else dotI d true
def rs2 (d : List Oc) : List Oc := if 0 ≤ rs2I d then mvO d (rs2I d).toNat 1 false else d
theorem rs2I_box {d : List Oc} (g : GL d) : 0 ≤ rs2I d → rs2I d < d.length := by
  unfold rs2I
  rcases dot_ok g true with ⟨h1, h2⟩ | ⟨v, h1, h2, _⟩ <;> rcases dot_ok g false with ⟨k1, k2⟩ | ⟨u, k1, k2, _⟩ <;> intro h <;> split <;> omega
theorem rs2_ok {d : List Oc} (g : GL d) : GL (rs2 d) ∧ wv (rs2 d) = easyW (wv d) ∧ (rs2 d).length ≤ d.length + 1 := by
  unfold rs2 easyW
  rcases dot_ok g true with ⟨h1, h2⟩ | ⟨v, h1, h2, h3, h4, h5⟩
  · have e : rs2I d = dotI d false := by rw [rs2I, if_pos (by omega)]
    rw [e]
    have h2' : ¬ 0 < gt (wv d) 8 := h2
    rw [if_neg h2']
    rcases dot_ok g false with ⟨k1, k2⟩ | ⟨v, k1, k2, k3, k4, k5⟩
    · have k2' : ¬ 0 < gt (wv d) 0 := k2
      rw [if_neg (by omega), if_neg k2']; exact ⟨g, rfl, by omega⟩
    · have k5' : 0 < gt (wv d) 0 := k5
      rw [if_pos (by omega), if_pos k5', k2, Int.toNat_natCast]
      obtain ⟨a, b', c⟩ := mv_ok (k := false) g k1 k3 (r := 1) ⟨by omega, by omega⟩
      exact ⟨a, by rw [b', k4]; rfl, c⟩
  · have e : rs2I d = dotI d true := by rw [rs2I, if_neg (by omega)]
    have h5' : 0 < gt (wv d) 8 := h5
    rw [e, if_pos h5', if_pos (by omega), h2, Int.toNat_natCast]
    obtain ⟨a, b', c⟩ := mv_ok (k := false) g h1 h3 (r := 1) ⟨by omega, by omega⟩
    exact ⟨a, by rw [b', h4]; rfl, c⟩
def rst (d : List Oc) : Nat → List Oc
  | 0 => d
  | k + 1 => rs1 (rst d k) k
def ret (d : List Oc) : Nat → List Oc
  | 0 => d
  | k + 1 => rs2 (ret d k)
theorem rst_ok {d : List Oc} (g : GL d) : ∀ k, GL (rst d k) ∧ wv (rst d k) = hst (wv d) k ∧ (rst d k).length ≤ d.length + k
  | 0 => ⟨g, rfl, Nat.le_refl _⟩
  | k + 1 => by
    obtain ⟨g1, w1, l1⟩ := rst_ok g k
    obtain ⟨g2, w2, l2⟩ := rs1_ok g1 k
    exact ⟨g2, by rw [rst, w2, w1]; rfl, by rw [rst]; omega⟩
theorem ret_ok {d : List Oc} (g : GL d) : ∀ k, GL (ret d k) ∧ wv (ret d k) = est (wv d) k ∧ (ret d k).length ≤ d.length + k
  | 0 => ⟨g, rfl, Nat.le_refl _⟩
  | k + 1 => by
    obtain ⟨g1, w1, l1⟩ := ret_ok g k
    obtain ⟨g2, w2, l2⟩ := rs2_ok g1
    exact ⟨g2, by rw [ret, w2, w1]; rfl, by rw [ret]; omega⟩
theorem cnt_T {d : List Oc} {u j : Nat} {n : Int} (hn : n = cnt d j u) (h : ix (gt d u) = j) : n + (gt d u).w = cnt d j (u + 1) := by rw [cnt, if_pos h, hn]
theorem cnt_F {d : List Oc} {u j : Nat} {n : Int} (hn : n = cnt d j u) (h : ix (gt d u) ≠ j) : n = cnt d j (u + 1) := by rw [cnt, if_neg h, hn]; omega
theorem ix_T {o : Oc} {r k : Nat} (h1 : o.r = (r : Int)) (h2 : o.k = decide (k = 1)) (hk : k < 2) : ix o = r + 8 * k := by
  unfold ix
  rw [h1, h2]
  obtain rfl | rfl : k = 0 ∨ k = 1 := by omega
  · simp
  · simp
theorem ix_F {o : Oc} {r k : Nat} (hr : 0 ≤ o.r ∧ o.r ≤ 7) (hr2 : r < 8) (hk : k < 2) (h : ¬ (o.r = (r : Int) ∧ o.k = decide (k = 1))) : ix o ≠ r + 8 * k := by
  intro e
  have h1 : ix (⟨(r : Int), decide (k = 1), 0⟩ : Oc) = r + 8 * k := ix_T rfl rfl hk
  exact h (ix_inj (b := ⟨(r : Int), decide (k = 1), 0⟩) hr ⟨by show (0 : Int) ≤ (r : Int); omega, by show (r : Int) ≤ 7; omega⟩ (e.trans h1.symm))
theorem cnt_box {d : List Oc} (g : GL d) (j : Nat) (u : Nat) (hu : u ≤ d.length) : 0 ≤ cnt d j u ∧ cnt d j u ≤ 16 := by
  refine ⟨cnt_nn (fun i hi => (g.rg i hi).2.2) j u hu, ?_⟩
  have key : ∀ u, u ≤ d.length → cnt d j u ≤ sW d u := by
    intro u
    induction u with
    | zero => intro _; exact Int.le_refl _
    | succ u ih =>
      intro hu
      have h1 := ih (by omega)
      have h2 := (g.rg u (by omega)).2.2
      rw [cnt, sW]
      split <;> omega
  have mono : ∀ n, u + n ≤ d.length → sW d u ≤ sW d (u + n) := by
    intro n
    induction n with
    | zero => intro _; exact Int.le_refl _
    | succ n ih =>
      intro hn
      have h1 := ih (by omega)
      have h2 := (g.rg (u + n) (by omega)).2.2
      rw [show u + (n + 1) = u + n + 1 by omega, sW]
      omega
  have h1 := key u hu
  have h2 := mono (d.length - u) (by omega)
  rw [show u + (d.length - u) = d.length by omega, g.sum] at h2
  omega
/-! ### What is handed back -/
def elO (w : List Int) (j : Nat) : Oc := ⟨(j / 2 : Nat), decide (j % 2 = 1), gt w (j / 2 + 8 * (j % 2))⟩
def outL (w : List Int) : List Oc := (List.range 16).map (elO w)
theorem outL_len (w : List Int) : (outL w).length = 16 := by simp [outL]
theorem outL_gt (w : List Int) {j : Nat} (h : j < 16) : gt (outL w) j = elO w j := by
  rw [gt_eq _ _ (by rw [outL_len]; exact h)]; simp [outL]
theorem outL_two {w : List Int} {u : Nat} (hu : u < 8) : (outL w).take (2 * (u + 1)) = (outL w).take (2 * u) ++ [⟨(u : Int), false, gt w u⟩, ⟨(u : Int), true, gt w (8 + u)⟩] := by
  have e0 : (outL w)[2 * u]? = some ⟨(u : Int), false, gt w u⟩ := by
    rw [List.getElem?_eq_getElem (by rw [outL_len]; omega), ← gt_eq _ _ (by rw [outL_len]; omega), outL_gt _ (by omega), elO]
    rw [show 2 * u / 2 = u by omega, show 2 * u % 2 = 0 by omega]
    simp
  have e1 : (outL w)[2 * u + 1]? = some ⟨(u : Int), true, gt w (8 + u)⟩ := by
    rw [List.getElem?_eq_getElem (by rw [outL_len]; omega), ← gt_eq _ _ (by rw [outL_len]; omega), outL_gt _ (by omega), elO]
    rw [show (2 * u + 1) / 2 = u by omega, show (2 * u + 1) % 2 = 1 by omega]
    simp [Nat.add_comm]
  rw [show 2 * (u + 1) = 2 * u + 1 + 1 by omega, List.take_add_one, List.take_add_one, e0, e1]
  simp
def pos (l : List Oc) : List Oc := l.filter fun o => decide (o.w ≠ 0)
theorem pos_step {l : List Oc} {u : Nat} (hu : u < l.length) : pos (l.take (u + 1)) = if (gt l u).w = 0 then pos (l.take u) else pos (l.take u) ++ [gt l u] := by
  have e : l.take (u + 1) = l.take u ++ [gt l u] := by
    rw [List.take_add_one, List.getElem?_eq_getElem hu, gt_eq _ _ hu]; rfl
  rw [e, pos, List.filter_append]
  by_cases h : (gt l u).w = 0
  · rw [if_pos h]; simp [h, pos]
  · rw [if_neg h]; simp [h, pos]
theorem pos_len (l : List Oc) : (pos l).length ≤ l.length := List.length_filter_le _ _
theorem outL_at {d : List Oc} {r k : Nat} (hr : r < 8) (hk : k < 2) : gt (outL (wv d)) (2 * r + k) = ⟨(r : Int), decide (k = 1), cnt d (r + 8 * k) d.length⟩ := by
  rw [outL_gt _ (by omega), elO, show (2 * r + k) / 2 = r by omega, show (2 * r + k) % 2 = k by omega, wv_gt _ (by omega)]
theorem pos_take_len (l : List Oc) (u : Nat) : (pos (l.take u)).length ≤ u := Nat.le_trans (pos_len _) (List.length_take_le u l)
theorem outL_pw (w : List Int) : (outL w).Pairwise ltO := by
  rw [outL, List.pairwise_map]
  refine List.Pairwise.imp ?_ List.pairwise_lt_range
  intro i j h
  unfold ltO elO
  by_cases h1 : i / 2 < j / 2
  · left; show ((i / 2 : Nat) : Int) < ((j / 2 : Nat) : Int); omega
  · right
    refine ⟨by show ((i / 2 : Nat) : Int) = ((j / 2 : Nat) : Int); omega, ?_, ?_⟩
    · exact decide_eq_false (by omega)
    · exact decide_eq_true (by omega)
theorem pos_last {l : List Oc} (h : l.Pairwise ltO) {u : Nat} (hu : u < l.length) (h0 : 0 < (pos (l.take u)).length) : ltO (gt (pos (l.take u)) ((pos (l.take u)).length - 1)) (gt l u) := by
  have hm : gt (pos (l.take u)) ((pos (l.take u)).length - 1) ∈ pos (l.take u) := by
    rw [gt_eq _ _ (by omega)]; exact List.getElem_mem _
  have hm2 : gt (pos (l.take u)) ((pos (l.take u)).length - 1) ∈ l.take u := (List.mem_filter.1 hm).1
  obtain ⟨i, hi, e⟩ := List.getElem_of_mem hm2
  have hi' : i < u := by rw [List.length_take] at hi; omega
  rw [← e, List.getElem_take, gt_eq _ _ hu]
  exact List.pairwise_iff_getElem.1 h i u (by omega) hu hi'
theorem pos_ne {l : List Oc} {i : Nat} (hi : i < l.length) (h : (gt l i).w ≠ 0) : pos l ≠ [] := by
  intro e
  have hm : gt l i ∈ pos l := by
    rw [pos, List.mem_filter]
    exact ⟨by rw [gt_eq _ _ hi]; exact List.getElem_mem _, by simp [h]⟩
  rw [e] at hm; cases hm
theorem Gd.some {w : List Int} (g : Gd w) : ∃ j, j < 16 ∧ gt w j ≠ 0 := by
  apply Classical.byContradiction
  intro h
  have hz : ∀ j, j < 16 → gt w j = 0 := fun j hj => Classical.byContradiction fun hh => h ⟨j, hj, hh⟩
  have e : w = List.replicate 16 0 := ext_gt (by rw [g.len]; rfl) fun k hk => by
    rw [g.len] at hk
    rw [hz k hk, gt_eq _ _ (by simpa using hk), List.getElem_replicate]
  have := g.sum
  rw [e] at this
  exact absurd this (by decide)
def shS (d : List Oc) (n : Int) : List Oc := pos (outL (finW d n))
theorem fin_gd {d : List Oc} (g : GL d) (n : Int) : Gd (finW d n) := est_gd (hst_gd g.gd _) _
theorem pos_out_ne {w : List Int} (g : Gd w) : pos (outL w) ≠ [] := by
  obtain ⟨j, hj, hne⟩ := g.some
  have h16 : 2 * (j % 8) + j / 8 < 16 := by omega
  refine pos_ne (i := 2 * (j % 8) + j / 8) (by rw [outL_len]; exact h16) ?_
  rw [outL_gt _ h16, elO]
  have e : (2 * (j % 8) + j / 8) / 2 + 8 * ((2 * (j % 8) + j / 8) % 2) = j := by omega
  show gt w ((2 * (j % 8) + j / 8) / 2 + 8 * ((2 * (j % 8) + j / 8) % 2)) ≠ 0
  rw [e]; exact hne
theorem sW_outL {w : List Int} (g : Gd w) : sW (outL w) 16 = 16 := by
  have h := g.sum
  have e : w = [gt w 0, gt w 1, gt w 2, gt w 3, gt w 4, gt w 5, gt w 6, gt w 7, gt w 8, gt w 9, gt w 10, gt w 11, gt w 12, gt w 13, gt w 14, gt w 15] := by
    refine ext_gt (by rw [g.len]; rfl) fun k hk => ?_
    rw [g.len] at hk
    match k, hk with
    | 0, _ => rfl | 1, _ => rfl | 2, _ => rfl | 3, _ => rfl | 4, _ => rfl | 5, _ => rfl | 6, _ => rfl | 7, _ => rfl
    | 8, _ => rfl | 9, _ => rfl | 10, _ => rfl | 11, _ => rfl | 12, _ => rfl | 13, _ => rfl | 14, _ => rfl | 15, _ => rfl
    | n + 16, hn => omega
  rw [e] at h
  simp only [sumL] at h
  show 0 + gt w 0 + gt w 8 + gt w 1 + gt w 9 + gt w 2 + gt w 10 + gt w 3 + gt w 11 + gt w 4 + gt w 12 + gt w 5 + gt w 13 + gt w 6 + gt w 14 + gt w 7 + gt w 15 = 16
  omega
theorem sW_out_box {w : List Int} (g : Gd w) : ∀ u, u ≤ 16 → 0 ≤ sW (outL w) u ∧ sW (outL w) u ≤ 16 * u
  | 0, _ => ⟨Int.le_refl _, by simp [sW]⟩
  | u + 1, hu => by
    have ih := sW_out_box g u (by omega)
    have h1 := g.le (i := u / 2 + 8 * (u % 2)) (by omega)
    have e : (gt (outL w) u).w = gt w (u / 2 + 8 * (u % 2)) := by rw [outL_gt _ (by omega)]; rfl
    rw [sW, e]; omega
theorem outL_rg {w : List Int} (g : Gd w) {u : Nat} (hu : u < 16) : 0 ≤ (gt (outL w) u).r ∧ (gt (outL w) u).r ≤ 7 ∧ 0 ≤ (gt (outL w) u).w ∧ (gt (outL w) u).w ≤ 16 := by
  have h1 := g.le (i := u / 2 + 8 * (u % 2)) (by omega)
  rw [outL_gt _ hu]
  exact ⟨by show (0 : Int) ≤ ((u / 2 : Nat) : Int); omega, by show ((u / 2 : Nat) : Int) ≤ 7; omega, h1.1, h1.2⟩
end Go.Proofs.Ytplockpopmaejaa
end
section
set_option linter.unusedVariables false
set_option linter.unusedSimpArgs false
namespace Go.Proofs.Ytplockpopmaejaa
open Go Go.Am
abbrev rowsAV (rows : List (List Int)) : AV := .sl rows.length (rows.map intsAV)
def badX (n : Nat) (x : Int) : Prop := x < 0 ∨ (n : Int) ≤ x
instance (n : Nat) (x : Int) : Decidable (badX n x) := by unfold badX; infer_instance
def anyX (n : Nat) (l : List Int) : Prop := ∃ i, i < l.length ∧ badX n (gt l i)
open Classical in
noncomputable def coE (l : List Bt) (m : List Bw) (bs ws : List Int) (balls : Int) : Int :=
  if chkM l m ≠ 0 then chkM l m else if bs.length = 0 ∨ ws.length = 0 then 6 else if 12 < bs.length ∨ 6 < ws.length then 9 else if anyX l.length bs then 1 else if anyX m.length ws then 1 else if balls < 1 ∨ 8 < balls then 2 else 0
def coR (l : List Bt) (m : List Bw) (ws : List Int) (balls x : Int) : List Int := ws.map fun y => balls * (meanS (shS (gt l x.toNat).ds (gt m y.toNat).sh)).1
def coV (l : List Bt) (m : List Bw) (bs ws : List Int) (balls : Int) : List (List Int) := bs.map fun x => coR l m ws balls x
noncomputable def coA (l : List Bt) (m : List Bw) (bs ws : List Int) (balls : Int) : AV := if coE l m bs ws balls ≠ 0 then nilO else rowsAV (coV l m bs ws balls)
def AnyR (x : AV) (rows : List (List Int)) : Prop := x = rowsAV rows ∨ (x = nilO ∧ rows = [])
theorem AnyR.sl {x : AV} {rows : List (List Int)} (h : AnyR x rows) (h0 : 0 < rows.length) : x = rowsAV rows := by
  rcases h with h | ⟨_, h⟩
  · exact h
  · subst h; simp at h0
theorem AnyR.len {x : AV} {rows : List (List Int)} (h : AnyR x rows) : lenV (tyOf Try.prog 32) x = some (AV.i (rows.length : Nat)) := by
  rcases h with rfl | ⟨rfl, rfl⟩
  · simp only [lenV, ty32, kOf, Option.map_some]
  · simp only [lenV, ty32, kOf, Option.map_some]; rfl
theorem co_any (l : List Bt) (m : List Bw) (bs ws : List Int) (balls : Int) : ∃ x rows, coA l m bs ws balls = x ∧ AnyR x rows := by
  unfold coA
  split
  · exact ⟨_, [], rfl, .inr ⟨rfl, rfl⟩⟩
  · exact ⟨_, _, rfl, .inl rfl⟩
theorem co_of {l : List Bt} {m : List Bw} {bs ws : List Int} {balls : Int} (h : ¬ coE l m bs ws balls ≠ 0) : bs.length ≤ 12 ∧ ws.length ≤ 6 := by
  unfold coE at h
  by_cases h1 : chkM l m ≠ 0
  · rw [if_pos h1] at h; exact absurd h1 h
  · rw [if_neg h1] at h
    by_cases h2 : bs.length = 0 ∨ ws.length = 0
    · rw [if_pos h2] at h; exact absurd (by decide) h
    · rw [if_neg h2] at h
      by_cases h3 : 12 < bs.length ∨ 6 < ws.length
      · rw [if_pos h3] at h; exact absurd (by decide) h
      · omega
theorem co_len {l : List Bt} {m : List Bw} {bs ws : List Int} {balls : Int} {x : AV} {rows : List (List Int)} (h : coA l m bs ws balls = x) (hx : AnyR x rows) : rows.length ≤ 12 := by
  unfold coA at h
  by_cases h1 : coE l m bs ws balls ≠ 0
  · rw [if_pos h1] at h
    subst h
    rcases hx with hx | ⟨_, rfl⟩
    · cases hx
    · simp
  · rw [if_neg h1] at h
    subst h
    have h2 := co_of h1
    rcases hx with hx | ⟨hx, _⟩
    · injection hx with e1 e2
      simp only [coV, List.length_map] at e1
      omega
    · cases hx
theorem co_row {l : List Bt} {m : List Bw} {bs ws : List Int} {balls : Int} {rows : List (List Int)} (h : coA l m bs ws balls = rowsAV rows) {i : Nat} (hi : i < rows.length) : (gt rows i).length ≤ 6 := by
  unfold coA at h
  by_cases h1 : coE l m bs ws balls ≠ 0
  · rw [if_pos h1] at h; cases h
  · rw [if_neg h1] at h
    have h2 := co_of h1
    injection h with e1 e2
    have e3 : ((coV l m bs ws balls).map intsAV)[i]? = (rows.map intsAV)[i]? := by rw [e2]
    rw [List.getElem?_map, List.getElem?_map, List.getElem?_eq_getElem (by omega), List.getElem?_eq_getElem hi] at e3
    simp only [Option.map_some, Option.some.injEq] at e3
    injection e3 with e4 e5
    rw [gt_eq _ _ hi, ← e4]
    simp [coV, coR]
    exact h2.2
theorem coR_step {l : List Bt} {m : List Bw} {ws : List Int} {balls x : Int} {v : Nat} (hv : v < ws.length) : (coR l m ws balls x).take (v + 1) = (coR l m ws balls x).take v ++ [balls * (meanS (shS (gt l x.toNat).ds (gt m (gt ws v).toNat).sh)).1] := by
  rw [List.take_add_one, coR, List.getElem?_map, List.getElem?_eq_getElem hv, ← gt_eq _ _ hv]
  rfl
theorem coR_len (l : List Bt) (m : List Bw) (ws : List Int) (balls x : Int) : (coR l m ws balls x).length = ws.length := by simp [coR]
theorem coV_step {l : List Bt} {m : List Bw} {bs ws : List Int} {balls : Int} {u : Nat} (hu : u < bs.length) : (coV l m bs ws balls).take (u + 1) = (coV l m bs ws balls).take u ++ [coR l m ws balls (gt bs u)] := by
  rw [List.take_add_one, coV, List.getElem?_map, List.getElem?_eq_getElem hu, ← gt_eq _ _ hu]
  rfl
theorem coV_len (l : List Bt) (m : List Bw) (bs ws : List Int) (balls : Int) : (coV l m bs ws balls).length = bs.length := by simp [coV]
/-! Rows in memory -/
def OutI (lo : Nat) (H : Heap) (o : AV) (w : List Int) : Prop := (w = [] ∧ o = nilO) ∨ (w ≠ [] ∧ ∃ b, o = .own 1 b 0 w.length ∧ lo ≤ b ∧ hget H b = some (w.map AV.i))
theorem ints_st (w : List Int) : (w.map AV.i).all storable = true := by
  rw [List.all_eq_true]
  intro x hx
  obtain ⟨n, _, rfl⟩ := List.mem_map.1 hx
  rfl
theorem bs36 (lim : Nat) (H : Heap) (x : Operand) (ev : Operand → AV) (n : Int) (h : ev x = AV.i n) :
    effV Try.prog lim (.buildSlice 36 1 #[(0, x)]) ev H = some (.own 1 H.length 0 1, H ++ [some [AV.i n]]) := by
  simp only [effV, tk36, ty2]
  rw [if_pos ⟨rfl, by decide, by decide⟩]
  simp only [List.map_cons, List.map_nil, h]
  rfl
theorem bs32 (lim : Nat) (H : Heap) (x : Operand) (ev : Operand → AV) (b n : Nat) (h : ev x = .own 1 b 0 n) :
    effV Try.prog lim (.buildSlice 32 1 #[(0, x)]) ev H = some (.own 1 H.length 0 1, H ++ [some [.own 1 b 0 n]]) := by
  simp only [effV, tk32, ty36]
  rw [if_pos ⟨rfl, by decide, by decide⟩]
  simp only [List.map_cons, List.map_nil, h]
  rfl
theorem OutI.mono {lo : Nat} {H H' : Heap} {o : AV} {w : List Int} (h : OutI lo H o w) (hh : ∀ b, lo ≤ b → ∀ k, hget H b = some k → hget H' b = some k) : OutI lo H' o w := by
  rcases h with h | ⟨h0, b, h1, h2, h3⟩
  · exact .inl h
  · exact .inr ⟨h0, b, h1, h2, hh b h2 _ h3⟩
theorem outI_app {lim lo : Nat} {H : Heap} {o : AV} {w : List Int} {n : Int} {b' : Nat} (h : OutI lo H o w) (hb : hget H b' = some [AV.i n]) (hl : lim ≤ lo) (hlo : lo ≤ H.length) (hw : w.length ≤ 1000) :
    ∃ H', appendV Try.prog lim H 36 o (.own 1 b' 0 1) = some (.own 1 H.length 0 (w.length + 1), H') ∧ OutI lo H' (.own 1 H.length 0 (w.length + 1)) (w ++ [n]) ∧ H'.length = H.length + 1 ∧ ∀ c, c < lo → hget H' c = hget H c := by
  rcases h with ⟨rfl, rfl⟩ | ⟨h0, b, rfl, h2, h3⟩
  · refine ⟨H ++ [some [AV.i n]], ?_, .inr ⟨by simp, H.length, by simp, hlo, by simp [hget]⟩, by simp, fun c hc => hget_low _ _ _ (by omega)⟩
    simp only [appendV, tk36, ty2, srcCells, hb]
    rw [if_pos (by simp)]
    simp only [List.length_cons, List.length_nil]
    rw [if_pos ⟨trivial, by decide, rfl⟩]
    rw [if_pos ⟨by omega, by omega⟩]
    rfl
  · have hbl := hget_lt h3
    refine ⟨hset H b none ++ [some ((w ++ [n]).map AV.i)], ?_, .inr ⟨by simp, H.length, by simp, hlo, ?_⟩, by simp [hset], fun c hc => ?_⟩
    · simp only [appendV, tk36, ty2, srcCells, h3, hb]
      rw [if_pos (by simp)]
      simp only [List.length_cons, List.length_nil]
      rw [if_pos ⟨trivial, by decide, rfl⟩]
      rw [if_pos ⟨by omega, trivial, by simp, by omega, by omega⟩]
      simp only [List.drop_zero, Nat.mul_one, List.take_of_length_le (show (w.map AV.i).length ≤ w.length by simp), List.map_append]
      rfl
    · simp [hget, hset]
    · rw [hget_low _ _ _ (by simp [hset]; omega)]
      simp [hget, hset, show ¬ b = c by omega]
def OutR (lo : Nat) (H : Heap) (o : AV) (rows : List (List Int)) : Prop :=
  (rows = [] ∧ o = nilO) ∨ (rows ≠ [] ∧ ∃ b cells, o = .own 1 b 0 rows.length ∧ lo ≤ b ∧ hget H b = some cells ∧ cells.length = rows.length ∧
    ∀ i, i < rows.length → gt rows i ≠ [] ∧ ∃ c, cells[i]? = some (.own 1 c 0 (gt rows i).length) ∧ lo ≤ c ∧ hget H c = some ((gt rows i).map AV.i))
theorem OutR.mono {lo : Nat} {H H' : Heap} {o : AV} {rows : List (List Int)} (h : OutR lo H o rows) (hh : ∀ b, lo ≤ b → ∀ k, hget H b = some k → hget H' b = some k) : OutR lo H' o rows := by
  rcases h with h | ⟨h0, b, cells, h1, h2, h3, h4, h5⟩
  · exact .inl h
  · refine .inr ⟨h0, b, cells, h1, h2, hh b h2 _ h3, h4, fun i hi => ?_⟩
    obtain ⟨a1, c, a2, a3, a4⟩ := h5 i hi
    exact ⟨a1, c, a2, a3, hh c a3 _ a4⟩
theorem outR_app {lim lo : Nat} {H : Heap} {o : AV} {rows : List (List Int)} {w : List Int} {b' c' : Nat} (h : OutR lo H o rows) (hb : hget H b' = some [.own 1 c' 0 w.length]) (hc : hget H c' = some (w.map AV.i)) (hw0 : w ≠ []) (hlc : lo ≤ c') (hl : lim ≤ lo) (hlo : lo ≤ H.length) (hw : rows.length ≤ 1000) :
    ∃ H', appendV Try.prog lim H 32 o (.own 1 b' 0 1) = some (.own 1 H.length 0 (rows.length + 1), H') ∧ OutR lo H' (.own 1 H.length 0 (rows.length + 1)) (rows ++ [w]) ∧ H'.length = H.length + 1 ∧ ∀ c, c < lo → hget H' c = hget H c := by
  have hcl := hget_lt hc
  rcases h with ⟨rfl, rfl⟩ | ⟨h0, b, cells, rfl, h2, h3, h4, h5⟩
  · refine ⟨H ++ [some [.own 1 c' 0 w.length]], ?_, .inr ⟨by simp, H.length, [.own 1 c' 0 w.length], by simp, hlo, by simp [hget], by simp, fun i hi => ?_⟩, by simp, fun c hc => hget_low _ _ _ (by omega)⟩
    · simp only [appendV, tk32, ty36, srcCells, hb]
      rw [if_pos (by simp)]
      simp only [List.length_cons, List.length_nil]
      rw [if_pos ⟨trivial, by decide, rfl⟩]
      rw [if_pos ⟨by omega, by omega⟩]
      rfl
    · have : i = 0 := by simp at hi; omega
      subst this
      exact ⟨hw0, c', rfl, hlc, (hget_low _ _ _ hcl).trans hc⟩
  · have hbl := hget_lt h3
    have hne : ∀ {c : Nat} {z : List Int}, z ≠ [] → hget H c = some (z.map AV.i) → c ≠ b := fun {c z} hz hcz e => by
      subst e
      rw [h3] at hcz
      have hr : 0 < rows.length := Nat.pos_of_ne_zero fun e => h0 (List.length_eq_zero_iff.1 e)
      obtain ⟨_, c2, a2, _⟩ := h5 0 hr
      cases hcz
      match z, hz with
      | n :: z, _ => cases a2
    refine ⟨hset H b none ++ [some (cells ++ [.own 1 c' 0 w.length])], ?_, .inr ⟨by simp, H.length, cells ++ [.own 1 c' 0 w.length], by simp, hlo, by simp [hget, hset], by simp [h4], fun i hi => ?_⟩, by simp [hset], fun c hc => ?_⟩
    · simp only [appendV, tk32, ty36, srcCells, h3, hb]
      rw [if_pos (by simp)]
      simp only [List.length_cons, List.length_nil]
      rw [if_pos ⟨trivial, by decide, rfl⟩]
      rw [if_pos ⟨by omega, trivial, by omega, by omega, by omega⟩]
      simp only [List.drop_zero, Nat.mul_one, List.take_of_length_le (Nat.le_of_eq h4)]
      rfl
    · have keep : ∀ {c : Nat} {k : Blk}, c ≠ b → hget H c = some k → hget (hset H b none ++ [some (cells ++ [.own 1 c' 0 w.length])]) c = some k := fun {c k} hcb hck => by
        rw [hget_low _ _ _ (by simp [hset]; exact hget_lt hck)]
        rw [← hck]
        simp [hget, hset, Ne.symm hcb]
      by_cases hi2 : i < rows.length
      · have e : gt (rows ++ [w]) i = gt rows i := by rw [gt_snoc, if_pos hi2]
        rw [e]
        obtain ⟨a1, c, a2, a3, a4⟩ := h5 i hi2
        exact ⟨a1, c, by rw [List.getElem?_append_left (by omega)]; exact a2, a3, keep (hne a1 a4) a4⟩
      · have hi3 : i = rows.length := by simp at hi; omega
        subst hi3
        have e : gt (rows ++ [w]) rows.length = w := by rw [gt_snoc, if_neg (by omega), if_pos rfl]
        rw [e]
        exact ⟨hw0, c', by rw [List.getElem?_append_right (by omega), h4]; simp, hlc, keep (hne hw0 hc) hc⟩
    · rw [hget_low _ _ _ (by simp [hset]; omega)]
      simp [hget, hset, show ¬ b = c by omega]
theorem OutR.mono2 {lo lo' : Nat} {H : Heap} {o : AV} {rows : List (List Int)} (h : OutR lo H o rows) (hh : lo' ≤ lo) : OutR lo' H o rows := by
  rcases h with h | ⟨h0, b, cells, h1, h2, h3, h4, h5⟩
  · exact .inl h
  · refine .inr ⟨h0, b, cells, h1, by omega, h3, h4, fun i hi => ?_⟩
    obtain ⟨a1, c, a2, a3, a4⟩ := h5 i hi
    exact ⟨a1, c, a2, by omega, a4⟩
theorem OutR.frz {base d : Nat} {H : Heap} {o : AV} {rows : List (List Int)} (h : OutR base H o rows) (h0 : rows ≠ []) : Go.Am.frz H base (d + 3) o = rowsAV rows := by
  rcases h with ⟨h, _⟩ | ⟨_, b, cells, rfl, h2, h3, h4, h5⟩
  · exact absurd h h0
  · rw [frz_own3' (by omega) h3, List.drop_zero]
    refine congrArg (AV.sl rows.length) (List.ext_getElem? fun i => ?_)
    rw [List.getElem?_map, List.getElem?_map]
    by_cases hi : i < rows.length
    · obtain ⟨_, c, a2, a3, a4⟩ := h5 i hi
      rw [a2, List.getElem?_eq_getElem hi, ← gt_eq _ _ hi]
      simp only [Option.map_some]
      rw [frz_own3' (by omega) a4, List.drop_zero, List.map_map]
      rfl
    · rw [List.getElem?_eq_none (by omega), List.getElem?_eq_none (by omega)]; rfl
end Go.Proofs.Ytplockpopmaejaa
end
section
set_option linter.unusedVariables false
namespace Go.Proofs.Ytplockpopmaejaa
open Go Go.Am Go.RowKit
instance dnT : Dn := ⟨True⟩
def primC : FuncId → Option (List AV → Heap → Option AV) := fun _ => none
theorem primC_ok : ∀ f p, primC f = some p → ∀ args H r, p args H = some r → ∀ (lim : Nat) (φ : Phi) (I : Nat → Prop) (w : World) (cs : Array Value), Tb w → Rel lim φ I w H → DL φ I w args cs → CallW Try.prog f cs w (PurePost φ I w lim H r) := by
  intro f p h
  cases h
end Go.Proofs.Ytplockpopmaejaa
end
section
set_option linter.unusedVariables false
namespace Go.Proofs.Ytplockpopmaejaa.C
open Go Go.Am
noncomputable def fns : FuncId → Option FnA
  | 36 => some fa36
  | 47 => some fa47
  | 50 => some fa50
  | _ => none
noncomputable def sig : Sig := { P := Try.prog, fns := fns, prim := primC, own := fun _ => false, fz := fun _ => false }
theorem fnOK36 : FnOK Try.prog sig.pure 36 fa36 := ⟨Try.func36, by kernel_rfl, fun c hc => by cases hc; kernel_rfl⟩
theorem fnOK47 : FnOK Try.prog sig.pure 47 fa47 := ⟨Try.func47, by kernel_rfl, fun c hc => by cases hc; kernel_rfl⟩
theorem fnOK50 : FnOK Try.prog sig.pure 50 fa50 := ⟨Try.func50, by kernel_rfl, fun c hc => by cases hc; kernel_rfl⟩
theorem fns_ok : ∀ f fa, fns f = some fa → FnOK Try.prog sig.pure f fa := by
  intro f fa h
  unfold fns at h
  split at h <;> first | (cases h; done) | skip
  · cases h; exact fnOK36
  · cases h; exact fnOK47
  · cases h; exact fnOK50
theorem sig_ok : SigOK sig := ⟨by kernel_rfl, fns_ok, fun f h => by simp [sig] at h, fun f p h => ⟨rfl, primC_ok f p h⟩, fun f p h => by cases h⟩
theorem sigP : sig.P = Try.prog := rfl
attribute [go_sem] sigP
end Go.Proofs.Ytplockpopmaejaa.C
end
section
set_option linter.unusedSimpArgs false
set_option linter.unusedVariables false
set_option maxHeartbeats 40000000
set_option maxRecDepth 4000
namespace Go.Proofs.Ytplockpopmaejaa.C
open Go Go.Am

abbrev lc_isnan (a b : AV) : Env := [(0,a),(2,b)]
theorem isnan (lim : Nat) (H : Heap) (x : Int) : ACall sig lim 50 [AV.i x] H fun r H' => r = .v (.bool false) ∧ H' = H := by
 refine ACall_pure (fa := fa50) rfl rfl rfl rfl ?_
 have tr : ∀ a0 : AV, env0 fa50.keep [a0] = [(0,a0),(2,.any)] := fun a0 => rfl
 refine W_to (tr _) ?_; clear tr
 refine at_seq rfl ?_
 refine rg rfl ?_
 refine Rq ?_
 have tr : ∀ a b c : AV, let l := lc_isnan a b; trim ((2,c)::l) l = [(0,a),(2,c)] := by intros; rfl
 refine R_nil (tr ..) ?_; clear tr
 refine then_n ?_
 refine at_seq rfl ?_
 refine rg rfl ?_
 refine Rq ?_
 refine Rq ?_
 refine Rq ?_
 refine Rq ?_
 have tr : ∀ a b c d e f : AV, let l := lc_isnan a b; trim ((2,f)::(5,e)::(4,d)::(3,c)::l) l = [(0,a),(2,f)] := by intros; rfl
 refine R_nil (tr ..) ?_; clear tr
 refine then_n ?_
 refine at_ret rfl ?_
 refine fpure ?_
 refine ⟨?_, rfl⟩
 first | rfl | simp

abbrev lc_cmp_ok (a b c d e f g h i j : AV) : Env := [(0,a),(1,b),(4,c),(5,d),(6,e),(11,f),(12,g),(13,h),(16,i),(19,j)]
theorem cmp_ok (lim : Nat) (H : Heap) (x y : Int) : ACall sig lim 47 [AV.i x, AV.i y] H fun r H' => r = AV.i (if x < y then -1 else if y < x then 1 else 0) ∧ H' = H := by
 refine ACall_pure (fa := fa47) rfl rfl rfl rfl ?_
 have tr : ∀ a0 a1 : AV, env0 fa47.keep [a0, a1] = [(0,a0),(1,a1),(4,.any),(5,.any),(6,.any),(11,.any),(12,.any),(13,.any),(16,.any),(19,.any)] := fun a0 a1 => rfl
 refine W_to (tr _ _) ?_; clear tr
 refine at_seq rfl ?_
 refine rg rfl ?_
 refine Rq ?_
 have tr : ∀ a b c d e f g h i j k : AV, let l := lc_cmp_ok a b c d e f g h i j; trim ((4,k)::l) l = [(0,a),(1,b),(4,k),(5,d),(6,e),(11,f),(12,g),(13,h),(16,i),(19,j)] := by intros; rfl
 refine R_nil (tr ..) ?_; clear tr
 refine then_n ?_
 refine at_seq rfl ?_
 refine rg rfl ?_
 refine Rq ?_
 refine Rcall ?_
 refine ACall_eq (isnan _ _ _) ?_
 refine Rq ?_
 have tr : ∀ a b c d e f g h i j k m n : AV, let l := lc_cmp_ok a b c d e f g h i j; trim ((5,n)::(8,m)::(7,k)::l) l = [(0,a),(1,b),(4,c),(5,n),(6,e),(11,f),(12,g),(13,h),(16,i),(19,j)] := by intros; rfl
 refine R_nil (tr ..) ?_; clear tr
 refine then_n ?_
 refine at_seq rfl ?_
 refine rg rfl ?_
 refine Rq ?_
 refine Rcall ?_
 refine ACall_eq (isnan _ _ _) ?_
 refine Rq ?_
 have tr : ∀ a b c d e f g h i j k m n : AV, let l := lc_cmp_ok a b c d e f g h i j; trim ((6,n)::(10,m)::(9,k)::l) l = [(0,a),(1,b),(4,c),(5,d),(6,n),(11,f),(12,g),(13,h),(16,i),(19,j)] := by intros; rfl
 refine R_nil (tr ..) ?_; clear tr
 refine then_n ?_
 refine at_seq rfl ?_
 refine at_seq rfl ?_
 refine rg rfl ?_
 refine Rq ?_
 have tr : ∀ a b c d e f g h i j k : AV, let l := lc_cmp_ok a b c d e f g h i j; trim ((11,k)::l) l = [(0,a),(1,b),(4,c),(5,d),(6,e),(11,k),(12,g),(13,h),(16,i),(19,j)] := by intros; rfl
 refine R_nil (tr ..) ?_; clear tr
 refine then_n ?_
 refine cdf ?_
 refine at_skip rfl ?_
 refine then_n ?_
 refine at_seq rfl ?_
 refine at_seq rfl ?_
 refine rg rfl ?_
 refine Rq ?_
 have tr : ∀ a b c d e f g h i j k : AV, let l := lc_cmp_ok a b c d e f g h i j; trim ((13,k)::l) l = [(0,a),(1,b),(4,c),(5,d),(6,e),(11,f),(12,g),(13,k),(16,i),(19,j)] := by intros; rfl
 refine R_nil (tr ..) ?_; clear tr
 refine then_n ?_
 refine cdf ?_
 refine at_skip rfl ?_
 refine then_n ?_
 refine at_seq rfl ?_
 refine at_seq rfl ?_
 refine rg rfl ?_
 refine Rq ?_
 refine Rq ?_
 refine Rq ?_
 have tr : ∀ a b c d e f g h i j k m n : AV, let l := lc_cmp_ok a b c d e f g h i j; trim ((16,n)::(15,m)::(14,k)::l) l = [(0,a),(1,b),(4,c),(5,d),(6,e),(11,f),(12,g),(13,h),(16,n),(19,j)] := by intros; rfl
 refine R_nil (tr ..) ?_; clear tr
 refine then_n ?_
 refine cdd (fun h1 => ?_) (fun h1 => ?_)
 ·
  try simp only [decide_eq_true_eq, decide_eq_false_iff_not, Bool.not_eq_true', Bool.not_eq_false', beq_iff_eq, beq_eq_false_iff_ne, ne_eq] at h1
  refine at_seq rfl ?_
  refine rg rfl ?_
  refine Rq ?_
  have tr : ∀ a b c d e f g h i j k : AV, let l := lc_cmp_ok a b c d e f g h i j; trim ((4,k)::l) l = [(0,a),(1,b),(4,k),(5,d),(6,e),(11,f),(12,g),(13,h),(16,i),(19,j)] := by intros; rfl
  refine R_nil (tr ..) ?_; clear tr
  refine then_n ?_
  refine at_ret rfl ?_
  refine then_r ?_
  refine fpure ?_
  refine ⟨?_, rfl⟩
  first | (rw [if_pos (by omega)]; done) | (rw [if_neg (by omega), if_pos (by omega)]; done) | (rw [if_neg (by omega), if_neg (by omega)]; done)
 ·
  try simp only [decide_eq_true_eq, decide_eq_false_iff_not, Bool.not_eq_true', Bool.not_eq_false', beq_iff_eq, beq_eq_false_iff_ne, ne_eq] at h1
  refine at_skip rfl ?_
  refine then_n ?_
  refine at_seq rfl ?_
  refine at_seq rfl ?_
  refine rg rfl ?_
  refine Rq ?_
  refine Rq ?_
  refine Rq ?_
  have tr : ∀ a b c d e f g h i j k m n : AV, let l := lc_cmp_ok a b c d e f g h i j; trim ((19,n)::(18,m)::(17,k)::l) l = [(0,a),(1,b),(4,c),(5,d),(6,e),(11,f),(12,g),(13,h),(16,i),(19,n)] := by intros; rfl
  refine R_nil (tr ..) ?_; clear tr
  refine then_n ?_
  refine cdd (fun h2 => ?_) (fun h2 => ?_)
  ·
   try simp only [decide_eq_true_eq, decide_eq_false_iff_not, Bool.not_eq_true', Bool.not_eq_false', beq_iff_eq, beq_eq_false_iff_ne, ne_eq] at h2
   refine at_seq rfl ?_
   refine rg rfl ?_
   refine Rq ?_
   have tr : ∀ a b c d e f g h i j k : AV, let l := lc_cmp_ok a b c d e f g h i j; trim ((4,k)::l) l = [(0,a),(1,b),(4,k),(5,d),(6,e),(11,f),(12,g),(13,h),(16,i),(19,j)] := by intros; rfl
   refine R_nil (tr ..) ?_; clear tr
   refine then_n ?_
   refine at_ret rfl ?_
   refine then_r ?_
   refine fpure ?_
   refine ⟨?_, rfl⟩
   first | (rw [if_pos (by omega)]; done) | (rw [if_neg (by omega), if_pos (by omega)]; done) | (rw [if_neg (by omega), if_neg (by omega)]; done)
  ·
   try simp only [decide_eq_true_eq, decide_eq_false_iff_not, Bool.not_eq_true', Bool.not_eq_false', beq_iff_eq, beq_eq_false_iff_ne, ne_eq] at h2
   refine at_skip rfl ?_
   refine then_n ?_
   refine at_seq rfl ?_
   refine rg rfl ?_
   refine Rq ?_
   have tr : ∀ a b c d e f g h i j k : AV, let l := lc_cmp_ok a b c d e f g h i j; trim ((4,k)::l) l = [(0,a),(1,b),(4,k),(5,d),(6,e),(11,f),(12,g),(13,h),(16,i),(19,j)] := by intros; rfl
   refine R_nil (tr ..) ?_; clear tr
   refine then_n ?_
   refine at_ret rfl ?_
   refine fpure ?_
   refine ⟨?_, rfl⟩
   first | (rw [if_pos (by omega)]; done) | (rw [if_neg (by omega), if_pos (by omega)]; done) | (rw [if_neg (by omega), if_neg (by omega)]; done)

abbrev lc_order_ok (a b c d e f g h : AV) : Env := [(0,a),(1,b),(2,c),(3,d),(4,e),(5,f),(16,g),(22,h)]
theorem order_ok (lim : Nat) (H : Heap) (a b : Oc) : ACall sig lim 36 [.agg (ocC a), .agg (ocC b)] H fun r H' => r = AV.i (cmO a b) ∧ H' = H := by
 refine ACall_pure (fa := fa36) rfl rfl rfl rfl ?_
 have tr : ∀ a0 a1 : AV, env0 fa36.keep [a0, a1] = [(0,a0),(1,a1),(2,.any),(3,.any),(4,.any),(5,.any),(16,.any),(22,.any)] := fun a0 a1 => rfl
 refine W_to (tr _ _) ?_; clear tr
 refine at_seq rfl ?_
 refine rg rfl ?_
 refine R_box rfl (by simp (disch := first | omega | (simp only [List.length_map, List.length_append, List.length_set, List.length_cons, List.length_nil]; omega)) only [go_sem, ↓reduceIte, Nat.reduceEqDiff, reduceCtorEq] <;> rfl) rfl rfl ?_
 refine R_box rfl (by simp (disch := first | omega | (simp only [List.length_map, List.length_append, List.length_set, List.length_cons, List.length_nil]; omega)) only [go_sem, ↓reduceIte, Nat.reduceEqDiff, reduceCtorEq] <;> rfl) rfl rfl ?_
 refine Rq ?_
 have tr : ∀ a b c d e f g h i j k : AV, let l := lc_order_ok a b c d e f g h; trim ((4,k)::(3,j)::(2,i)::l) l = [(0,a),(1,b),(2,i),(3,j),(4,k),(5,f),(16,g),(22,h)] := by intros; rfl
 refine R_nil (tr ..) ?_; clear tr
 refine then_n ?_
 refine at_seq rfl ?_
 refine at_block rfl ?_
 refine at_seq rfl ?_
 refine rg rfl ?_
 refine Rq ?_
 refine Rq ?_
 refine Rq ?_
 refine Rq ?_
 refine Rq ?_
 refine Rq ?_
 have tr : ∀ a b c d e f g h i j k m n o : AV, let l := lc_order_ok a b c d e f g h; trim ((5,o)::(10,n)::(9,m)::(8,k)::(7,j)::(6,i)::l) l = [(0,a),(1,b),(2,c),(3,d),(4,e),(5,o),(16,g),(22,h)] := by intros; rfl
 refine R_nil (tr ..) ?_; clear tr
 refine then_n ?_
 refine cdd (fun h1 => ?_) (fun h1 => ?_)
 ·
  try simp only [decide_eq_true_eq, decide_eq_false_iff_not, Bool.not_eq_true', Bool.not_eq_false', beq_iff_eq, beq_eq_false_iff_ne, ne_eq] at h1
  refine at_seq rfl ?_
  refine rg rfl ?_
  refine Rq ?_
  refine Rq ?_
  refine Rq ?_
  refine Rq ?_
  refine Rcall ?_
  refine ACall_eq (cmp_ok _ _ _ _) ?_
  refine Rq ?_
  have tr : ∀ a b c d e f g h i j k m n o : AV, let l := lc_order_ok a b c d e f g h; trim ((4,o)::(15,n)::(14,m)::(13,k)::(12,j)::(11,i)::l) l = [(0,a),(1,b),(2,c),(3,d),(4,o),(5,f),(16,g),(22,h)] := by intros; rfl
  refine R_nil (tr ..) ?_; clear tr
  refine then_n ?_
  refine at_ret rfl ?_
  refine blk_r ?_
  refine then_r ?_
  refine fpure ?_
  refine ⟨?_, rfl⟩
  first | exact cmO_ne (by assumption) | (rw [cmO, if_neg (by omega), if_pos (by simp_all)]; done) | (rw [cmO, if_neg (by omega), if_neg (by simp_all), if_pos (by simp_all)]; done) | (rw [cmO, if_neg (by omega), if_neg (by simp_all), if_neg (by simp_all)]; done)
 ·
  try simp only [decide_eq_true_eq, decide_eq_false_iff_not, Bool.not_eq_true', Bool.not_eq_false', beq_iff_eq, beq_eq_false_iff_ne, ne_eq] at h1
  refine at_seq rfl ?_
  refine rg rfl ?_
  refine Rq ?_
  refine Rq ?_
  refine Rq ?_
  refine Rq ?_
  refine Rq ?_
  refine Rq ?_
  have tr : ∀ a b c d e f g h i j k m n o : AV, let l := lc_order_ok a b c d e f g h; trim ((16,o)::(21,n)::(20,m)::(19,k)::(18,j)::(17,i)::l) l = [(0,a),(1,b),(2,c),(3,d),(4,e),(5,f),(16,o),(22,h)] := by intros; rfl
  refine R_nil (tr ..) ?_; clear tr
  refine then_n ?_
  refine cdd (fun h2 => ?_) (fun h2 => ?_)
  ·
   try simp only [decide_eq_true_eq, decide_eq_false_iff_not, Bool.not_eq_true', Bool.not_eq_false', beq_iff_eq, beq_eq_false_iff_ne, ne_eq] at h2
   refine at_seq rfl ?_
   refine rg rfl ?_
   refine Rq ?_
   have tr : ∀ a b c d e f g h i : AV, let l := lc_order_ok a b c d e f g h; trim ((4,i)::l) l = [(0,a),(1,b),(2,c),(3,d),(4,i),(5,f),(16,g),(22,h)] := by intros; rfl
   refine R_nil (tr ..) ?_; clear tr
   refine then_n ?_
   refine at_ret rfl ?_
   refine blk_r ?_
   refine then_r ?_
   refine fpure ?_
   refine ⟨?_, rfl⟩
   first | exact cmO_ne (by assumption) | (rw [cmO, if_neg (by omega), if_pos (by simp_all)]; done) | (rw [cmO, if_neg (by omega), if_neg (by simp_all), if_pos (by simp_all)]; done) | (rw [cmO, if_neg (by omega), if_neg (by simp_all), if_neg (by simp_all)]; done)
  ·
   try simp only [decide_eq_true_eq, decide_eq_false_iff_not, Bool.not_eq_true', Bool.not_eq_false', beq_iff_eq, beq_eq_false_iff_ne, ne_eq] at h2
   refine at_seq rfl ?_
   refine rg rfl ?_
   refine Rq ?_
   refine Rq ?_
   refine Rq ?_
   have tr : ∀ a b c d e f g h i j k : AV, let l := lc_order_ok a b c d e f g h; trim ((22,k)::(24,j)::(23,i)::l) l = [(0,a),(1,b),(2,c),(3,d),(4,e),(5,f),(16,g),(22,k)] := by intros; rfl
   refine R_nil (tr ..) ?_; clear tr
   refine then_n ?_
   refine cdd (fun h3 => ?_) (fun h3 => ?_)
   ·
    try simp only [decide_eq_true_eq, decide_eq_false_iff_not, Bool.not_eq_true', Bool.not_eq_false', beq_iff_eq, beq_eq_false_iff_ne, ne_eq] at h3
    refine at_seq rfl ?_
    refine rg rfl ?_
    refine Rq ?_
    have tr : ∀ a b c d e f g h i : AV, let l := lc_order_ok a b c d e f g h; trim ((4,i)::l) l = [(0,a),(1,b),(2,c),(3,d),(4,i),(5,f),(16,g),(22,h)] := by intros; rfl
    refine R_nil (tr ..) ?_; clear tr
    refine then_n ?_
    refine at_ret rfl ?_
    refine blk_r ?_
    refine then_r ?_
    refine fpure ?_
    refine ⟨?_, rfl⟩
    first | exact cmO_ne (by assumption) | (rw [cmO, if_neg (by omega), if_pos (by simp_all)]; done) | (rw [cmO, if_neg (by omega), if_neg (by simp_all), if_pos (by simp_all)]; done) | (rw [cmO, if_neg (by omega), if_neg (by simp_all), if_neg (by simp_all)]; done)
   ·
    try simp only [decide_eq_true_eq, decide_eq_false_iff_not, Bool.not_eq_true', Bool.not_eq_false', beq_iff_eq, beq_eq_false_iff_ne, ne_eq] at h3
    refine at_skip rfl ?_
    refine blk_n ?_
    refine then_n ?_
    refine at_seq rfl ?_
    refine rg rfl ?_
    refine Rq ?_
    have tr : ∀ a b c d e f g h i : AV, let l := lc_order_ok a b c d e f g h; trim ((4,i)::l) l = [(0,a),(1,b),(2,c),(3,d),(4,i),(5,f),(16,g),(22,h)] := by intros; rfl
    refine R_nil (tr ..) ?_; clear tr
    refine then_n ?_
    refine at_ret rfl ?_
    refine fpure ?_
    refine ⟨?_, rfl⟩
    first | exact cmO_ne (by assumption) | (rw [cmO, if_neg (by omega), if_pos (by simp_all)]; done) | (rw [cmO, if_neg (by omega), if_neg (by simp_all), if_pos (by simp_all)]; done) | (rw [cmO, if_neg (by omega), if_neg (by simp_all), if_neg (by simp_all)]; done)

end Go.Proofs.Ytplockpopmaejaa.C
end
section
set_option linter.unusedVariables false
namespace Go.Proofs.Ytplockpopmaejaa
open Go Go.Am Go.Sort Go.RowKit
def encO (o : Oc) : List Value := [.int .i64 o.r, .bool o.k, .int .i64 o.w]
theorem lt_iff (x y : Oc) : ltOf cmO x y = true ↔ ltO x y := by
  unfold ltOf
  rw [decide_eq_true_iff]
  constructor
  · exact cmO_neg
  · intro h
    have := mt (cmO_lt x y).1 (fun hh => hh h)
    omega
theorem lt_not (x y : Oc) : ltOf cmO x y = false ↔ ¬ ltO x y := by
  rw [← lt_iff]; simp
theorem ltO_trans {x y z : Oc} (h1 : ltO x y) (h2 : ltO y z) : ltO x z := by
  unfold ltO at *
  rcases h1 with h1 | ⟨h1, h3, h4⟩ <;> rcases h2 with h2 | ⟨h2, h5, h6⟩
  · left; omega
  · left; omega
  · left; omega
  · simp_all
theorem ltO_irr (x : Oc) : ¬ ltO x x := by
  unfold ltO
  intro h
  rcases h with h | ⟨_, h1, h2⟩
  · omega
  · simp_all
theorem ltO_nt {x y z : Oc} (h1 : ¬ ltO x y) (h2 : ¬ ltO y z) : ¬ ltO x z := by
  unfold ltO at *
  intro h
  have a1 : ¬ x.r < y.r := fun h => h1 (.inl h)
  have a2 : ¬ y.r < z.r := fun h => h2 (.inl h)
  rcases h with h | ⟨h, h3, h4⟩
  · omega
  · have e1 : x.r = y.r := by omega
    have e2 : y.r = z.r := by omega
    cases hy : y.k
    · exact h2 (.inr ⟨e2, hy, h4⟩)
    · exact h1 (.inr ⟨e1, h3, hy⟩)
theorem swoO : SWO (ltOf cmO) where
  irrefl x := by rw [lt_not]; exact ltO_irr x
  trans x y z h1 h2 := by rw [lt_iff] at *; exact ltO_trans h1 h2
  ntrans x y z h1 h2 := by rw [lt_not] at *; exact ltO_nt h1 h2
theorem pw_tri {l : List Oc} (h : l.Pairwise ltO) {x y : Oc} (hx : x ∈ l) (hy : y ∈ l) (h1 : ¬ ltO x y) (h2 : ¬ ltO y x) : x = y := by
  induction l with
  | nil => cases hx
  | cons a r ih =>
    rw [List.pairwise_cons] at h
    rcases List.mem_cons.mp hx with e1 | e1 <;> rcases List.mem_cons.mp hy with e2 | e2
    · rw [e1, e2]
    · subst e1; exact absurd (h.1 y e2) h1
    · subst e2; exact absurd (h.1 x e1) h2
    · exact ih h.2 e1 e2
theorem sort_id {l l' : List Oc} (hp : l'.Perm l) (hs : l'.Pairwise (fun x y => ¬ ltO y x)) (hl : l.Pairwise ltO) : l' = l := by
  refine List.Perm.eq_of_pairwise (le := fun x y => ¬ ltO y x) (fun a b ha hb h1 h2 => ?_) hs (hl.imp fun h hh => ltO_irr _ (ltO_trans h hh)) hp
  exact pw_tri hl (hp.mem_iff.mp ha) hb h2 h1
theorem sorted_is {d d' : Array Oc} (hp : PermIn 0 d.size d d') (hs : SortedIn (ltOf cmO) 0 d.size d') (hl : d.toList.Pairwise ltO) : d'.toList = d.toList := by
  obtain ⟨h1, _, h2⟩ := hp
  have e1 : d'.extract 0 d.size = d' := by rw [← h1]; simp
  have e2 : d.extract 0 d.size = d := by simp
  rw [e1, e2] at h2
  refine sort_id h2 ?_ hl
  rw [List.pairwise_iff_getElem]
  intro i j hi hj hij
  have hi' : i < d'.size := by simpa using hi
  have hj' : j < d'.size := by simpa using hj
  have := hs i j (Nat.zero_le _) hij (by omega)
  rw [lt_not, getElem!_pos d' i hi', getElem!_pos d' j hj'] at this
  simpa using this
theorem bel_grow {w w' : World} (h : Bel w.heap.size w w') : ∃ q os', w' = grow (w.drewN q) os' := by
  refine ⟨w'.drawn - w.drawn, w'.heap.extract w.heap.size w'.heap.size, ?_⟩
  have h1 := h.tape.2 trivial
  have h2 : w'.heap = w.heap ++ w'.heap.extract w.heap.size w'.heap.size := by
    apply Array.ext_getElem?
    intro k
    by_cases hk : k < w.heap.size
    · rw [h.block k hk, Array.getElem?_append_left hk]
    · rw [Array.getElem?_append_right (by omega), Array.getElem?_extract]
      have := h.size
      by_cases hk' : k < w'.heap.size
      · rw [if_pos (by omega)]
        congr 1
        omega
      · rw [if_neg (by omega), Array.getElem?_eq_none (by omega)]
  obtain ⟨hp', tp', dr', os', out'⟩ := w'
  obtain ⟨hp, tp, dr, os, out⟩ := w
  have e1 := h.os
  have e2 := h.tape.1
  have e3 := h.output
  simp only at e1 e2 e3 h1 h2
  subst e1 e2 e3
  simp only [grow, World.drewN, World.mk.injEq]
  exact ⟨h2, trivial, by omega, trivial, trivial⟩
theorem den_oc {φ : Phi} {I : Nat → Prop} {w : World} (z : Oc) : Den φ I w (.agg (ocC z)) (.agg (encO z).toArray) :=
  .agg _ _ rfl (fun j x y hx hy => (DL.vs (φ := φ) (I := I) (w := w) (encO z)).2 j x y hx hy)
theorem cmp_calls (y z : Oc) (W : World) (hT : ∀ w1 : World, (∀ k, k < W.heap.size → w1.heap[k]? = W.heap[k]?) → Tb w1) :
    Calls Try.prog 36 #[.agg (encO y).toArray, .agg (encO z).toArray] W fun e w' => e = .returned (.int .i64 (cmO y z)) ∧ ∃ q os', w' = grow (W.drewN q) os' := by
  obtain ⟨n, r, H', h, hr, _⟩ := C.order_ok 0 [] y z
  have hD : DL [] (fun k => k < W.heap.size) W [.agg (ocC y), .agg (ocC z)] #[.agg (encO y).toArray, .agg (encO z).toArray] := by
    refine ⟨rfl, fun j a b ha hb => ?_⟩
    match j, ha, hb with
    | 0, ha, hb => cases ha; cases hb; exact den_oc y
    | 1, ha, hb => cases ha; cases hb; exact den_oc z
  refine (calls_of_acall' C.sig_ok rfl h hD hT).mono ?_
  rintro e w' ⟨x, I', rfl, hx, hb⟩
  subst hr
  exact ⟨congrArg Ending.returned (den_v hx), bel_grow hb⟩
theorem cmp_lays (blk off size : Nat) (w : World) (hT : ∀ (m : Nat) (os : Array Obj) (dk : Array Oc) (w1 : World), (∀ k, k < (sortWorldK encO 3 w blk off m dk os).heap.size → w1.heap[k]? = (sortWorldK encO 3 w blk off m dk os).heap[k]?) → Tb w1) : CmpLays Try.prog 36 #[] encO 3 cmO blk off size w :=
  fun m os dk _ x y => cmp_calls x y _ (hT m os dk)
def rdO : List AV → Option (List Oc)
  | [] => some []
  | .v (.int .i64 a) :: .v (.bool k) :: .v (.int .i64 c) :: r => (rdO r).map (⟨a, k, c⟩ :: ·)
  | _ => none
theorem rdO_eq : ∀ (n : Nat) (l : List AV), l.length ≤ n → ∀ ps, rdO l = some ps → l = flatO ps
  | _, [], _, ps, h => by cases h; rfl
  | 0, a :: r, hn, ps, h => by simp at hn
  | n + 1, a :: r, hn, ps, h => by
    unfold rdO at h
    split at h
    · rename_i e; cases e
    · rename_i a k c r' e
      cases hr : rdO r' with
      | none => rw [hr] at h; cases h
      | some qs =>
        rw [hr] at h
        cases h
        rw [e] at hn ⊢
        rw [rdO_eq n r' (by simp at hn; omega) qs hr]
        rfl
    · cases h
theorem rdO_flat : ∀ ps, rdO (flatO ps) = some ps
  | [] => rfl
  | z :: r => by
    show (rdO (flatO r)).map _ = _
    rw [rdO_flat r]; rfl
def flatV (ps : List Oc) : List Value := (ps.map encO).flatten
theorem flatO_v : ∀ ps, flatO ps = (flatV ps).map .v
  | [] => rfl
  | z :: r => by
    have := flatO_v r
    simp only [flatO, flatV, List.map_cons, List.flatten_cons, List.map_append] at this ⊢
    rw [this]
    rfl
theorem flatV_len : ∀ ps, (flatV ps).length = ps.length * 3
  | [] => rfl
  | z :: r => by
    have := flatV_len r
    simp only [flatV, List.map_cons, List.flatten_cons, List.length_append, List.length_cons] at this ⊢
    rw [this]
    simp [encO]
    omega
theorem flatV_get : ∀ (ps : List Oc) (j : Nat), j < ps.length * 3 → (flatV ps)[j]? = some ((encO ps[j / 3]!)[j % 3]!)
  | [], j, h => by simp at h
  | z :: r, j, h => by
    show (encO z ++ flatV r)[j]? = _
    by_cases hj : j < 3
    · rw [List.getElem?_append_left (by simp [encO]; omega), show j / 3 = 0 by omega, show j % 3 = j by omega]
      rw [List.getElem?_eq_getElem (by simp [encO]; omega)]
      show _ = some ((encO z)[j]!)
      rw [getElem!_pos (encO z) j (by simp [encO]; omega)]
    · obtain ⟨k, rfl⟩ : ∃ k, j = k + 3 := ⟨j - 3, by omega⟩
      rw [List.getElem?_append_right (by simp [encO]), show k + 3 - (encO z).length = k by simp [encO], flatV_get r k (by simp at h; omega), show (k + 3) / 3 = k / 3 + 1 by omega, show (k + 3) % 3 = k % 3 by omega]
      rfl
theorem flatK_get {ps : List Oc} {d : Array Oc} (hd : d.toList = ps) {j : Nat} (h : j < ps.length * 3) : (flatV ps)[j]? = some ((flatK encO 3 d)[j]!) := by
  subst hd
  rw [flatV_get _ j h, get_flatK encO 3 d j (by simpa using h)]
  have : j / 3 < d.size := by have : j < d.size * 3 := (by simpa using h); omega
  rw [getElem!_pos d.toList (j / 3) (by simpa using this), getElem!_pos d (j / 3) this]
  simp
section
variable {φ : Phi} {I : Nat → Prop} {w : World} {lim : Nat} {H : Heap}
theorem frz_none {k : Nat} {C : Array Value} {T : TypeId} (h : w.heap[k]? = some (.cells C T (0, 0))) (o : Nat) : w.frozen? ⟨k, o, none⟩ = false := by
  unfold World.frozen?
  simp [h]
theorem holds_of {L : Am.Loc} {C : Array Value} {T : TypeId} {ps : List Oc} {d : Array Oc} (hd : d.toList = ps) (hC : w.heap[L.k]? = some (.cells C T (0, 0))) (hO : CellsOK φ I w C L.base (flatO ps)) : HoldsK encO 3 w L.k L.base d := by
  intro j hj
  have hj' : j < ps.length * 3 := by rw [size_flatK] at hj; subst hd; simpa using hj
  refine ⟨?_, frz_none hC _⟩
  have h1 := flatK_get hd hj'
  obtain ⟨y, e1, e2⟩ := hO.2 j (.v (flatK encO 3 d)[j]!) (by rw [flatO_v, List.getElem?_map, h1]; rfl)
  have := den_v e2
  subst this
  unfold World.cell?
  simp only [hC]
  rw [if_neg (by simp), e1]
  rfl
theorem sw_other {blk off m : Nat} {dk : Array Oc} {os : Array Obj} {k : Nat} (hk : k ≠ blk) (hlt : k < w.heap.size) : (sortWorldK encO 3 w blk off m dk os).heap[k]? = w.heap[k]? := by
  show ((putRowK encO 3 (Sort.ahead w m) blk off dk).heap ++ os)[k]? = _
  rw [Array.getElem?_append_left (by show k < (putRow id (Sort.ahead w m) blk off (flatK encO 3 dk)).heap.size; rw [size_putRow]; exact hlt)]
  show (w.heap.modify blk _)[k]? = _
  rw [Array.getElem?_modify, if_neg (fun h => hk h.symm)]
theorem wrote_row [Dn] {blk off m : Nat} {d : Array Oc} {C : Array Value} {T : TypeId} (hC : w.heap[blk]? = some (.cells C T (0, 0))) : Wrote w (putRowK encO 3 (Sort.ahead w m) blk off d) blk (putCells id off (flatK encO 3 d) C) T where
  new := by
    show (w.heap.modify blk _)[blk]? = _
    rw [Array.getElem?_modify, if_pos rfl, hC]
    rfl
  other := fun i hi => by
    show (w.heap.modify blk _)[i]? = _
    rw [Array.getElem?_modify, if_neg (fun h => hi h.symm)]
  size := by show (w.heap.modify blk _).size = _; simp
  os := rfl
  tape := ⟨rfl, fun _ => Nat.le_add_right _ _⟩
  output := rfl
theorem put_cells {L : Am.Loc} {C : Array Value} {ps : List Oc} {d : Array Oc} (hd : d.toList = ps) (hs : L.base + ps.length * 3 ≤ C.size) : CellsOK φ I w (putCells id L.base (flatK encO 3 d) C) L.base (flatO ps) := by
  have hz : (flatK encO 3 d).size = ps.length * 3 := by rw [size_flatK, ← hd]; simp
  refine ⟨by rw [flatO_len]; simp [putCells]; omega, fun j x hx => ?_⟩
  have hj : j < ps.length * 3 := by
    have := (List.getElem?_eq_some_iff.1 hx).1
    rwa [flatO_len] at this
  have h1 := flatK_get hd hj
  rw [flatO_v, List.getElem?_map, h1] at hx
  cases hx
  refine ⟨_, ?_, .v _⟩
  simp only [putCells, Array.getElem?_mapIdx]
  rw [Array.getElem?_eq_getElem (by omega), Option.map_some, if_pos ⟨by omega, by omega⟩, show L.base + j - L.base = j by omega]
  rfl
theorem sorted_rel [Dn] (hR : Rel lim φ I w H) {b : Nat} {ps : List Oc} (hb : hget H b = some (flatO ps)) {L : Am.Loc} (hL : φ[b]? = some (some L)) (hlim : lim ≤ b) {C : Array Value} {T : TypeId} (hC : w.heap[L.k]? = some (.cells C T (0, 0))) (hS : C.size = L.S) (hO : CellsOK φ I w C L.base (flatO ps))
    {q : Nat} {d' : Array Oc} {os : Array Obj} (hd : d'.toList = ps) : Rel lim φ I (sortWorldK encO 3 w L.k L.base q d' os) (hset H b (some (flatO ps))) ∧ Ext lim φ I w φ I (sortWorldK encO 3 w L.k L.base q d' os) := by
  have hw := wrote_row (m := q) (off := L.base) (d := d') hC
  have h0 := hO.1
  rw [flatO_len] at h0
  have r1 := write_sound hR hb hL hlim hw (by simp [putCells, hS]) (put_cells (φ := φ) (I := I) (w := w) hd h0)
  have e1 := Wrote.ext hR hb hL hlim hw
  have hb2 : Bel (putRowK encO 3 (Sort.ahead w q) L.k L.base d').heap.size (putRowK encO 3 (Sort.ahead w q) L.k L.base d') (sortWorldK encO 3 w L.k L.base q d' os) :=
    ⟨rfl, ⟨rfl, fun _ => Nat.le_refl _⟩, rfl, by show _ ≤ (_ ++ os).size; simp, fun j hj => by show (_ ++ os)[j]? = _; rw [Array.getElem?_append_left hj]⟩
  refine ⟨r1.down hb2, e1.trans ⟨List.prefix_refl _, fun _ h => h, fun k hk _ => hb2.block k hk, fun c M _ hM => hb2.block _ (r1.disj c M hM).2, fun c M hM => .inr ⟨c, M, hM, rfl⟩, hb2.os, hb2.tape, hb2.output, hb2.size⟩⟩
end
end Go.Proofs.Ytplockpopmaejaa
end
section
namespace Go.Proofs
open Go.Shelf
def Try.sortSt_ren : Go.Shelf.Ren := ⟨fun | 6 => 49 | 15 => 52 | 14 => 51 | 28 => 61 | 29 => 62 | 20 => 53 | 21 => 54 | 22 => 55 | 23 => 56 | 24 => 57 | 25 => 58 | 26 => 59 | 27 => 60 | 46 => 63 | 47 => 64 | 48 => 65 | 49 => 66 | 50 => 67 | 57 => 68 | n => n, fun | 22 => 29 | 24 => 68 | 25 => 73 | 3 => 3 | 39 => 91 | 0 => 0 | 53 => 101 | 55 => 103 | 4 => 4 | 46 => 94 | 45 => 93 | 50 => 98 | 5 => 5 | 9 => 9 | 66 => 104 | 70 => 108 | 76 => 110 | 77 => 111 | n => n, fun | n => n⟩
theorem Try.sortSt : Go.Proofs.SlLaysF0.n6 Try.prog Try.sortSt_ren := {
  mixed := by kernel_rfl
  f6 := ⟨Try.f49.name, by decide, Try.func49.trans (congrArg some (by kernel_rfl))⟩
  f14 := ⟨Try.f51.name, by decide, Try.func51.trans (congrArg some (by kernel_rfl))⟩
  f15 := Try.func52.trans (congrArg some (by kernel_rfl))
  f20 := ⟨Try.f53.name, by decide, Try.func53.trans (congrArg some (by kernel_rfl))⟩
  f21 := ⟨Try.f54.name, by decide, Try.func54.trans (congrArg some (by kernel_rfl))⟩
  f22 := ⟨Try.f55.name, by decide, Try.func55.trans (congrArg some (by kernel_rfl))⟩
  f23 := ⟨Try.f56.name, by decide, Try.func56.trans (congrArg some (by kernel_rfl))⟩
  f24 := ⟨Try.f57.name, by decide, Try.func57.trans (congrArg some (by kernel_rfl))⟩
  f25 := ⟨Try.f58.name, by decide, Try.func58.trans (congrArg some (by kernel_rfl))⟩
  f26 := ⟨Try.f59.name, by decide, Try.func59.trans (congrArg some (by kernel_rfl))⟩
  f27 := ⟨Try.f60.name, by decide, Try.func60.trans (congrArg some (by kernel_rfl))⟩
  f28 := Try.func61.trans (congrArg some (by kernel_rfl))
  f29 := Try.func62.trans (congrArg some (by kernel_rfl))
  f46 := ⟨Try.f63.name, by decide, Try.func63.trans (congrArg some (by kernel_rfl))⟩
  f47 := Try.func64.trans (congrArg some (by kernel_rfl))
  f48 := Try.func65.trans (congrArg some (by kernel_rfl))
  f49 := ⟨Try.f66.name, by decide, Try.func66.trans (congrArg some (by kernel_rfl))⟩
  f50 := ⟨Try.f67.name, by decide, Try.func67.trans (congrArg some (by kernel_rfl))⟩
  f57 := ⟨Try.f68.name, by decide, Try.func68.trans (congrArg some (by kernel_rfl))⟩
  t0 := Try.underlying0
  a0 := Try.isAgg0
  z0 := Try.sizeOf0
  v0 := Try.zeroValue0
  t3 := Try.underlying3
  a3 := Try.isAgg3
  z3 := Try.sizeOf3
  v3 := Try.zeroValue3
  t4 := Try.underlying4
  a4 := Try.isAgg4
  z4 := Try.sizeOf4
  v4 := Try.zeroValue4
  t5 := Try.underlying5
  a5 := Try.isAgg5
  z5 := Try.sizeOf5
  v5 := Try.zeroValue5
  t9 := Try.underlying9
  a9 := Try.isAgg9
  z9 := Try.sizeOf9
  v9 := Try.zeroValue9
  t22 := Try.underlying29
  a22 := Try.isAgg29
  z22 := Try.sizeOf29
  v22 := Try.zeroValue29
  t25 := Try.underlying73
  a25 := Try.isAgg73
  z25 := Try.sizeOf73
  v25 := Try.zeroValue73
  t39 := Try.underlying91
  a39 := Try.isAgg91
  z39 := Try.sizeOf91
  v39 := Try.zeroValue91
  t45 := Try.underlying93
  a45 := Try.isAgg93
  z45 := Try.sizeOf93
  v45 := Try.zeroValue93
  t46 := Try.underlying94
  a46 := Try.isAgg94
  z46 := Try.sizeOf94
  v46 := Try.zeroValue94
  t50 := Try.underlying98
  a50 := Try.isAgg98
  z50 := Try.sizeOf98
  v50 := Try.zeroValue98
  t53 := Try.underlying101
  a53 := Try.isAgg101
  z53 := Try.sizeOf101
  v53 := Try.zeroValue101
  t55 := Try.underlying103
  a55 := Try.isAgg103
  z55 := Try.sizeOf103
  v55 := Try.zeroValue103
  t66 := Try.underlying104
  a66 := Try.isAgg104
  z66 := Try.sizeOf104
  v66 := Try.zeroValue104
  t70 := Try.underlying108
  a70 := Try.isAgg108
  z70 := Try.sizeOf108
  v70 := Try.zeroValue108
  t76 := Try.underlying110
  a76 := Try.isAgg110
  z76 := Try.sizeOf110
  v76 := Try.zeroValue110
  t77 := Try.underlying111
  a77 := Try.isAgg111
  z77 := Try.sizeOf111
  v77 := Try.zeroValue111 }
end Go.Proofs
end
section
set_option linter.unusedVariables false
namespace Go.Proofs.Ytplockpopmaejaa
open Go Go.Am Go.RowKit Go.Sort
instance dnF : Dn := ⟨False⟩
def primF : FuncId → Option (List AV → Heap → Option AV) := fun _ => none
theorem prim_ok : ∀ f p, primF f = some p → ∀ args H r, p args H = some r → ∀ (lim : Nat) (φ : Phi) (I : Nat → Prop) (w : World) (cs : Array Value), Tb w → Rel lim φ I w H → DL φ I w args cs → CallW Try.prog f cs w (PurePost φ I w lim H r) := by
  intro f p h
  cases h
instance : DecidablePred fun ps : List Oc => ps.Pairwise ltO := fun ps => inferInstanceAs (Decidable (ps.Pairwise ltO))
/-- The library's sort with chance.order, of outcomes that already stand in their order, in memory of the call's own: it leaves them. -/
def sortV : Nat → List AV → Heap → Option (AV × Heap)
  | lim, [.own 3 b 0 n, .clo 36 []], H =>
    match hget H b with
    | some k =>
      match rdO k with
      | some ps => if lim ≤ b ∧ 1 ≤ n ∧ ps.length = n ∧ n ≤ 1000 ∧ ps.Pairwise ltO then some (.tup [], hset H b (some (flatO ps))) else none
      | none => none
    | none => none
  | _, _, _ => none
theorem sort_ok {lim b : Nat} {H : Heap} {ps : List Oc} (hb : hget H b = some (flatO ps)) (hlim : lim ≤ b) (h1 : 1 ≤ ps.length) (h2 : ps.length ≤ 1000) (hp : ps.Pairwise ltO) {n : Nat} (hn : n = ps.length) (hH : hset H b (some (flatO ps)) = H) :
    sortV lim [.own 3 b 0 n, .clo 36 []] H = some (.tup [], H) := by
  subst hn
  simp only [sortV, hb, rdO_flat]
  rw [if_pos ⟨hlim, h1, trivial, h2, hp⟩, hH]
def effF : FuncId → Option (Nat → List AV → Heap → Option (AV × Heap))
  | 49 => some sortV
  | _ => none
theorem named49 : Named Try.prog 49 := ⟨Try.f49, Try.func49, by kernel_rfl, by kernel_rfl⟩
theorem named36 : Named Try.prog 36 := ⟨Try.f36, Try.func36, by kernel_rfl, by kernel_rfl⟩
theorem den_nil {φ : Phi} {I : Nat → Prop} {w : World} : Den φ I w (.tup []) (.tuple #[]) := .tup _ _ rfl (fun j x y hx _ => by simp at hx)
theorem sort_calls {lim : Nat} {φ : Phi} {I : Nat → Prop} {w : World} {H : Heap} (hR : Rel lim φ I w H) {b n : Nat} {ps : List Oc} (hb : hget H b = some (flatO ps)) (hlim : lim ≤ b) (hn1 : 1 ≤ n) (hn : ps.length = n) (hn2 : n ≤ 1000) (hd : ps.Pairwise ltO)
    {cs : Array Value} (hD : DL φ I w [.own 3 b 0 n, .clo 36 []] cs) : Calls Try.prog 49 cs w (CallPost lim φ I w (hset H b (some (flatO ps))) (.tup [])) := by
  obtain ⟨l⟩ := cs
  have hl : l.length = 2 := by simpa using hD.1
  match l, hl, hD with
  | [x, y], _, hD =>
    have h0 := hD.2 0 _ x rfl rfl
    have h1 := hD.2 1 _ y rfl rfl
    cases h1 with
    | clo _ _ cs' hs' _ =>
      obtain rfl : cs' = #[] := by simpa using hs'
      cases h0 with
      | own0 => omega
      | own _ _ _ _ c off L hL hnc hc ho =>
        have ho2 : off = L.base ∧ off + c * 3 ≤ L.S := by rcases ho with h | h <;> omega
        obtain ⟨rfl, ho3⟩ := ho2
        rcases hR.blk b _ hb with ⟨h2, _⟩ | ⟨L', C, T, h2, hC, hS, hO⟩
        · rw [hL] at h2; cases h2
        · obtain rfl : L = L' := by rw [hL] at h2; cases h2; rfl
          have hdis := hR.disj b L hL
          have hH := holds_of (d := ps.toArray) (by simp) hC hO
          have hT : ∀ (m : Nat) (os : Array Obj) (dk : Array Oc) (w1 : World), (∀ k, k < (sortWorldK encO 3 w L.k L.base m dk os).heap.size → w1.heap[k]? = (sortWorldK encO 3 w L.k L.base m dk os).heap[k]?) → Tb w1 := by
            intro m os dk w1 hw1
            refine hR.tab w1 fun k hk => ?_
            have hlt := hR.Ilt k hk
            have hsz := size_sortWorldK_c encO 3 w L.k L.base m dk os
            rw [hw1 k (by omega), sw_other (fun e : k = L.k => hdis.1 (by rw [← e]; exact hk)) hlt]
          have hcon := AnyQ.slices_SortFunc Try.sortSt 3 (fun w => Go.Am.run_isAgg ty68 w) (fun w => Go.Am.run_sizeOf ty68 w) encO (fun _ => rfl) (fun x v hv => by simp [encO] at hv; rcases hv with rfl | rfl | rfl <;> rfl) cmO swoO 36 #[] L.k L.base c ps.toArray w (fun args w' => named_run named36 args w') (cmp_lays L.k L.base ps.toArray.size w hT) hH hdis.2 (by simp; omega)
          have e : #[Value.slice (some ⟨L.k, L.base, none⟩) n c, Value.func (.func 36) #[] #[]] = #[Value.slice (some ⟨L.k, L.base, none⟩) ps.toArray.size c, Value.func (.func 36) #[] #[]] := by simp [hn]
          rw [show (⟨[Value.slice (some ⟨L.k, L.base, none⟩) n c, Value.func (.func 36) #[] #[]]⟩ : Array Value) = #[Value.slice (some ⟨L.k, L.base, none⟩) ps.toArray.size c, Value.func (.func 36) #[] #[]] from e]
          refine Calls.mono (show Calls Try.prog 49 _ _ _ from hcon) ?_
          rintro e w' ⟨rfl, d', q, os, hp, hs, rfl⟩
          have hd' := sorted_is hp hs (by simpa using hd)
          obtain ⟨r1, e1⟩ := sorted_rel hR hb hL hlim hC hS hO (q := q) (os := os) (by simpa using hd')
          exact ⟨_, φ, I, rfl, den_nil, r1, e1⟩
theorem eff_ok : ∀ f p, effF f = some p → ∀ lim args H r H', p lim args H = some (r, H') → ∀ (φ : Phi) (I : Nat → Prop) (w : World) (cs : Array Value), Tb w → Rel lim φ I w H → DL φ I w args cs → Calls Try.prog f cs w (CallPost lim φ I w H' r) ∧ Named Try.prog f := by
  intro f p h lim args H r H' hr φ I w cs hT hR hD
  unfold effF at h
  split at h
  · cases h
    unfold sortV at hr
    split at hr
    · split at hr
      · rename_i hb
        split at hr
        · rename_i hps
          split at hr
          · rename_i hk
            obtain ⟨h1, h2, h3, h4, h5⟩ := hk
            cases hr
            exact ⟨sort_calls hR (by rw [hb, rdO_eq _ _ (Nat.le_refl _) _ hps]) h1 h2 h3 h4 h5 hD, named49⟩
          · cases hr
        · cases hr
      · cases hr
    · cases hr
  · cases h
end Go.Proofs.Ytplockpopmaejaa
end
section
set_option linter.unusedSimpArgs false
set_option linter.unusedVariables false
namespace Go.Proofs.Ytplockpopmaejaa
open Go Go.Am
noncomputable def fns : FuncId → Option FnA
  | 3 => some fa3
  | 4 => some fa4
  | 5 => some fa5
  | 6 => some fa6
  | 7 => some fa7
  | 8 => some fa8
  | 9 => some fa9
  | 10 => some fa10
  | 11 => some fa11
  | 12 => some fa12
  | 13 => some fa13
  | 14 => some fa14
  | 15 => some fa15
  | 16 => some fa16
  | 17 => some fa17
  | 18 => some fa18
  | 19 => some fa19
  | 20 => some fa20
  | 21 => some fa21
  | 22 => some fa22
  | 23 => some fa23
  | 24 => some fa24
  | 25 => some fa25
  | 26 => some fa26
  | 27 => some fa27
  | 28 => some fa28
  | 29 => some fa29
  | 30 => some fa30
  | 31 => some fa31
  | 32 => some fa32
  | 33 => some fa33
  | 34 => some fa34
  | 35 => some fa35
  | 36 => some fa36
  | 37 => some fa37
  | 38 => some fa38
  | 39 => some fa39
  | 40 => some fa40
  | 41 => some fa41
  | 42 => some fa42
  | 43 => some fa43
  | 44 => some fa44
  | 45 => some fa45
  | 46 => some fa46
  | 47 => some fa47
  | 48 => some fa48
  | 50 => some fa50
  | _ => none

noncomputable def sig : Sig := { P := Try.prog, fns := fns, prim := primF, own := fun f => f == 16 || f == 39 || f == 40 || f == 48 || f == 49, fz := fun f => f == 4, eff := effF }

theorem fnOK3 : FnOK Try.prog sig.pure 3 fa3 := ⟨Try.func3, by kernel_rfl, fun c hc => by cases hc; kernel_rfl⟩
theorem fnOK4 : FnOK Try.prog sig.pure 4 fa4 := ⟨Try.func4, by kernel_rfl, fun c hc => by cases hc; kernel_rfl⟩
theorem fnOK5 : FnOK Try.prog sig.pure 5 fa5 := ⟨Try.func5, by kernel_rfl, fun c hc => by cases hc; kernel_rfl⟩
theorem fnOK6 : FnOK Try.prog sig.pure 6 fa6 := ⟨Try.func6, by kernel_rfl, fun c hc => by cases hc; kernel_rfl⟩
theorem fnOK7 : FnOK Try.prog sig.pure 7 fa7 := ⟨Try.func7, by kernel_rfl, fun c hc => by cases hc; kernel_rfl⟩
theorem fnOK8 : FnOK Try.prog sig.pure 8 fa8 := ⟨Try.func8, by kernel_rfl, fun c hc => by cases hc; kernel_rfl⟩
theorem fnOK9 : FnOK Try.prog sig.pure 9 fa9 := ⟨Try.func9, by kernel_rfl, fun c hc => by cases hc; kernel_rfl⟩
theorem fnOK10 : FnOK Try.prog sig.pure 10 fa10 := ⟨Try.func10, by kernel_rfl, fun c hc => by cases hc; kernel_rfl⟩
theorem fnOK11 : FnOK Try.prog sig.pure 11 fa11 := ⟨Try.func11, by kernel_rfl, fun c hc => by cases hc; kernel_rfl⟩
theorem fnOK12 : FnOK Try.prog sig.pure 12 fa12 := ⟨Try.func12, by kernel_rfl, fun c hc => by cases hc; kernel_rfl⟩
theorem fnOK13 : FnOK Try.prog sig.pure 13 fa13 := ⟨Try.func13, by kernel_rfl, fun c hc => by cases hc; kernel_rfl⟩
theorem fnOK14 : FnOK Try.prog sig.pure 14 fa14 := ⟨Try.func14, by kernel_rfl, fun c hc => by cases hc; kernel_rfl⟩
theorem fnOK15 : FnOK Try.prog sig.pure 15 fa15 := ⟨Try.func15, by kernel_rfl, fun c hc => by cases hc; kernel_rfl⟩
theorem fnOK16 : FnOK Try.prog sig.pure 16 fa16 := ⟨Try.func16, by kernel_rfl, fun c hc => by cases hc; kernel_rfl⟩
theorem fnOK17 : FnOK Try.prog sig.pure 17 fa17 := ⟨Try.func17, by kernel_rfl, fun c hc => by cases hc; kernel_rfl⟩
theorem fnOK18 : FnOK Try.prog sig.pure 18 fa18 := ⟨Try.func18, by kernel_rfl, fun c hc => by cases hc; kernel_rfl⟩
theorem fnOK19 : FnOK Try.prog sig.pure 19 fa19 := ⟨Try.func19, by kernel_rfl, fun c hc => by cases hc; kernel_rfl⟩
theorem fnOK20 : FnOK Try.prog sig.pure 20 fa20 := ⟨Try.func20, by kernel_rfl, fun c hc => by cases hc; kernel_rfl⟩
theorem fnOK21 : FnOK Try.prog sig.pure 21 fa21 := ⟨Try.func21, by kernel_rfl, fun c hc => by cases hc; kernel_rfl⟩
theorem fnOK22 : FnOK Try.prog sig.pure 22 fa22 := ⟨Try.func22, by kernel_rfl, fun c hc => by cases hc; kernel_rfl⟩
theorem fnOK23 : FnOK Try.prog sig.pure 23 fa23 := ⟨Try.func23, by kernel_rfl, fun c hc => by cases hc; kernel_rfl⟩
theorem fnOK24 : FnOK Try.prog sig.pure 24 fa24 := ⟨Try.func24, by kernel_rfl, fun c hc => by cases hc; kernel_rfl⟩
theorem fnOK25 : FnOK Try.prog sig.pure 25 fa25 := ⟨Try.func25, by kernel_rfl, fun c hc => by cases hc; kernel_rfl⟩
theorem fnOK26 : FnOK Try.prog sig.pure 26 fa26 := ⟨Try.func26, by kernel_rfl, fun c hc => by cases hc; kernel_rfl⟩
theorem fnOK27 : FnOK Try.prog sig.pure 27 fa27 := ⟨Try.func27, by kernel_rfl, fun c hc => by cases hc; kernel_rfl⟩
theorem fnOK28 : FnOK Try.prog sig.pure 28 fa28 := ⟨Try.func28, by kernel_rfl, fun c hc => by cases hc; kernel_rfl⟩
theorem fnOK29 : FnOK Try.prog sig.pure 29 fa29 := ⟨Try.func29, by kernel_rfl, fun c hc => by cases hc; kernel_rfl⟩
theorem fnOK30 : FnOK Try.prog sig.pure 30 fa30 := ⟨Try.func30, by kernel_rfl, fun c hc => by cases hc; kernel_rfl⟩
theorem fnOK31 : FnOK Try.prog sig.pure 31 fa31 := ⟨Try.func31, by kernel_rfl, fun c hc => by cases hc; kernel_rfl⟩
theorem fnOK32 : FnOK Try.prog sig.pure 32 fa32 := ⟨Try.func32, by kernel_rfl, fun c hc => by cases hc; kernel_rfl⟩
theorem fnOK33 : FnOK Try.prog sig.pure 33 fa33 := ⟨Try.func33, by kernel_rfl, fun c hc => by cases hc; kernel_rfl⟩
theorem fnOK34 : FnOK Try.prog sig.pure 34 fa34 := ⟨Try.func34, by kernel_rfl, fun c hc => by cases hc; kernel_rfl⟩
theorem fnOK35 : FnOK Try.prog sig.pure 35 fa35 := ⟨Try.func35, by kernel_rfl, fun c hc => by cases hc; kernel_rfl⟩
theorem fnOK36 : FnOK Try.prog sig.pure 36 fa36 := ⟨Try.func36, by kernel_rfl, fun c hc => by cases hc; kernel_rfl⟩
theorem fnOK37 : FnOK Try.prog sig.pure 37 fa37 := ⟨Try.func37, by kernel_rfl, fun c hc => by cases hc; kernel_rfl⟩
theorem fnOK38 : FnOK Try.prog sig.pure 38 fa38 := ⟨Try.func38, by kernel_rfl, fun c hc => by cases hc; kernel_rfl⟩
theorem fnOK39 : FnOK Try.prog sig.pure 39 fa39 := ⟨Try.func39, by kernel_rfl, fun c hc => by cases hc; kernel_rfl⟩
theorem fnOK40 : FnOK Try.prog sig.pure 40 fa40 := ⟨Try.func40, by kernel_rfl, fun c hc => by cases hc; kernel_rfl⟩
theorem fnOK41 : FnOK Try.prog sig.pure 41 fa41 := ⟨Try.func41, by kernel_rfl, fun c hc => by cases hc; kernel_rfl⟩
theorem fnOK42 : FnOK Try.prog sig.pure 42 fa42 := ⟨Try.func42, by kernel_rfl, fun c hc => by cases hc; kernel_rfl⟩
theorem fnOK43 : FnOK Try.prog sig.pure 43 fa43 := ⟨Try.func43, by kernel_rfl, fun c hc => by cases hc; kernel_rfl⟩
theorem fnOK44 : FnOK Try.prog sig.pure 44 fa44 := ⟨Try.func44, by kernel_rfl, fun c hc => by cases hc; kernel_rfl⟩
theorem fnOK45 : FnOK Try.prog sig.pure 45 fa45 := ⟨Try.func45, by kernel_rfl, fun c hc => by cases hc; kernel_rfl⟩
theorem fnOK46 : FnOK Try.prog sig.pure 46 fa46 := ⟨Try.func46, by kernel_rfl, fun c hc => by cases hc; kernel_rfl⟩
theorem fnOK47 : FnOK Try.prog sig.pure 47 fa47 := ⟨Try.func47, by kernel_rfl, fun c hc => by cases hc; kernel_rfl⟩
theorem fnOK48 : FnOK Try.prog sig.pure 48 fa48 := ⟨Try.func48, by kernel_rfl, fun c hc => by cases hc; kernel_rfl⟩
theorem fnOK50 : FnOK Try.prog sig.pure 50 fa50 := ⟨Try.func50, by kernel_rfl, fun c hc => by cases hc; kernel_rfl⟩

theorem fns_ok : ∀ f fa, fns f = some fa → FnOK Try.prog sig.pure f fa := by
  intro f fa h
  unfold fns at h
  split at h <;> first | (cases h; done) | skip
  · cases h; exact fnOK3
  · cases h; exact fnOK4
  · cases h; exact fnOK5
  · cases h; exact fnOK6
  · cases h; exact fnOK7
  · cases h; exact fnOK8
  · cases h; exact fnOK9
  · cases h; exact fnOK10
  · cases h; exact fnOK11
  · cases h; exact fnOK12
  · cases h; exact fnOK13
  · cases h; exact fnOK14
  · cases h; exact fnOK15
  · cases h; exact fnOK16
  · cases h; exact fnOK17
  · cases h; exact fnOK18
  · cases h; exact fnOK19
  · cases h; exact fnOK20
  · cases h; exact fnOK21
  · cases h; exact fnOK22
  · cases h; exact fnOK23
  · cases h; exact fnOK24
  · cases h; exact fnOK25
  · cases h; exact fnOK26
  · cases h; exact fnOK27
  · cases h; exact fnOK28
  · cases h; exact fnOK29
  · cases h; exact fnOK30
  · cases h; exact fnOK31
  · cases h; exact fnOK32
  · cases h; exact fnOK33
  · cases h; exact fnOK34
  · cases h; exact fnOK35
  · cases h; exact fnOK36
  · cases h; exact fnOK37
  · cases h; exact fnOK38
  · cases h; exact fnOK39
  · cases h; exact fnOK40
  · cases h; exact fnOK41
  · cases h; exact fnOK42
  · cases h; exact fnOK43
  · cases h; exact fnOK44
  · cases h; exact fnOK45
  · cases h; exact fnOK46
  · cases h; exact fnOK47
  · cases h; exact fnOK48
  · cases h; exact fnOK50

theorem prim_own : ∀ f p, primF f = some p → sig.own f = false := by
  intro f p h
  unfold primF at h
  first | (cases h; done) | (split at h <;> first | rfl | cases h)
theorem eff_own : ∀ f p, effF f = some p → sig.own f = true := by
  intro f p h
  unfold effF at h
  first | (cases h; done) | (split at h <;> first | rfl | cases h)
theorem sig_ok : SigOK sig := ⟨by kernel_rfl, fns_ok, fun f h => by
  have h := (show (f == 4) = true from h)
  simp only [Bool.or_eq_true, beq_iff_eq] at h
  rcases h with rfl <;> rfl, fun f p h => ⟨prim_own f p h, prim_ok f p h⟩, fun f p h => ⟨eff_own f p h, eff_ok f p h⟩⟩
theorem sigP : sig.P = Try.prog := rfl
attribute [go_sem] sigP
end Go.Proofs.Ytplockpopmaejaa
end
