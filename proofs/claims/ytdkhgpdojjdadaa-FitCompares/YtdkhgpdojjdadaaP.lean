/-
  Repairing a table by raising one number at a time: what stays true, and what rises.
-/
import Derived.Test.YtdkhgpdojjdadaaWH
set_option linter.unusedVariables false
namespace Go.Proofs.Ytdkhgpdojjdadaa
open Go Go.Am

abbrev Tb := List (List Int)
def cellT (l : Tb) (u w : Nat) : Int := gt (gt l u) w
structure Same2 (a b : Tb) : Prop where
  len : a.length = b.length
  row : ∀ u, u < a.length → (gt a u).length = (gt b u).length
def LeT (a b : Tb) : Prop := ∀ u, u < a.length → ∀ w, w < (gt a u).length → gt (gt a u) w ≤ gt (gt b u) w
def Closed (s : Tb) : Prop := ∀ u, u < s.length → ∀ w, w < (gt s u).length → wantedS s u w ≤ gt (gt s u) w
def updT (l : Tb) (u w : Nat) (x : Int) : Tb := l.set u ((gt l u).set w x)

theorem Same2.refl (a : Tb) : Same2 a a := ⟨rfl, fun _ _ => rfl⟩
theorem Same2.symm {a b : Tb} (h : Same2 a b) : Same2 b a := ⟨h.len.symm, fun u hu => (h.row u (by rw [h.len]; exact hu)).symm⟩
theorem Same2.trans {a b c : Tb} (h : Same2 a b) (h' : Same2 b c) : Same2 a c := ⟨h.len.trans h'.len, fun u hu => (h.row u hu).trans (h'.row u (by rw [← h.len]; exact hu))⟩
theorem LeT.refl (a : Tb) : LeT a a := fun _ _ _ _ => Int.le_refl _
theorem LeT.trans {a b c : Tb} (s : Same2 a b) (h : LeT a b) (h' : LeT b c) : LeT a c := fun u hu w hw =>
  Int.le_trans (h u hu w hw) (h' u (by rw [← s.len]; exact hu) w (by rw [← s.row u hu]; exact hw))
theorem LeT.antisymm {a b : Tb} (s : Same2 a b) (h : LeT a b) (h' : LeT b a) : a = b :=
  ext_gt s.len fun u hu => ext_gt (s.row u hu) fun w hw => Int.le_antisymm (h u hu w hw) (h' u (by rw [← s.len]; exact hu) w (by rw [← s.row u hu]; exact hw))

theorem upd_gt (l : Tb) (u w : Nat) (x : Int) (hu : u < l.length) (i j : Nat) (hw : w < (gt l u).length) : gt (gt (updT l u w x) i) j = if u = i ∧ w = j then x else gt (gt l i) j := by
  unfold updT
  rw [gt_set _ _ _ _ hu]
  by_cases hi : u = i
  · subst hi
    rw [if_pos rfl, gt_set _ _ _ _ hw]
    by_cases hj : w = j
    · simp [hj]
    · simp [hj]
  · rw [if_neg hi, if_neg (fun h => hi h.1)]
theorem upd_same (l : Tb) (u w : Nat) (x : Int) (hu : u < l.length) : Same2 l (updT l u w x) := by
  refine ⟨by simp [updT], fun i hi => ?_⟩
  unfold updT
  rw [gt_set _ _ _ _ hu]
  by_cases h : u = i
  · subst h; simp
  · rw [if_neg h]

/-- A rectangle. -/
def Rect (l : Tb) (m : Nat) : Prop := ∀ i, i < l.length → (gt l i).length = m
theorem Same2.rect {a b : Tb} {m : Nat} (s : Same2 a b) (h : Rect a m) : Rect b m := fun i hi => by
  have hi' : i < a.length := by rw [s.len]; exact hi
  rw [← s.row i hi']; exact h i hi'

theorem wanted_mono {a b : Tb} {m : Nat} (ha : Rect a m) (s : Same2 a b) (h : LeT a b) {u w : Nat} (hu : u < a.length) (hw : w < m) : wantedS a u w ≤ wantedS b u w := by
  have hb := s.rect ha
  have l0 := s.len
  have c : ∀ i j, i < a.length → j < m → gt (gt a i) j ≤ gt (gt b i) j := fun i j hi hj => h i hi j (by rw [ha i hi]; exact hj)
  have c0 := c u w hu hw
  have e1 := ha u hu
  have e2 := hb u (by omega)
  have h1 : m1 a u w ≤ m1 b u w := by
    unfold m1
    rw [e1, e2]
    split
    · have := c u (w + 1) hu (by omega); omega
    · exact c0
  have h2 : m2 a u w ≤ m2 b u w := by
    unfold m2
    split
    · have := c (u - 1) w (by omega) hw; omega
    · exact h1
  unfold wantedS
  rw [← l0]
  split
  · have := c (u - 1) w (by omega) hw
    have := c (u + 1) w (by omega) hw
    omega
  · exact h2

theorem wanted_range {a : Tb} {m : Nat} (ha : Rect a m) (hR : InRange a) {u w : Nat} (hu : u < a.length) (hw : w < m) : gt (gt a u) w ≤ wantedS a u w ∧ wantedS a u w ≤ 10000 := by
  have c : ∀ i j, i < a.length → j < m → 0 ≤ gt (gt a i) j ∧ gt (gt a i) j ≤ 10000 := fun i j hi hj => hR i hi j (by rw [ha i hi]; exact hj)
  have c0 := c u w hu hw
  have e1 := ha u hu
  have h1 : gt (gt a u) w ≤ m1 a u w ∧ m1 a u w ≤ 10000 := by
    unfold m1
    rw [e1]
    split
    · have := c u (w + 1) hu (by omega); omega
    · omega
  have h2 : gt (gt a u) w ≤ m2 a u w ∧ m2 a u w ≤ 10000 := by
    unfold m2
    split
    · have := c (u - 1) w (by omega) hw; omega
    · omega
  unfold wantedS
  split
  · have := c (u - 1) w (by omega) hw
    have := c (u + 1) w (by omega) hw
    omega
  · exact h2

structure Inv (raw l : Tb) : Prop where
  same : Same2 raw l
  le : LeT raw l
  rng : InRange l
  least : ∀ s, Same2 raw s → Closed s → LeT raw s → LeT l s

theorem Inv.start {raw : Tb} (h : InRange raw) : Inv raw raw := ⟨Same2.refl _, LeT.refl _, h, fun _ _ _ h => h⟩

theorem Inv.step {raw l : Tb} {m : Nat} (hr : Rect raw m) (h : Inv raw l) {u w : Nat} (hu : u < l.length) (hw : w < m) : Inv raw (updT l u w (wantedS l u w)) := by
  have hl := h.same.rect hr
  have hwl : w < (gt l u).length := by rw [hl u hu]; exact hw
  have hs := upd_same l u w (wantedS l u w) hu
  have hwr := wanted_range hl h.rng hu hw
  have c0 := h.rng u hu w hwl
  refine ⟨h.same.trans hs, ?_, ?_, ?_⟩
  · refine LeT.trans h.same h.le fun i hi j hj => ?_
    rw [upd_gt l u w _ hu i j hwl]
    split
    · rename_i hij; obtain ⟨rfl, rfl⟩ := hij; exact hwr.1
    · exact Int.le_refl _
  · intro i hi j hj
    have hi' : i < l.length := by rw [hs.len]; exact hi
    rw [upd_gt l u w _ hu i j hwl]
    split
    · exact ⟨Int.le_trans c0.1 hwr.1, hwr.2⟩
    · exact h.rng i hi' j (by rw [hs.row i hi']; exact hj)
  · intro s h1 h2 h3 i hi j hj
    have hle := h.least s h1 h2 h3
    have hi' : i < l.length := by rw [hs.len]; exact hi
    have hj' : j < (gt l i).length := by rw [hs.row i hi']; exact hj
    rw [upd_gt l u w _ hu i j hwl]
    split
    · rename_i hij; obtain ⟨rfl, rfl⟩ := hij
      have ss : Same2 l s := h.same.symm.trans h1
      exact Int.le_trans (wanted_mono hl ss hle hu hw) (h2 u (by rw [← ss.len]; exact hu) w (by rw [← ss.row u hu]; exact hwl))
    · exact hle i hi' j hj'

/-! ### What rises -/
def tsum (l : Tb) : Int := (l.map List.sum).sum
theorem sum_set : ∀ (l : List Int) (i : Nat) (x : Int), i < l.length → (l.set i x).sum = l.sum - gt l i + x
  | [], i, x, h => by simp at h
  | a :: l, 0, x, h => by simp only [List.set_cons_zero, List.sum_cons, gt, List.getD_cons_zero]; omega
  | a :: l, i + 1, x, h => by
    have := sum_set l i x (by simpa using h)
    simp only [List.set_cons_succ, List.sum_cons, this]
    have e : gt (a :: l) (i + 1) = gt l i := rfl
    rw [e]; omega
theorem gt_map (l : Tb) (i : Nat) (h : i < l.length) : gt (l.map List.sum) i = (gt l i).sum := by
  rw [gt_eq _ _ (by simpa using h), gt_eq _ _ h]; simp
theorem tsum_upd (l : Tb) (u w : Nat) (x : Int) (hu : u < l.length) (hw : w < (gt l u).length) : tsum (updT l u w x) = tsum l - gt (gt l u) w + x := by
  unfold tsum updT
  rw [List.map_set, sum_set _ _ _ (by simpa using hu), sum_set _ _ _ hw, gt_map l u hu]
  omega
theorem sum_le (c : Int) : ∀ (l : List Int), (∀ i, i < l.length → gt l i ≤ c) → l.sum ≤ l.length * c
  | [], _ => by simp
  | a :: l, h => by
    have h0 : a ≤ c := h 0 (by simp)
    have := sum_le c l fun i hi => h (i + 1) (by simpa using hi)
    simp only [List.sum_cons, List.length_cons, Int.natCast_add, Int.add_mul]
    omega
theorem tsum_le {l : Tb} {m : Nat} (hl : Rect l m) (hm : m ≤ 10) (hn : l.length ≤ 91) (hR : InRange l) : tsum l ≤ 9100000 := by
  have h1 : ∀ i, i < (l.map List.sum).length → gt (l.map List.sum) i ≤ 100000 := by
    intro i hi
    have hi' : i < l.length := by simpa using hi
    rw [gt_map l i hi']
    have := sum_le 10000 (gt l i) fun j hj => (hR i hi' j hj).2
    rw [hl i hi'] at this
    omega
  have := sum_le 100000 (l.map List.sum) h1
  simp only [List.length_map] at this
  unfold tsum
  omega

/-! ### In memory -/
theorem setL_map (l : List Int) (w : Nat) (x : Int) : setL (l.map AV.i) w [AV.i x] = (l.set w x).map AV.i := by
  rw [setL_one, List.map_set]
theorem Tab.upd {lm : Nat} {H : Heap} {b : Nat} {bs : Nat → Nat} {l : Tb} (T : Tab lm H b bs l) (u w : Nat) (x : Int) (hu : u < l.length) : Tab lm (hset H (bs u) (some (((gt l u).set w x).map AV.i))) b bs (updT l u w x) := by
  have hs := upd_same l u w x hu
  obtain ⟨h1, h2, h3, h4, h5, h6⟩ := T
  have hlen : (updT l u w x).length = l.length := hs.len.symm
  refine ⟨?_, ?_, ?_, ?_, h5, ?_⟩
  · rw [hget_set _ _ _ _ (fun h => h4 u hu h.symm), h1, hlen]
    congr 1
    apply List.map_congr_left
    intro i hi
    rw [hs.row i (List.mem_range.mp hi)]
  · intro i hi
    rw [hlen] at hi
    by_cases h : i = u
    · subst h
      rw [hget_set_self _ _ _ (hget_lt (h2 i hi)), updT, gt_set _ _ _ _ hi, if_pos rfl]
    · rw [hget_set _ _ _ _ (fun hh => h (h3 i u hi hu hh)), h2 i hi, updT, gt_set _ _ _ _ hu, if_neg (fun hh => h hh.symm)]
  · intro i j hi hj; rw [hlen] at hi hj; exact h3 i j hi hj
  · intro i hi; rw [hlen] at hi; exact h4 i hi
  · intro i hi; rw [hlen] at hi; exact h6 i hi

/-- How far the walk of one row, or of some rows, has come: l0 the table and H0 the memory when it began. -/
structure RJ (raw l0 : Tb) (lm b p : Nat) (bs : Nat → Nat) (m : Nat) (D : Nat → Nat → Prop) (H0 H : Heap) (l : Tb) (ch : Bool) : Prop where
  tab : Tab lm H b bs l
  cell : hget H p = some [.own 1 b 0 l.length]
  inv : Inv raw l
  len : l.length = l0.length
  size : H.length = H0.length
  frame : ∀ q, (∀ i, i < l.length → q ≠ bs i) → hget H q = hget H0 q
  sum : tsum l0 ≤ tsum l
  yes : ch = true → tsum l0 < tsum l
  no : ch = false → l = l0 ∧ ∀ u w, D u w → u < l.length → w < m → wantedS l u w ≤ gt (gt l u) w
theorem RJ.start {raw l : Tb} {lm b p : Nat} {bs : Nat → Nat} {m : Nat} {D : Nat → Nat → Prop} {H : Heap} (T : Tab lm H b bs l) (hc : hget H p = some [.own 1 b 0 l.length]) (hi : Inv raw l) (hD : ∀ u w, D u w → u < l.length → w < m → False) : RJ raw l lm b p bs m D H H l false :=
  ⟨T, hc, hi, rfl, rfl, fun _ _ => rfl, Int.le_refl _, (fun h => by cases h), fun _ => ⟨rfl, fun u w h1 h2 h3 => (hD u w h1 h2 h3).elim⟩⟩
section
variable {raw l0 : Tb} {lm b p : Nat} {bs : Nat → Nat} {m : Nat} {D : Nat → Nat → Prop} {H0 H : Heap} {l : Tb} {ch : Bool}
theorem RJ.mono (h : RJ raw l0 lm b p bs m D H0 H l ch) {D' : Nat → Nat → Prop} (hd : ∀ u w, D' u w → u < l.length → w < m → D u w) : RJ raw l0 lm b p bs m D' H0 H l ch :=
  { h with no := fun hc => ⟨(h.no hc).1, fun u w h1 h2 h3 => (h.no hc).2 u w (hd u w h1 h2 h3) h2 h3⟩ }
theorem RJ.keep {u k w0 : Nat} (h : RJ raw l0 lm b p bs m (fun u' w => u' = u ∧ k ≤ w) H0 H l ch) (hk : k = w0 + 1) (hw : wantedS l u w0 ≤ gt (gt l u) w0) : RJ raw l0 lm b p bs m (fun u' w => u' = u ∧ w0 ≤ w) H0 H l ch :=
  { h with no := fun hc => ⟨(h.no hc).1, fun u' w h1 h2 h3 => by
      by_cases hww : w = w0
      · rw [hww, h1.1]; exact hw
      · exact (h.no hc).2 u' w ⟨h1.1, by omega⟩ h2 h3⟩ }
theorem RJ.raise (h : RJ raw l0 lm b p bs m D H0 H l ch) (hr : Rect raw m) {u w : Nat} (hu : u < l.length) (hw : w < m) (hp : p ≠ bs u) (hg : gt (gt l u) w < wantedS l u w) (D' : Nat → Nat → Prop) :
    RJ raw l0 lm b p bs m D' H0 (hset H (bs u) (some (((gt l u).set w (wantedS l u w)).map AV.i))) (updT l u w (wantedS l u w)) true := by
  have hl := h.inv.same.rect hr
  have hs := upd_same l u w (wantedS l u w) hu
  have ht := tsum_upd l u w (wantedS l u w) hu (by rw [hl u hu]; exact hw)
  have h7 := h.sum
  refine ⟨h.tab.upd u w _ hu, ?_, h.inv.step hr hu hw, hs.len.symm.trans h.len, ?_, ?_, by omega, fun _ => by omega, (fun hh => by cases hh)⟩
  · rw [hget_set _ _ _ _ hp, h.cell, hs.len]
  · rw [hset_len, h.size]
  · intro q hq
    rw [hget_set _ _ _ _ (hq u (by rw [← hs.len]; exact hu))]
    exact h.frame q fun i hi => hq i (by rw [← hs.len]; exact hi)
/-- One stretch behind another. -/
theorem RJ.trans {D1 : Nat → Nat → Prop} {H1 H2 : Heap} {l1 l2 : Tb} {c1 c2 : Bool} (h : RJ raw l0 lm b p bs m D H0 H1 l1 c1) (h' : RJ raw l1 lm b p bs m D1 H1 H2 l2 c2) : RJ raw l0 lm b p bs m (fun u w => D u w ∨ D1 u w) H0 H2 l2 (c2 || c1) := by
  have hs := h.sum
  have hs' := h'.sum
  refine ⟨h'.tab, h'.cell, h'.inv, h'.len.trans h.len, h'.size.trans h.size, fun q hq => (h'.frame q hq).trans (h.frame q fun i hi => hq i (by rw [h'.len]; exact hi)), by omega, ?_, ?_⟩
  · intro hc
    cases c2 with
    | true => have := h'.yes rfl; omega
    | false => have := h.yes (by simpa using hc); omega
  · intro hc
    cases c2 with
    | true => cases hc
    | false =>
      have n1 := h.no (by simpa using hc)
      have n2 := h'.no rfl
      refine ⟨n2.1.trans n1.1, fun u w hd hu hw => ?_⟩
      rcases hd with hd | hd
      · have := n1.2 u w hd (by rw [← h'.len]; exact hu) hw
        rwa [← n2.1] at this
      · exact n2.2 u w hd hu hw
end
end Go.Proofs.Ytdkhgpdojjdadaa
