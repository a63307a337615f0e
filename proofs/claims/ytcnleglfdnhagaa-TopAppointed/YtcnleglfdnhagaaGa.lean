/-
  A day's pairs, as a function of who may stand where; the duties of a day. Plain.
-/
import Derived.Test.YtcnleglfdnhagaaWG
set_option linter.unusedVariables false
namespace Go.Proofs.Ytcnleglfdnhagaa
open Go Go.Am
def pairF (may : List (List Bool)) (need used : List Int) (m : Nat) : Nat × Nat :=
  match chooseL may need used m used.length 0 with
  | none => (0, 0)
  | some u1 => match chooseL may (need.set m (gt need m - 1)) (used.set u1 (-2)) m (used.length - (u1 + 1)) (u1 + 1) with
    | none => (0, 0)
    | some u2 => (u1, u2)
theorem pairF_of {may : List (List Bool)} {need used : List Int} {m u1 u2 : Nat} (P : PairOK may need used m u1 u2) : pairF may need used m = (u1, u2) := by
  unfold pairF
  rw [P.first]
  simp only []
  rw [P.second]
/-- Needs and umpires after i choices. -/
def dst (may : List (List Bool)) (n : Nat) : Nat → List Int × List Int
  | 0 => (List.replicate may.length 2, List.replicate n (-1))
  | i + 1 => (need2 (dst may n i).1 i, used2 (dst may n i).2 (pairF may (dst may n i).1 (dst may n i).2 i).1 (pairF may (dst may n i).1 (dst may n i).2 i).2)
def dpr (may : List (List Bool)) (n i : Nat) : Nat × Nat := pairF may (dst may n i).1 (dst may n i).2 i
structure DayAt (may : List (List Bool)) (n i : Nat) : Prop where
  stt : Stt may (dst may n i).1 (dst may n i).2
  perf : ∃ F, Perf may (dst may n i).1 (dst may n i).2 F
  two : ∀ j, i ≤ j → j < may.length → gt (dst may n i).1 j = 2
  nr : ∀ j, 0 ≤ gt (dst may n i).1 j ∧ gt (dst may n i).1 j ≤ 1000
  ul : (dst may n i).2.length = n
  gone : ∀ j, j < i → gt (dst may n i).2 (dpr may n j).1 = -2 ∧ gt (dst may n i).2 (dpr may n j).2 = -2
theorem gone_set {used : List Int} {u v : Nat} (hu : u < used.length) (h : gt used v = -2) : gt (used.set u (-2)) v = -2 := by
  rw [gt_set used u v (-2) hu]
  split
  · rfl
  · exact h
theorem day_pair {may : List (List Bool)} {n i : Nat} (D : DayAt may n i) (hi : i < may.length) :
    PairOK may (dst may n i).1 (dst may n i).2 i (dpr may n i).1 (dpr may n i).2 ∧ DayAt may n (i + 1) := by
  obtain ⟨F, P⟩ := D.perf
  have hlm := D.stt.lm
  have hi2 : i < (dst may n i).1.length := by omega
  obtain ⟨u1, u2, PR, S2, P2⟩ := choose_pair D.stt P hi2 (D.two i (Nat.le_refl _) hi)
  have e : dpr may n i = (u1, u2) := pairF_of PR
  have e1 : (dpr may n i).1 = u1 := by rw [e]
  have e2 : (dpr may n i).2 = u2 := by rw [e]
  have es : dst may n (i + 1) = (need2 (dst may n i).1 i, used2 (dst may n i).2 u1 u2) := by
    rw [dst, pairF_of PR]
  have l1 : u1 < (dst may n i).2.length := Nat.lt_trans PR.lt PR.ltn
  have l2 : u2 < ((dst may n i).2.set u1 (-2)).length := by rw [List.length_set]; exact PR.ltn
  refine ⟨by rw [e1, e2]; exact PR, ?_, ?_, ?_, ?_, ?_, ?_⟩
  · rw [es]; exact S2
  · rw [es]; exact P2
  · intro j hj hj2
    rw [es]
    show gt (need2 _ _) j = 2
    rw [gt_set _ i j _ (by simpa using hi2), if_neg (by omega), gt_set _ i j _ hi2, if_neg (by omega)]
    exact D.two j (by omega) hj2
  · intro j
    rw [es]
    show 0 ≤ gt (need2 _ _) j ∧ gt (need2 _ _) j ≤ 1000
    have h2 := D.two i (Nat.le_refl _) hi
    rw [gt_set _ i j _ (by simpa using hi2), gt_set _ i i _ hi2, if_pos rfl, gt_set _ i j _ hi2]
    have := D.nr j
    split
    · omega
    · exact this
  · rw [es]
    show (used2 _ _ _).length = n
    rw [List.length_set, List.length_set]
    exact D.ul
  · intro j hj
    rw [es]
    show gt (used2 _ _ _) _ = -2 ∧ gt (used2 _ _ _) _ = -2
    by_cases hji : j < i
    · obtain ⟨g1, g2⟩ := D.gone j hji
      exact ⟨gone_set l2 (gone_set l1 g1), gone_set l2 (gone_set l1 g2)⟩
    · obtain rfl : j = i := by omega
      rw [e1, e2]
      refine ⟨gone_set l2 ?_, ?_⟩
      · rw [gt_set _ u1 u1 _ l1, if_pos rfl]
      · rw [gt_set _ u2 u2 _ l2, if_pos rfl]
theorem day_at {may : List (List Bool)} {n : Nat} (h : (dayFill may n).1 = []) : ∀ i, i ≤ may.length → DayAt may n i
  | 0, _ => by
    obtain ⟨S, P⟩ := day_perf h
    refine ⟨S, P, fun j _ hj => gt_rep2 _ _ hj, fun j => ?_, by simp [dst], fun j hj => absurd hj (Nat.not_lt_zero _)⟩
    show 0 ≤ gt (List.replicate may.length (2 : Int)) j ∧ gt (List.replicate may.length (2 : Int)) j ≤ 1000
    by_cases hj : j < may.length
    · rw [gt_rep2 _ _ hj]; decide
    · rw [gt_big (by simpa using hj)]; decide
  | i + 1, hi => (day_pair (day_at h i (by omega)) (by omega)).2
/-- What the pairs of a day are good for. -/
structure PrOK (may : List (List Bool)) (n i : Nat) : Prop where
  lt : (dpr may n i).1 < (dpr may n i).2
  ltn : (dpr may n i).2 < n
  row1 : gt (gt may i) (dpr may n i).1 = true
  row2 : gt (gt may i) (dpr may n i).2 = true
  off : ∀ j, j < i → (dpr may n j).1 ≠ (dpr may n i).1 ∧ (dpr may n j).1 ≠ (dpr may n i).2 ∧ (dpr may n j).2 ≠ (dpr may n i).1 ∧ (dpr may n j).2 ≠ (dpr may n i).2
theorem pr_ok {may : List (List Bool)} {n i : Nat} (h : (dayFill may n).1 = []) (hi : i < may.length) : PrOK may n i := by
  have D := day_at h i (by omega)
  obtain ⟨P, -⟩ := day_pair D hi
  refine ⟨P.lt, by have := P.ltn; rw [D.ul] at this; exact this, P.row1, P.row2, fun j hj => ?_⟩
  obtain ⟨g1, g2⟩ := D.gone j hj
  exact ⟨fun e => P.free1 (e ▸ g1), fun e => P.free2 (e ▸ g1), fun e => P.free1 (e ▸ g2), fun e => P.free2 (e ▸ g2)⟩
/-! ### The duties of a day -/
def grp (l : List Du) (d : Int) : List Du := l.filter fun x => x.dy == d
abbrev mayL (us : List Um) (G : List Du) : List (List Bool) := G.map fun x => us.map (mayB x)
def rising (l : List Du) : Prop := l.Pairwise fun x y => x.mt < y.mt
theorem rising_of {l : List Du} (h : ferr (duE l) l.length = 0) : rising l := by
  have hall : ∀ i, i < l.length → duE l i = 0 := ferr_all h
  have step : ∀ i, i + 1 < l.length → (gt l i).mt < (gt l (i + 1)).mt := fun i hi => by
    have := hall (i + 1) hi
    unfold duE at this
    split at this
    · omega
    split at this
    · omega
    split at this
    · omega
    split at this
    · omega
    rename_i hh
    simp only [Nat.add_sub_cancel] at hh
    omega
  have lt : ∀ k i, i + k + 1 < l.length → (gt l i).mt < (gt l (i + k + 1)).mt := by
    intro k
    induction k with
    | zero => exact fun i hi => step i hi
    | succ k ih => exact fun i hi => Int.lt_trans (ih i (by omega)) (step (i + k + 1) (by omega))
  unfold rising
  rw [List.pairwise_iff_getElem]
  intro i j hi hj hij
  have := lt (j - i - 1) i (by omega)
  rw [show i + (j - i - 1) + 1 = j by omega, gt_eq _ _ hi, gt_eq _ _ hj] at this
  exact this
theorem rising_inj {l : List Du} (h : rising l) {x y : Du} (hx : x ∈ l) (hy : y ∈ l) (e : x.mt = y.mt) : x = y := by
  obtain ⟨i, hi, rfl⟩ := List.getElem_of_mem hx
  obtain ⟨j, hj, rfl⟩ := List.getElem_of_mem hy
  rcases Nat.lt_trichotomy i j with hij | rfl | hij
  · have := List.pairwise_iff_getElem.1 h i j hi hj hij; omega
  · rfl
  · have := List.pairwise_iff_getElem.1 h j i hj hi hij; omega
theorem grp_rising {l : List Du} (h : rising l) (d : Int) : rising (grp l d) := List.Pairwise.sublist List.filter_sublist h
theorem grp_mem {l : List Du} {d : Int} {x : Du} : x ∈ grp l d ↔ x ∈ l ∧ x.dy = d := by simp [grp]
theorem rising_at {l : List Du} (h : rising l) {i j : Nat} (hi : i < l.length) (hj : j < l.length) (e : (gt l i).mt = (gt l j).mt) : i = j := by
  rw [gt_eq _ _ hi, gt_eq _ _ hj] at e
  rcases Nat.lt_trichotomy i j with hij | rfl | hij
  · have := List.pairwise_iff_getElem.1 h i j hi hj hij; omega
  · rfl
  · have := List.pairwise_iff_getElem.1 h j i hj hi hij; omega
theorem gt_mem {α : Type} [Inhabited α] {l : List α} {i : Nat} (h : i < l.length) : gt l i ∈ l := by
  rw [gt_eq _ _ h]; exact List.getElem_mem _
/-- The place of a duty among those of its day. -/
def plc (l : List Du) (j : Nat) : Nat := (grp (l.take j) (gt l j).dy).length
theorem plc_at {l : List Du} {j : Nat} (h : j < l.length) : plc l j < (grp l (gt l j).dy).length ∧ gt (grp l (gt l j).dy) (plc l j) = gt l j := by
  have e : grp l (gt l j).dy = grp (l.take j) (gt l j).dy ++ (gt l j :: grp (l.drop (j + 1)) (gt l j).dy) := by
    have h1 : l = l.take j ++ gt l j :: l.drop (j + 1) := by rw [gt_eq _ _ h]; simp
    generalize gt l j = x at h1
    conv => lhs; rw [h1]
    unfold grp
    rw [List.filter_append, List.filter_cons, if_pos (by simp)]
  unfold plc
  constructor
  · rw [e, List.length_append, List.length_cons]; omega
  · rw [e]
    simp only [gt, List.getD_eq_getElem?_getD]
    rw [List.getElem?_append_right (Nat.le_refl _), Nat.sub_self]
    rfl
/-- The pair of a duty. -/
def dpair (l : List Du) (us : List Um) (d : Int) (i : Nat) : Nat × Nat := dpr (mayL us (grp l d)) us.length i
theorem grp_snoc (l : List Du) (x : Du) (d : Int) : grp (l ++ [x]) d = if x.dy = d then grp l d ++ [x] else grp l d := by
  unfold grp
  rw [List.filter_append]
  by_cases h : x.dy = d
  · simp [h]
  · simp [h]
theorem take_du {l : List Du} {j : Nat} (h : j < l.length) : l.take (j + 1) = l.take j ++ [gt l j] := by
  rw [List.take_succ_eq_append_getElem h, gt_eq _ _ h]
/-- The days, in the order in which they come up. -/
def daysOf (l : List Du) : Nat → List Int
  | 0 => []
  | j + 1 => if (grp (l.take j) (gt l j).dy).length = 0 then daysOf l j ++ [(gt l j).dy] else daysOf l j
theorem days_mem {l : List Du} : ∀ j, j ≤ l.length → ∀ d, d ∈ daysOf l j ↔ 0 < (grp (l.take j) d).length
  | 0, _, d => by simp [daysOf, grp]
  | j + 1, hj, d => by
    have ih := days_mem (l := l) j (by omega) d
    rw [daysOf, take_du (by omega), grp_snoc]
    split <;> rename_i h
    · rw [List.mem_append, List.mem_singleton, ih]
      split <;> rename_i h2
      · simp [h2]
      · constructor
        · rintro (h3 | h3)
          · exact h3
          · exact absurd h3.symm h2
        · exact .inl
    · rw [ih]
      split <;> rename_i h2
      · rw [List.length_append, ← h2]; simp only [List.length_cons, List.length_nil]; omega
      · rfl
theorem days_nodup {l : List Du} : ∀ j, j ≤ l.length → (daysOf l j).Nodup
  | 0, _ => List.nodup_nil
  | j + 1, hj => by
    have ih := days_nodup (l := l) j (by omega)
    rw [daysOf]
    split <;> rename_i h
    · rw [List.nodup_append]
      refine ⟨ih, by simp, fun a ha b hb e => ?_⟩
      rw [List.mem_singleton] at hb
      subst hb; subst e
      have := (days_mem j (by omega) _).1 ha
      omega
    · exact ih
theorem days_len {l : List Du} : ∀ j, (daysOf l j).length ≤ j
  | 0 => Nat.le_refl _
  | j + 1 => by
    have := days_len (l := l) j
    rw [daysOf]
    split
    · rw [List.length_append]; simp only [List.length_cons, List.length_nil]; omega
    · omega
end Go.Proofs.Ytcnleglfdnhagaa
