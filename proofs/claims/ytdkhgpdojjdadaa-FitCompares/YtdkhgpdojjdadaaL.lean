/-
  What repairing means: plain laws.
-/
import Derived.Test.YtdkhgpdojjdadaaP
set_option linter.unusedVariables false
namespace Go.Proofs.Ytdkhgpdojjdadaa
open Go Go.Am

theorem raw_zero {r : Tb} (h : rawS r = 0) : shapeS r = 0 ∧ endsS r = 0 := by
  unfold rawS at h
  split at h
  · rename_i h1; exact absurd h h1
  · rename_i h1; exact ⟨Classical.not_not.mp h1, h⟩
theorem ends_zero {r : Tb} (h : endsS r = 0) : Zero0 r ∧ gt (gt r (r.length - 1)) 0 = 10000 := by
  unfold endsS at h
  split at h
  · cases h
  · split at h
    · cases h
    · rename_i h1 h2; exact ⟨Classical.not_not.mp h1, Classical.not_not.mp h2⟩
theorem raw_of {r : Tb} (s : Shaped r) (z : Zero0 r) (f : gt (gt r (r.length - 1)) 0 = 10000) : rawS r = 0 := by
  have hs : shapeS r = 0 := by
    have := s.two; have := s.most; have := s.one; have := s.ten
    rw [shapeS, if_neg (by omega), if_neg (by omega), if_neg (fun h => h s.len), if_neg (fun h => h s.rng)]
  rw [rawS, if_neg (fun h => h hs), endsS, if_neg (fun h => h z), if_neg (fun h => h f)]
theorem check_zero {r : Tb} (h : checkS r = 0) : rawS r = 0 ∧ Down r ∧ Conc r := by
  unfold checkS at h
  split at h
  · rename_i h1; exact absurd h h1
  · split at h
    · rename_i h1 h2; exact absurd h h2
    · split at h
      · cases h
      · split at h
        · cases h
        · rename_i h1 h2 h3 h4
          exact ⟨by rw [rawS, if_neg h1]; exact Classical.not_not.mp h2, Classical.not_not.mp h3, Classical.not_not.mp h4⟩
theorem check_of {r : Tb} (h : rawS r = 0) (d : Down r) (c : Conc r) : checkS r = 0 := by
  have := raw_zero h
  rw [checkS, if_neg (fun hh => hh this.1), if_neg (fun hh => hh this.2), if_neg (fun hh => hh d), if_neg (fun hh => hh c)]

theorem closed_of {r : Tb} {m : Nat} (hr : Rect r m) (d : Down r) (c : Conc r) : Closed r := by
  intro u hu w hw
  have e := hr u hu
  have dd := d u hu w hw
  have h1 : m1 r u w ≤ gt (gt r u) w := by
    unfold m1
    split
    · have := dd.2 (by assumption); omega
    · omega
  have h2 : m2 r u w ≤ gt (gt r u) w := by
    unfold m2
    split
    · have := dd.1 (by assumption); omega
    · exact h1
  unfold wantedS
  split
  · have hh := c (u + 1) (by omega) (by omega) w (by rw [hr _ (by omega), ← e]; exact hw)
    simp only [Nat.add_sub_cancel, show u + 1 - 2 = u - 1 by omega] at hh
    omega
  · exact h2
theorem of_closed {r : Tb} {m : Nat} (hr : Rect r m) (h : Closed r) : Down r ∧ Conc r := by
  have key : ∀ u, u < r.length → ∀ w, w < m → m1 r u w ≤ gt (gt r u) w ∧ m2 r u w ≤ gt (gt r u) w ∧ wantedS r u w ≤ gt (gt r u) w := by
    intro u hu w hw
    have hc := h u hu w (by rw [hr u hu]; exact hw)
    have h2 : m2 r u w ≤ wantedS r u w := by unfold wantedS; split <;> omega
    have h1 : m1 r u w ≤ m2 r u w := by unfold m2; split <;> omega
    omega
  constructor
  · intro u hu w hw
    have e := hr u hu
    have k := key u hu w (by omega)
    constructor
    · intro h0
      have := k.2.1
      unfold m2 at this
      rw [if_pos h0] at this
      omega
    · intro h0
      have := k.1
      unfold m1 at this
      rw [if_pos h0] at this
      omega
  · intro u hu h2 w hw
    have e := hr u hu
    have k := (key (u - 1) (by omega) w (by omega)).2.2
    unfold wantedS at k
    rw [if_pos ⟨by omega, by omega⟩, show u - 1 + 1 = u by omega, show u - 1 - 1 = u - 2 by omega] at k
    omega

/-- The table that is full but for its first row. -/
def fullT (r : Tb) : Tb := (List.range r.length).map fun u => (List.range (gt r u).length).map fun _ => if u = 0 then (0 : Int) else 10000
theorem gt_mapR {α : Type} [Inhabited α] (f : Nat → α) (n i : Nat) (h : i < n) : gt ((List.range n).map f) i = f i := by
  rw [gt_eq _ _ (by simpa using h)]; simp
theorem fullT_row (r : Tb) (u : Nat) (hu : u < r.length) : gt (fullT r) u = (List.range (gt r u).length).map fun _ => if u = 0 then (0 : Int) else 10000 := gt_mapR _ _ _ hu
theorem fullT_same (r : Tb) : Same2 r (fullT r) := ⟨by simp [fullT], fun u hu => by rw [fullT_row r u hu]; simp⟩
theorem fullT_gt (r : Tb) (u w : Nat) (hu : u < r.length) (hw : w < (gt r u).length) : gt (gt (fullT r) u) w = if u = 0 then 0 else 10000 := by
  rw [fullT_row r u hu, gt_mapR _ _ _ hw]
theorem fullT_closed {r : Tb} {m : Nat} (hr : Rect r m) : Closed (fullT r) := by
  intro u hu w hw
  have s := fullT_same r
  have hu' : u < r.length := by rw [s.len]; exact hu
  have hw' : w < (gt r u).length := by rw [s.row u hu']; exact hw
  have e := hr u hu'
  have er : (gt (fullT r) u).length = m := by rw [← s.row u hu', e]
  have c : ∀ i j, i < r.length → j < m → gt (gt (fullT r) i) j = if i = 0 then 0 else 10000 := fun i j hi hj => fullT_gt r i j hi (by rw [hr i hi]; exact hj)
  have h1 : m1 (fullT r) u w ≤ if u = 0 then 0 else 10000 := by
    unfold m1
    rw [er]
    split
    · rw [c u w hu' (by omega), c u (w + 1) hu' (by omega)]; omega
    · rw [c u w hu' (by omega)]; omega
  have h2 : m2 (fullT r) u w ≤ if u = 0 then 0 else 10000 := by
    unfold m2
    split
    · rw [c (u - 1) w (by omega) (by omega)]; split <;> split at h1 <;> omega
    · exact h1
  rw [c u w hu' (by omega)]
  unfold wantedS
  split
  · rename_i hc
    rw [← s.len] at hc
    rw [c (u - 1) w (by omega) (by omega), c (u + 1) w (by omega) (by omega)]
    split <;> split at h2 <;> split <;> omega
  · exact h2

/-- What is known of a repaired table. -/
theorem repaired {r t : Tb} (h : rawS r = 0) (i : Inv r t) (c : Closed t) : checkS t = 0 := by
  have hz := raw_zero h
  have sh := shaped_of hz.1
  have he := ends_zero hz.2
  have hr : Rect r (gt r 0).length := sh.len
  have ht := i.same.rect hr
  have hl := i.same.len
  have s2 := sh.two
  have e0 : (gt t 0).length = (gt r 0).length := ht 0 (by omega)
  have hfull : LeT t (fullT r) := i.least _ (fullT_same r) (fullT_closed hr) fun u hu w hw => by
    rw [fullT_gt r u w hu hw]
    split
    · rename_i h0; subst h0; exact Int.le_of_eq (he.1 w hw)
    · exact (sh.rng u hu w hw).2
  have z : Zero0 t := fun w hw => by
    have := hfull 0 (by omega) w hw
    rw [fullT_gt r 0 w (by omega) (by omega), if_pos rfl] at this
    have := (i.rng 0 (by omega) w hw).1
    omega
  have f : gt (gt t (t.length - 1)) 0 = 10000 := by
    have o := sh.one
    have h1 := i.le (r.length - 1) (by omega) 0 (by rw [hr _ (by omega)]; exact o)
    have h2 := (i.rng (t.length - 1) (by omega) 0 (by rw [ht _ (by omega)]; exact o)).2
    rw [he.2] at h1
    rw [← hl] at h2 ⊢
    omega
  have d := of_closed ht c
  exact check_of (raw_of ⟨by omega, by have := sh.most; omega, by have := sh.one; omega, by have := sh.ten; omega, fun u hu => by rw [ht u hu, e0], i.rng⟩ z f) d.1 d.2
theorem stays {r t : Tb} (h : Inv r t) (c : Closed r) : t = r :=
  (LeT.antisymm h.same h.le (h.least r (Same2.refl _) c (LeT.refl _))).symm
theorem check_closed {r : Tb} (h : checkS r = 0) : Closed r := by
  have := check_zero h
  exact closed_of (shaped_of (raw_zero this.1).1).len this.2.1 this.2.2
end Go.Proofs.Ytdkhgpdojjdadaa
