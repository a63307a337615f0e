/-
  What the search finds, the way to the sink, and what becomes of a flow: plain proofs.
-/
import Derived.Test.YtdicnojnkbmdlaaQ
set_option linter.unusedVariables false
namespace Go.Proofs.Ytdicnojnkbmdlaa
open Go Go.Am

def tailE (E : List Ed) (c : Int) : Int := if 0 < c then (gt E (ixE c)).a else (gt E (ixE c)).b
def headE (E : List Ed) (c : Int) : Int := if 0 < c then (gt E (ixE c)).b else (gt E (ixE c)).a
def roomI (E : List Ed) (f : List Int) (c : Int) : Int := if 0 < c then (gt E (ixE c)).c - gt f (ixE c) else gt f (ixE c)
structure ArcOK (E : List Ed) (f : List Int) (c : Int) : Prop where
  nz : c ≠ 0
  ix : ixE c < E.length
  room : 0 < roomI E f c
theorem ix_fwd (u : Nat) : ixE ((u : Int) + 1) = u := by rw [ixE, if_pos (by omega)]; omega
theorem ix_back (u : Nat) : ixE (-(u : Int) - 1) = u := by rw [ixE, if_neg (by omega)]; omega
theorem gt_app {α : Type} [Inhabited α] (l m : List α) (k : Nat) (h : k < l.length) : gt (l ++ m) k = gt l k := by
  simp [gt, List.getD_eq_getElem?_getD, List.getElem?_append_left h]
theorem gt_last {α : Type} [Inhabited α] (l : List α) (x : α) : gt (l ++ [x]) l.length = x := by
  simp [gt, List.getD_eq_getElem?_getD]
structure RInv (n s : Int) (E : List Ed) (f : List Int) (st : BS) (ord : List Int) : Prop where
  hd : gt ord 0 = s
  pos : 0 < ord.length
  rng : ∀ k, k < ord.length → 0 ≤ gt ord k ∧ gt ord k < n
  seen : ∀ v, 0 ≤ v → v < n → (gt st.seen v.toNat = true ↔ ∃ k, k < ord.length ∧ gt ord k = v)
  inj : ∀ j k, j < ord.length → k < ord.length → gt ord j = gt ord k → j = k
  arc : ∀ k, 0 < k → k < ord.length → ArcOK E f (gt st.way (gt ord k).toNat) ∧ headE E (gt st.way (gt ord k).toNat) = gt ord k ∧ ∃ j, j < k ∧ tailE E (gt st.way (gt ord k).toNat) = gt ord j
theorem push_inv {n s : Int} {E : List Ed} {f : List Int} {st : BS} {ord : List Int} {x c : Int} (so : SOK n st) (R : RInv n s E f st ord) (h0 : 0 ≤ x) (h1 : x < n) (hs : gt st.seen x.toNat = false)
    (ha : ArcOK E f c) (hh : headE E c = x) {j : Nat} (hj : j < ord.length) (ht : tailE E c = gt ord j) : RInv n s E f (pushS st x c) (ord ++ [x]) := by
  have new : ∀ k, k < ord.length → gt ord k ≠ x := fun k hk hx => by
    have := (R.seen x h0 h1).2 ⟨k, hk, hx⟩
    rw [hs] at this; cases this
  have hl : (ord ++ [x]).length = ord.length + 1 := by simp
  have cas : ∀ k, k < ord.length + 1 → k < ord.length ∧ gt (ord ++ [x]) k = gt ord k ∨ k = ord.length ∧ gt (ord ++ [x]) k = x := fun k hk => by
    by_cases h : k < ord.length
    · exact .inl ⟨h, gt_app _ _ _ h⟩
    · have : k = ord.length := by omega
      subst this
      exact .inr ⟨rfl, gt_last _ _⟩
  have hw : ∀ y, 0 ≤ y → y < n → gt (pushS st x c).way y.toNat = if x = y then c else gt st.way y.toNat := fun y hy0 hy1 => by
    rw [pushS, gt_set _ _ _ _ (by rw [so.way]; omega)]
    by_cases hxy : x = y
    · rw [if_pos hxy, if_pos (by rw [hxy])]
    · rw [if_neg hxy, if_neg (by omega)]
  have hsn : ∀ y, 0 ≤ y → y < n → gt (pushS st x c).seen y.toNat = if x = y then true else gt st.seen y.toNat := fun y hy0 hy1 => by
    rw [pushS, gt_set _ _ _ _ (by rw [so.seen]; omega)]
    by_cases hxy : x = y
    · rw [if_pos hxy, if_pos (by rw [hxy])]
    · rw [if_neg hxy, if_neg (by omega)]
  refine ⟨by rw [gt_app _ _ _ R.pos]; exact R.hd, by omega, fun k hk => ?_, fun v hv0 hv1 => ?_, fun i k hi hk h => ?_, fun k hk0 hk => ?_⟩
  · rcases cas k (by omega) with ⟨h2, h3⟩ | ⟨h2, h3⟩ <;> rw [h3]
    · exact R.rng k h2
    · exact ⟨h0, h1⟩
  · rw [hsn v hv0 hv1]
    by_cases hxv : x = v
    · rw [if_pos hxv]
      exact ⟨fun _ => ⟨ord.length, by omega, by rw [gt_last, hxv]⟩, fun _ => rfl⟩
    · rw [if_neg hxv, R.seen v hv0 hv1]
      constructor
      · rintro ⟨k, hk, hkv⟩
        exact ⟨k, by omega, by rw [gt_app _ _ _ hk, hkv]⟩
      · rintro ⟨k, hk, hkv⟩
        rcases cas k (by omega) with ⟨h2, h3⟩ | ⟨h2, h3⟩
        · exact ⟨k, h2, by rw [← h3, hkv]⟩
        · exact absurd (h3.symm.trans hkv) hxv
  · rcases cas i (by omega) with ⟨h2, h3⟩ | ⟨h2, h3⟩ <;> rcases cas k (by omega) with ⟨h4, h5⟩ | ⟨h4, h5⟩ <;> rw [h3, h5] at h
    · exact R.inj i k h2 h4 h
    · exact absurd h (new i h2)
    · exact absurd h.symm (new k h4)
    · omega
  · rcases cas k (by omega) with ⟨h2, h3⟩ | ⟨h2, h3⟩ <;> rw [h3]
    · have hr := R.rng k h2
      rw [hw _ hr.1 hr.2, if_neg (fun h => new k h2 h.symm)]
      obtain ⟨a1, a2, i, a3, a4⟩ := R.arc k hk0 h2
      exact ⟨a1, a2, i, a3, by rw [gt_app _ _ _ (by omega)]; exact a4⟩
    · rw [hw x h0 h1, if_pos rfl]
      exact ⟨ha, hh, j, by omega, by rw [gt_app _ _ _ hj]; exact ht⟩
/-- What is reached from a node is seen, as far as one edge goes. -/
def clos1 (E : List Ed) (f : List Int) (seen : List Bool) (v : Int) (i : Nat) : Prop :=
  ((gt E i).a = v → gt f i < (gt E i).c → gt seen (gt E i).b.toNat = true) ∧ ((gt E i).b = v → 0 < gt f i → gt seen (gt E i).a.toNat = true)
theorem seen_mono {st : BS} {x c : Int} {w : Nat} (h : gt st.seen w = true) : gt (pushS st x c).seen w = true := by
  unfold pushS
  by_cases hx : x.toNat < st.seen.length
  · rw [gt_set _ _ _ _ hx]
    split
    · rfl
    · exact h
  · rw [List.set_eq_of_length_le (by omega)]; exact h
theorem step_inv {n s t : Int} {E : List Ed} {f : List Int} (g : GOK n s t E) {v : Int} {u : Nat} (hu : u < E.length) {st : BS} {ord : List Int} {p : Nat} (so : SOK n st) (R : RInv n s E f st ord) (hq : st.q = ord.drop (p + 1)) (hp : p < ord.length) (hv : gt ord p = v) :
    ∃ e, RInv n s E f (stepE E f v u st) (ord ++ e) ∧ (stepE E f v u st).q = (ord ++ e).drop (p + 1) ∧ (∀ w, gt st.seen w = true → gt (stepE E f v u st).seen w = true) ∧ clos1 E f (stepE E f v u st).seen v u := by
  have he := g.ed u hu
  have none : ∀ {st' : BS}, st' = st → clos1 E f st.seen v u → ∃ e, RInv n s E f st' (ord ++ e) ∧ st'.q = (ord ++ e).drop (p + 1) ∧ (∀ w, gt st.seen w = true → gt st'.seen w = true) ∧ clos1 E f st'.seen v u := by
    rintro _ rfl hc
    exact ⟨[], by rw [List.append_nil]; exact R, by rw [List.append_nil]; exact hq, fun _ h => h, hc⟩
  have app : ∀ x, (ord ++ [x]).drop (p + 1) = ord.drop (p + 1) ++ [x] := fun x => by rw [List.drop_append_of_le_length (by omega)]
  unfold stepE
  by_cases hb : (gt E u).b = v
  · rw [if_pos hb]
    by_cases hc : gt st.seen (gt E u).a.toNat = false ∧ 0 < gt f u
    · rw [if_pos hc]
      have hset : gt (pushS st (gt E u).a (-(u : Int) - 1)).seen (gt E u).a.toNat = true := by rw [pushS, gt_set _ _ _ _ (by rw [so.seen]; omega), if_pos rfl]
      refine ⟨[(gt E u).a], push_inv so R (by omega) (by omega) hc.1 ⟨by omega, by rw [ix_back]; exact hu, by rw [roomI, if_neg (by omega), ix_back]; exact hc.2⟩ (by rw [headE, if_neg (by omega), ix_back]) hp (by rw [tailE, if_neg (by omega), ix_back, hb, hv]), by rw [app]; simp only [pushS, hq], fun w hw => seen_mono hw, ?_, fun _ _ => hset⟩
      intro h
      exact absurd (h.trans hb.symm) he.2.2.2.2.1
    · rw [if_neg hc]
      refine none rfl ⟨fun h => absurd (h.trans hb.symm) he.2.2.2.2.1, fun _ h0 => ?_⟩
      cases hx : gt st.seen (gt E u).a.toNat with
      | true => rfl
      | false => exact absurd ⟨hx, h0⟩ hc
  · rw [if_neg hb]
    by_cases ha : (gt E u).a = v
    · rw [if_pos ha]
      by_cases hc : gt st.seen (gt E u).b.toNat = false ∧ gt f u < (gt E u).c
      · rw [if_pos hc]
        have hset : gt (pushS st (gt E u).b ((u : Int) + 1)).seen (gt E u).b.toNat = true := by rw [pushS, gt_set _ _ _ _ (by rw [so.seen]; omega), if_pos rfl]
        exact ⟨[(gt E u).b], push_inv so R (by omega) (by omega) hc.1 ⟨by omega, by rw [ix_fwd]; exact hu, by rw [roomI, if_pos (by omega), ix_fwd]; omega⟩ (by rw [headE, if_pos (by omega), ix_fwd]) hp (by rw [tailE, if_pos (by omega), ix_fwd, ha, hv]), by rw [app]; simp only [pushS, hq], fun w hw => seen_mono hw, fun _ _ => hset, fun h => absurd h hb⟩
      · rw [if_neg hc]
        refine none rfl ⟨fun _ h0 => ?_, fun h => absurd h hb⟩
        cases hx : gt st.seen (gt E u).b.toNat with
        | true => rfl
        | false => exact absurd ⟨hx, h0⟩ hc
    · rw [if_neg ha]
      exact none rfl ⟨fun h => absurd h ha, fun h => absurd h hb⟩
theorem clos_mono {E : List Ed} {f : List Int} {a b : List Bool} {v : Int} {i : Nat} (h : clos1 E f a v i) (hm : ∀ w, gt a w = true → gt b w = true) : clos1 E f b v i :=
  ⟨fun h1 h2 => hm _ (h.1 h1 h2), fun h1 h2 => hm _ (h.2 h1 h2)⟩
theorem scan_inv {n s t : Int} {E : List Ed} {f : List Int} (g : GOK n s t E) {v : Int} {st : BS} {ord : List Int} {p : Nat} (so : SOK n st) (R : RInv n s E f st ord) (hq : st.q = ord.drop (p + 1)) (hp : p < ord.length) (hv : gt ord p = v) :
    ∀ u, u ≤ E.length → ∃ e, RInv n s E f (scanN E f v st u) (ord ++ e) ∧ (scanN E f v st u).q = (ord ++ e).drop (p + 1) ∧ (∀ w, gt st.seen w = true → gt (scanN E f v st u).seen w = true) ∧ ∀ i, i < u → clos1 E f (scanN E f v st u).seen v i
  | 0, _ => ⟨[], by rw [List.append_nil]; exact R, by rw [List.append_nil]; exact hq, fun _ h => h, fun i hi => by omega⟩
  | u + 1, h => by
    obtain ⟨e, r1, r2, r3, r4⟩ := scan_inv g so R hq hp hv u (by omega)
    obtain ⟨e', s1, s2, s3, s4⟩ := step_inv (v := v) g (show u < E.length by omega) (scan_ok' g so u (by omega)).1 r1 r2 (by rw [List.length_append]; omega) (by rw [gt_app _ _ _ hp]; exact hv)
    refine ⟨e ++ e', by rw [← List.append_assoc]; exact s1, by rw [← List.append_assoc]; exact s2, fun w hw => s3 w (r3 w hw), fun i hi => ?_⟩
    by_cases hiu : i < u
    · exact clos_mono (r4 i hiu) s3
    · have : i = u := by omega
      subst this
      exact s4
theorem bfs_inv {n s t : Int} {E : List Ed} {f : List Int} (g : GOK n s t E) : ∀ (k : Nat) (st : BS) (ord : List Int) (p : Nat), SOK n st → RInv n s E f st ord → st.q = ord.drop p → p ≤ ord.length → meas st ≤ k → (∀ j, j < p → ∀ i, i < E.length → clos1 E f st.seen (gt ord j) i) →
    ∃ ord', SOK n (bfs E f k st) ∧ RInv n s E f (bfs E f k st) ord' ∧ ∀ j, j < ord'.length → ∀ i, i < E.length → clos1 E f (bfs E f k st).seen (gt ord' j) i := by
  have stop : ∀ (k : Nat) (st : BS) (ord : List Int) (p : Nat), SOK n st → RInv n s E f st ord → st.q = ord.drop p → p ≤ ord.length → st.q.length = 0 → (∀ j, j < p → ∀ i, i < E.length → clos1 E f st.seen (gt ord j) i) →
      ∃ ord', SOK n (bfs E f k st) ∧ RInv n s E f (bfs E f k st) ord' ∧ ∀ j, j < ord'.length → ∀ i, i < E.length → clos1 E f (bfs E f k st).seen (gt ord' j) i := by
    intro k st ord p so R hq hp h0 hc
    rw [bfs_end h0]
    rw [hq, List.length_drop] at h0
    exact ⟨ord, so, R, fun j hj => hc j (by omega)⟩
  intro k
  induction k with
  | zero =>
    intro st ord p so R hq hp hm hc
    exact stop 0 st ord p so R hq hp (by unfold meas at hm; omega) hc
  | succ k ih =>
    intro st ord p so R hq hp hm hc
    by_cases h0 : st.q.length = 0
    · exact stop _ st ord p so R hq hp h0 hc
    · have hpl : p < ord.length := by rw [hq, List.length_drop] at h0; omega
      obtain ⟨seen, way, q⟩ := st
      simp only at hq
      rw [drop_gt ord p hpl] at hq
      subst hq
      have pp := pop_ok so
      rw [pp.2.2.2] at hm
      rw [bfs_pop]
      have R1 : RInv n s E f ⟨seen, way, ord.drop (p + 1)⟩ ord := ⟨R.hd, R.pos, R.rng, R.seen, R.inj, R.arc⟩
      obtain ⟨e, r1, r2, r3, r4⟩ := scan_inv g pp.1 R1 rfl hpl rfl E.length (Nat.le_refl _)
      have sk := scan_ok' g (f := f) (v := gt ord p) pp.1 E.length (Nat.le_refl _)
      refine ih _ (ord ++ e) (p + 1) sk.1 r1 r2 (by simp; omega) (by rw [sk.2]; exact Nat.le_of_succ_le_succ hm) fun j hj i hi => ?_
      rw [gt_app _ _ _ (by omega)]
      by_cases hjp : j < p
      · exact clos_mono (hc j hjp i hi) r3
      · have : j = p := by omega
        subst this
        exact r4 i hi
theorem rep_gt (N j : Nat) : gt (List.replicate N false) j = false := by
  unfold gt
  rw [List.getD_eq_getElem?_getD, List.getElem?_replicate]
  split <;> rfl
theorem reach_inv {n s t : Int} {E : List Ed} (f : List Int) (g : GOK n s t E) : ∃ ord, SOK n (reachS n s E f) ∧ RInv n s E f (reachS n s E f) ord ∧ ∀ j, j < ord.length → ∀ i, i < E.length → clos1 E f (reachS n s E f).seen (gt ord j) i := by
  have h0 := st0_ok g
  have h1 := g.s0
  have h2 := g.s1
  refine bfs_inv g _ _ [s] 0 h0.1 ⟨rfl, by simp, fun k hk => ?_, fun v hv0 hv1 => ?_, fun j k hj hk _ => ?_, fun k hk0 hk => ?_⟩ rfl (by simp) (Nat.le_of_eq h0.2) (fun j hj => by omega)
  · have : k = 0 := by simp at hk; omega
    subst this
    exact ⟨h1, h2⟩
  · rw [st0, gt_set _ _ _ _ (by simp; omega), rep_gt]
    by_cases hsv : s = v
    · rw [if_pos (by rw [hsv])]
      exact ⟨fun _ => ⟨0, by simp, hsv⟩, fun _ => rfl⟩
    · rw [if_neg (by omega)]
      refine ⟨fun h => by simp at h, ?_⟩
      rintro ⟨k, hk, hkv⟩
      have : k = 0 := by simp at hk; omega
      subst this
      exact absurd hkv hsv
  · simp at hj hk; omega
  · simp at hk; omega
end Go.Proofs.Ytdicnojnkbmdlaa
