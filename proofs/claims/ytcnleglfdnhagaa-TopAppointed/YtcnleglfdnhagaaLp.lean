/-
  The law in plain words: what Appoint answers keeps the conditions, or on the day of the named matches fewer umpires may stand than are needed.
-/
import Derived.Test.YtcnleglfdnhagaaLPr
import Derived.Sort.Walk0
set_option linter.unusedVariables false
namespace Go.Proofs.Ytcnleglfdnhagaa.L
open Go Go.Am
def qB (nums : List Int) (y : Um) (x : Du) : Bool := nums.contains x.mt && mayB x y
abbrev key (us : List Um) (u : Nat) : List UInt8 := (gt us u).nm.toList
theorem key_step {us : List Um} (h : ferr (umE us) us.length = 0) {u : Nat} (hu : u + 1 < us.length) : key us u < key us (u + 1) := by
  have := ferr_all h (u + 1) hu
  unfold umE at this
  split at this
  · omega
  split at this
  · omega
  rename_i h1 h2
  have h3 : leB (gt us (u + 1)).nm (gt us u).nm = false := by
    cases e : leB (gt us (u + 1)).nm (gt us u).nm with
    | false => rfl
    | true => exact absurd ⟨Nat.succ_pos u, e⟩ h2
  unfold leB at h3
  rw [bytesLess_eq] at h3
  simp only [Bool.or_eq_false_iff, decide_eq_false_iff_not, beq_eq_false_iff_ne, ne_eq] at h3
  have h4 : key us u ≤ key us (u + 1) := List.not_lt.1 h3.1
  rcases List.le_iff_lt_or_eq.1 h4 with h5 | h5
  · exact h5
  · exact absurd h5.symm h3.2
theorem key_lt {us : List Um} (h : ferr (umE us) us.length = 0) {u : Nat} : ∀ j, u + j + 1 < us.length → key us u < key us (u + j + 1)
  | 0, hv => key_step h hv
  | j + 1, hv => List.lt_trans (key_lt h j (by omega)) (key_step h (by omega))
theorem key_inj {us : List Um} (h : ferr (umE us) us.length = 0) {u v : Nat} (hu : u < us.length) (hv : v < us.length) (e : key us u = key us v) : u = v := by
  rcases Nat.lt_trichotomy u v with h1 | h1 | h1
  · have := key_lt h (u := u) (v - u - 1) (by omega)
    rw [show u + (v - u - 1) + 1 = v by omega, e] at this
    exact absurd this (List.lt_irrefl _)
  · exact h1
  · have := key_lt h (u := v) (u - v - 1) (by omega)
    rw [show v + (u - v - 1) + 1 = u by omega, e] at this
    exact absurd this (List.lt_irrefl _)
theorem ck_um {l : List Du} {us : List Um} (h : ckS l us = 0) : ferr (umE us) us.length = 0 := by
  unfold ckS at h
  split at h
  · omega
  split at h
  · omega
  · exact h
theorem ferr_val {f : Nat → Int} {P : Int → Prop} (h0 : P 0) (hf : ∀ i, P (f i)) : ∀ n, P (ferr f n)
  | 0 => h0
  | n + 1 => by
    unfold ferr
    split
    · exact ferr_val h0 hf n
    · exact hf n
theorem ck_ne13 (l : List Du) (us : List Um) : ckS l us ≠ 13 := by
  unfold ckS
  split
  · decide
  split
  · refine ferr_val (P := fun z => z ≠ 13) (by decide) (fun i => ?_) _
    unfold duE
    repeat' split
    all_goals decide
  · refine ferr_val (P := fun z => z ≠ 13) (by decide) (fun i => ?_) _
    unfold umE
    split
    · decide
    split
    · decide
    split
    · decide
    refine ferr_val (P := fun z => z ≠ 13) (by decide) (fun k => ?_) _
    unfold dyE
    repeat' split
    all_goals decide
theorem e_ok {l : List Du} {us : List Um} (h : appE l us = 0) : ckS l us = 0 ∧ fstBad l us = none := by
  unfold appE at h
  split at h
  · omega
  · rename_i h1
    split at h
    · omega
    · rename_i h2
      exact ⟨by omega, by simpa using h2⟩
theorem e_bad {l : List Du} {us : List Um} (h : appE l us = 13) : ckS l us = 0 ∧ ∃ d, fstBad l us = some d := by
  unfold appE at h
  split at h
  · exact absurd h (ck_ne13 l us)
  · rename_i h1
    split at h
    · rename_i h2
      exact ⟨by omega, Option.isSome_iff_exists.1 h2⟩
    · omega
theorem e_err {l : List Du} {us : List Um} (h : appE l us ≠ 0) (h2 : appE l us ≠ 13) : ckS l us = appE l us := by
  unfold appE at h h2 ⊢
  split
  · rfl
  · rename_i h1
    rw [if_neg h1] at h h2
    split at h2
    · exact absurd rfl h2
    · rename_i h3
      rw [if_neg h3] at h
      exact absurd rfl h
theorem o_ok {l : List Du} {us : List Um} (h : appE l us = 0) : appO l us = (List.range l.length).map (apJ l us) ∧ appN l us = [] := by
  obtain ⟨h1, h2⟩ := e_ok h
  have h0 : ¬ ckS l us ≠ 0 := by omega
  exact ⟨by rw [appO, if_neg h0, h2]; rfl, by rw [appN, if_neg h0, h2]⟩
theorem gt_map {α β : Type} [Inhabited α] [Inhabited β] (f : α → β) {l : List α} {i : Nat} (h : i < l.length) : gt (l.map f) i = f (gt l i) := by
  rw [gt_eq _ _ (by simpa using h), List.getElem_map, gt_eq _ _ h]
theorem gt_rng {β : Type} [Inhabited β] (f : Nat → β) {n i : Nat} (h : i < n) : gt ((List.range n).map f) i = f i := by
  rw [gt_eq _ _ (by simpa using h), List.getElem_map, List.getElem_range]
instance : Inhabited Ap := ⟨⟨0, ⟨#[]⟩, ⟨#[]⟩⟩⟩
theorem may_at {us : List Um} {G : List Du} {p u : Nat} (hp : p < G.length) (hu : u < us.length) : gt (gt (mayL us G) p) u = mayB (gt G p) (gt us u) := by
  rw [gt_map _ hp, gt_map _ hu]
theorem pair_may {l : List Du} {us : List Um} (h : fstBad l us = none) {i : Nat} (hi : i < l.length) : mayB (gt l i) (gt us (prJ l us i).1) = true ∧ mayB (gt l i) (gt us (prJ l us i).2) = true ∧ (prJ l us i).1 < (prJ l us i).2 ∧ (prJ l us i).2 < us.length := by
  have P := prJ_lt h hi
  obtain ⟨p1, p2⟩ := plc_at hi
  have e1 := may_at (us := us) (G := grp l (gt l i).dy) p1 (Nat.lt_trans P.lt P.ltn)
  have e2 := may_at (us := us) (G := grp l (gt l i).dy) p1 P.ltn
  rw [p2] at e1 e2
  exact ⟨e1.symm.trans P.row1, e2.symm.trans P.row2, P.lt, P.ltn⟩
theorem plc_lt {l : List Du} (hr : rising l) {a i : Nat} (ha : a < i) (hi : i < l.length) (hd : (gt l a).dy = (gt l i).dy) : plc l a < plc l i := by
  obtain ⟨p1, p2⟩ := plc_at (l := l) (j := a) (by omega)
  obtain ⟨q1, q2⟩ := plc_at hi
  rw [hd] at p1 p2
  have hm : (gt l a).mt < (gt l i).mt := by
    rw [gt_eq _ _ (show a < l.length by omega), gt_eq _ _ hi]
    exact List.pairwise_iff_getElem.1 hr a i (by omega) hi ha
  rcases Nat.lt_trichotomy (plc l a) (plc l i) with h1 | h1 | h1
  · exact h1
  · rw [h1, q2] at p2
    rw [p2] at hm
    omega
  · have := List.pairwise_iff_getElem.1 (grp_rising hr (gt l i).dy) (plc l i) (plc l a) q1 p1 h1
    rw [← gt_eq _ _ q1, ← gt_eq _ _ p1, q2, p2] at this
    omega
theorem may_facts {x : Du} {y : Um} (h : mayB x y = true) (h1 : nameS x.ho = true) (h2 : nameS x.aw = true) : y.ds.contains x.dy = true ∧ ¬ y.tm.toList = x.ho.toList ∧ ¬ y.tm.toList = x.aw.toList := by
  have ne : ∀ s : ByteArray, nameS s = true → ¬ (⟨#[]⟩ : ByteArray).toList = s.toList := fun s hs e => by
    unfold nameS at hs
    have h3 := (of_decide_eq_true hs).1
    have h4 : s.size = 0 := by
      rw [Lib.toList_data, Lib.toList_data] at e
      have := congrArg List.length e
      simpa using this.symm
    omega
  unfold mayB eqB at h
  simp only [Bool.and_eq_true, Bool.or_eq_true, beq_iff_eq, Bool.not_eq_true', beq_eq_false_iff_ne, ne_eq] at h
  refine ⟨h.1, ?_⟩
  rcases h.2 with h3 | h3
  · rw [h3]
    exact ⟨ne _ h1, ne _ h2⟩
  · exact h3
theorem du_names {l : List Du} {us : List Um} (h : ckS l us = 0) {i : Nat} (hi : i < l.length) : nameS (gt l i).ho = true ∧ nameS (gt l i).aw = true := by
  have := ferr_all (ckS_facts h).1 i hi
  unfold duE at this
  split at this
  · omega
  split at this
  · omega
  rename_i h1 h2
  simp only [not_or, Bool.not_eq_false] at h2
  exact h2
/-- What the law asks. -/
structure LawOK (l : List Du) (us : List Um) (O : List Ap) (NS : List Int) (E : Int) : Prop where
  len : E = 0 → O.length = l.length ∧ NS = []
  mt : E = 0 → ∀ i, i < l.length → (gt O i).mt = (gt l i).mt
  ne : E = 0 → ∀ i, i < l.length → ¬ (gt O i).one.toList = (gt O i).two.toList
  st : E = 0 → ∀ i, i < l.length → ∀ u, u < us.length → (gt us u).nm.toList = (gt O i).one.toList ∨ (gt us u).nm.toList = (gt O i).two.toList → (gt us u).ds.contains (gt l i).dy = true ∧ ¬ (gt us u).tm.toList = (gt l i).ho.toList ∧ ¬ (gt us u).tm.toList = (gt l i).aw.toList
  dj : E = 0 → ∀ i, i < l.length → ∀ a, a < i → (gt l a).dy = (gt l i).dy → ¬ (gt O a).one.toList = (gt O i).one.toList ∧ ¬ (gt O a).two.toList = (gt O i).two.toList ∧ ¬ (gt O a).one.toList = (gt O i).two.toList ∧ ¬ (gt O a).two.toList = (gt O i).one.toList
  able : E = 13 → O = [] ∧ ((List.range us.length).filter fun v => decide (0 ≤ fidx (fun u => qB NS (gt us v) (gt l u)) l.length)).length < 2 * NS.length
  nl : NS.length ≤ l.length
  ds : E = 0 ∨ E = 13 → ∀ u, (gt us u).ds.length ≤ 400
theorem law_ok (l : List Du) (us : List Um) : LawOK l us (appO l us) (appN l us) (appE l us) := by
  refine ⟨fun h => ?_, fun h i hi => ?_, fun h i hi => ?_, fun h i hi u hu hn => ?_, fun h i hi a ha hd => ?_, fun h => ?_, ?_, fun h => ?_⟩
  · obtain ⟨h1, h2⟩ := o_ok h
    rw [h1, h2]; simp
  · rw [(o_ok h).1, gt_rng _ hi]; rfl
  · obtain ⟨h1, h2⟩ := e_ok h
    rw [(o_ok h).1, gt_rng _ hi]
    obtain ⟨-, -, p3, p4⟩ := pair_may h2 hi
    intro e
    have := key_inj (ck_um h1) (u := (prJ l us i).1) (v := (prJ l us i).2) (by omega) p4 e
    omega
  · obtain ⟨h1, h2⟩ := e_ok h
    rw [(o_ok h).1, gt_rng _ hi] at hn
    obtain ⟨p1, p2, p3, p4⟩ := pair_may h2 hi
    obtain ⟨n1, n2⟩ := du_names h1 hi
    rcases hn with e | e
    · have := key_inj (ck_um h1) (u := u) (v := (prJ l us i).1) hu (by omega) e
      subst this
      exact may_facts p1 n1 n2
    · have := key_inj (ck_um h1) (u := u) (v := (prJ l us i).2) hu p4 e
      subst this
      exact may_facts p2 n1 n2
  · obtain ⟨h1, h2⟩ := e_ok h
    have hr := rising_of (ckS_facts h1).1
    have hal : a < l.length := by omega
    rw [(o_ok h).1, gt_rng _ hi, gt_rng _ hal]
    have P := prJ_lt h2 hi
    obtain ⟨f1, f2, f3, f4⟩ := P.off (plc l a) (plc_lt hr ha hi hd)
    have e : dpr (mayL us (grp l (gt l i).dy)) us.length (plc l a) = prJ l us a := by unfold prJ dpair; rw [hd]
    have e2 : dpr (mayL us (grp l (gt l i).dy)) us.length (plc l i) = prJ l us i := rfl
    rw [e, e2] at f1 f2 f3 f4
    obtain ⟨-, -, p3, p4⟩ := pair_may h2 hi
    obtain ⟨-, -, q3, q4⟩ := pair_may h2 hal
    have inj := fun u v hu hv e => key_inj (ck_um h1) (u := u) (v := v) hu hv e
    exact ⟨fun e => f1 (inj _ _ (by omega) (by omega) e), fun e => f4 (inj _ _ q4 p4 e), fun e => f2 (inj _ _ (by omega) p4 e), fun e => f3 (inj _ _ q4 (by omega) e)⟩
  · obtain ⟨h1, d, hd⟩ := e_bad h
    have h0 : ¬ ckS l us ≠ 0 := by omega
    have hr := rising_of (ckS_facts h1).1
    have eN : appN l us = numsL l us d := by rw [appN, if_neg h0, hd]
    refine ⟨by rw [appO, if_neg h0, hd]; rfl, ?_⟩
    rw [eN]
    have hb : badD l us d = true := List.find?_some hd
    have hL := day_lack (badD_t.1 hb)
    have hlen : (numsL l us d).length = (dayLack (mayL us (grp l d)) us.length).length := by simp [numsL]
    rw [hlen]
    refine Nat.lt_of_le_of_lt ?_ hL.1
    rw [← List.countP_eq_length_filter, ← List.countP_eq_length_filter]
    refine List.countP_mono_left fun v hv hq => ?_
    have hv2 := List.mem_range.1 hv
    have h3 := of_decide_eq_true hq
    rcases fidx_some (p := fun u => qB (numsL l us d) (gt us v) (gt l u)) (n := l.length) with ⟨e, _⟩ | ⟨u, hu, -, hq2, -⟩
    · rw [e] at h3; omega
    · unfold qB at hq2
      rw [Bool.and_eq_true, List.contains_iff_mem] at hq2
      obtain ⟨j, hj, e⟩ := List.mem_map.1 hq2.1
      have hjl : j < (grp l d).length := by have := hL.2 j hj; simpa using this
      have hx : gt (grp l d) j = gt l u := rising_inj hr (grp_mem.1 (gt_mem hjl)).1 (gt_mem hu) e
      rw [List.any_eq_true]
      refine ⟨j, hj, ?_⟩
      rw [may_at hjl hv2, hx]
      exact hq2.2
  · unfold appN
    split
    · exact Nat.zero_le _
    · split
      · rename_i d _
        have hlen : (numsL l us d).length = (dayLack (mayL us (grp l d)) us.length).length := by simp [numsL]
        rw [hlen]
        unfold dayLack lackO
        refine Nat.le_trans (List.length_filter_le _ _) ?_
        rw [List.length_range, lackQ_length, mark_len, List.length_replicate, mayL_len]
        exact grp_len l d
      · exact Nat.zero_le _
  · rcases h with h | h
    · exact (ckS_facts (e_ok h).1).2
    · exact (ckS_facts (e_bad h).1).2
end Go.Proofs.Ytcnleglfdnhagaa.L
