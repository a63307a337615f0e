/-
  Texts of TopSeason, part 9 of 16. TopSeason: chapters 49, 51 to 53 at this program. Turned by program from built texts (season.py).
-/
import Derived.Test.YtdmeioppkannlaaKTopSeason7
import Derived.KernelRfl
section
set_option linter.unusedVariables false
namespace Go.Proofs.Ytdmeioppkannlaa
open Go Go.Am

/-- The matches without a team, among the first. -/
def othN (L : List Pr) (t : Int) : Nat → List Pr
  | 0 => []
  | u + 1 => if (gt L u).a ≠ t ∧ (gt L u).b ≠ t then othN L t u ++ [gt L u] else othN L t u
abbrev othS (L : List Pr) (t : Int) : List Pr := othN L t L.length
theorem oth_len (L : List Pr) (t : Int) : ∀ u, (othN L t u).length ≤ u
  | 0 => Nat.le_refl _
  | u + 1 => by
    have := oth_len L t u
    rw [othN]
    split
    · simp; omega
    · omega
/-- Twice the number of a pair's matches among the first of a list. -/
def cntN (O : List Pr) (p : Pr) : Nat → Int
  | 0 => 0
  | u + 1 => cntN O p u + if norm (gt O u) = p then 2 else 0
theorem cnt_app (O : List Pr) (m p : Pr) : ∀ u, u ≤ O.length → cntN (O ++ [m]) p u = cntN O p u
  | 0, _ => rfl
  | u + 1, h => by rw [cntN, cntN, cnt_app O m p u (by omega), gt_app _ _ _ (by omega)]
theorem cnt_rng (O : List Pr) (p : Pr) : ∀ u, 0 ≤ cntN O p u ∧ cntN O p u ≤ 2 * u
  | 0 => by rw [cntN]; omega
  | u + 1 => by
    have := cnt_rng O p u
    rw [cntN]
    split <;> omega
/-- The same over the first matches, without those of a team. -/
def cnlN (L : List Pr) (t : Int) (p : Pr) : Nat → Int
  | 0 => 0
  | u + 1 => cnlN L t p u + if ((gt L u).a ≠ t ∧ (gt L u).b ≠ t) ∧ norm (gt L u) = p then 2 else 0
theorem cnt_oth (L : List Pr) (t : Int) (p : Pr) : ∀ u, cntN (othN L t u) p (othN L t u).length = cnlN L t p u
  | 0 => rfl
  | u + 1 => by
    have ih := cnt_oth L t p u
    rw [othN, cnlN]
    by_cases h : (gt L u).a ≠ t ∧ (gt L u).b ≠ t
    · rw [if_pos h, List.length_append, List.length_singleton, cntN, cnt_app _ _ _ _ (Nat.le_refl _), gt_last, ih]
      by_cases hp : norm (gt L u) = p
      · rw [if_pos hp, if_pos ⟨h, hp⟩]
      · rw [if_neg hp, if_neg (fun hh => hp hh.2)]
    · rw [if_neg h, ih, if_neg (fun hh => h hh.1)]; omega
/-- The pairs are told apart, and each match's pair is among them. -/
structure PQ (L : List Pr) (t : Int) (Q : List Pr) : Prop where
  nd : ∀ i j, i < Q.length → j < Q.length → norm (gt Q i) = norm (gt Q j) → i = j
  all : ∀ u, u < L.length → (gt L u).a ≠ t ∧ (gt L u).b ≠ t → ∃ i, i < Q.length ∧ norm (gt Q i) = norm (gt L u)
  src : ∀ i, i < Q.length → ∃ u, u < L.length ∧ ((gt L u).a ≠ t ∧ (gt L u).b ≠ t) ∧ norm (gt Q i) = norm (gt L u)
theorem within_norm (T : Nat → Bool) {p m : Pr} (h : norm p = norm m) : inside T p = inside T m := by
  rcases (norm_iff p m).2 h with ⟨h1, h2⟩ | ⟨h1, h2⟩
  · unfold inside; rw [h1, h2]
  · unfold inside; rw [h1, h2]; exact Bool.and_comm _ _
theorem within_in {L : List Pr} {t : Int} {Q : List Pr} (W : PQ L t Q) (T : Nat → Bool) (t0 : 0 ≤ t) (ht : T t.toNat = false) : ∀ u, u ≤ L.length →
    sumN (fun i => if inside T (gt Q i) = true then cnlN L t (norm (gt Q i)) u else 0) Q.length = inN T L u
  | 0, _ => by
    refine Eq.trans (sumN_congr _ fun i hi => ?_) (sumN_zero _)
    rw [cnlN]; split <;> rfl
  | u + 1, h => by
    have ih := within_in W T t0 ht u (by omega)
    rw [inN, ← ih]
    by_cases ho : (gt L u).a ≠ t ∧ (gt L u).b ≠ t
    · obtain ⟨j, hj, hn⟩ := W.all u (by omega) ho
      rw [sumN_upd (f := fun i => if inside T (gt Q i) = true then cnlN L t (norm (gt Q i)) u else 0) (j := j) _ (fun i hi hij => ?_) hj]
      · show _ + ((if inside T (gt Q j) = true then cnlN L t (norm (gt Q j)) (u + 1) else 0) - (if inside T (gt Q j) = true then cnlN L t (norm (gt Q j)) u else 0)) = _
        rw [within_norm T hn, cnlN]
        cases inside T (gt L u)
        · simp
        · rw [if_pos rfl, if_pos (⟨ho, hn.symm⟩ : ((gt L u).a ≠ t ∧ (gt L u).b ≠ t) ∧ norm (gt L u) = norm (gt Q j))]
          simp only [if_true]; omega
      · show (if inside T (gt Q i) = true then cnlN L t (norm (gt Q i)) (u + 1) else 0) = _
        rw [cnlN]
        cases inside T (gt Q i)
        · rfl
        · rw [if_neg (show ¬ (((gt L u).a ≠ t ∧ (gt L u).b ≠ t) ∧ norm (gt L u) = norm (gt Q i)) from fun hh => hij (W.nd i j hi hj (hh.2.symm.trans hn.symm))), Int.add_zero]
    · have hw : inside T (gt L u) = false := by
        unfold inside
        by_cases ha : (gt L u).a = t
        · rw [ha, ht]; rfl
        · have hb : (gt L u).b = t := Classical.byContradiction fun hb => ho ⟨ha, hb⟩
          rw [hb, ht]; exact Bool.and_false _
      rw [hw, if_neg (by simp), Int.add_zero]
      refine sumN_congr _ fun i hi => ?_
      rw [cnlN]
      cases inside T (gt Q i)
      · rfl
      · rw [if_neg (show ¬ (((gt L u).a ≠ t ∧ (gt L u).b ≠ t) ∧ norm (gt L u) = norm (gt Q i)) from fun hh => ho hh.1), Int.add_zero]

/-! Results out of what the first team of each pair gets. -/
def idxP : List Pr → Pr → Nat
  | [], _ => 0
  | x :: l, p => if x = p then 0 else idxP l p + 1
theorem idxP_at : ∀ {l : List Pr} {p : Pr}, p ∈ l → idxP l p < l.length ∧ gt l (idxP l p) = p
  | [], p, h => by cases h
  | x :: l, p, h => by
    unfold idxP
    by_cases hx : x = p
    · rw [if_pos hx]; exact ⟨by simp, hx⟩
    · rw [if_neg hx]
      have hm : p ∈ l := by
        rcases List.mem_cons.1 h with h | h
        · exact absurd h.symm hx
        · exact h
      have := idxP_at hm
      exact ⟨by simp; omega, this.2⟩
def res1 (Q : List Pr) (t : Int) (L : List Pr) (u : Nat) (s : List Int × List Int) : List Int × List Int :=
  if (gt L u).a = t then (s.1, s.2.set u 2) else if (gt L u).b = t then s else
    (s.1.set (idxP Q (norm (gt L u))) (gt s.1 (idxP Q (norm (gt L u))) - min (gt s.1 (idxP Q (norm (gt L u)))) 2),
     s.2.set u (if (gt L u).a ≠ (gt Q (idxP Q (norm (gt L u)))).a then 2 - min (gt s.1 (idxP Q (norm (gt L u)))) 2 else min (gt s.1 (idxP Q (norm (gt L u)))) 2))
def resN (Q : List Pr) (t : Int) (L : List Pr) (Y : List Int) : Nat → List Int × List Int
  | 0 => (Y, List.replicate L.length 0)
  | u + 1 => res1 Q t L u (resN Q t L Y u)
theorem res_len (Q : List Pr) (t : Int) (L : List Pr) (Y : List Int) : ∀ u, (resN Q t L Y u).1.length = Y.length ∧ (resN Q t L Y u).2.length = L.length
  | 0 => ⟨rfl, by simp [resN]⟩
  | u + 1 => by
    have ih := res_len Q t L Y u
    rw [resN, res1]
    split
    · exact ⟨ih.1, by rw [List.length_set]; exact ih.2⟩
    split
    · exact ih
    · exact ⟨by rw [List.length_set]; exact ih.1, by rw [List.length_set]; exact ih.2⟩
/-- What is still to be given, and what a match has been given. -/
theorem res_ok {Q : List Pr} {t : Int} {L : List Pr} {Y : List Int} (hY : ∀ i, 0 ≤ gt Y i) : ∀ u, u ≤ L.length →
    (∀ i, 0 ≤ gt (resN Q t L Y u).1 i ∧ gt (resN Q t L Y u).1 i ≤ gt Y i) ∧ (∀ i, 0 ≤ gt (resN Q t L Y u).2 i ∧ gt (resN Q t L Y u).2 i ≤ 2) ∧ ∀ j, u ≤ j → gt (resN Q t L Y u).2 j = 0
  | 0, _ => ⟨fun i => ⟨hY i, Int.le_refl _⟩, fun i => by rw [resN, gt_rep]; omega, fun j _ => by rw [resN, gt_rep]⟩
  | u + 1, h => by
    obtain ⟨h1, h2, h3⟩ := res_ok (Q := Q) (t := t) (L := L) hY u (by omega)
    have hl := res_len Q t L Y u
    rw [resN, res1]
    split
    · refine ⟨h1, fun i => ?_, fun j hj => ?_⟩
      · rw [gt_set _ _ _ _ (by omega)]
        have := h2 i
        split <;> omega
      · rw [gt_set _ _ _ _ (by omega), if_neg (by omega)]
        exact h3 j (by omega)
    split
    · exact ⟨h1, h2, fun j hj => h3 j (by omega)⟩
    · have hi := h1 (idxP Q (norm (gt L u)))
      refine ⟨fun i => ?_, fun i => ?_, fun j hj => ?_⟩
      · by_cases hq : idxP Q (norm (gt L u)) < (resN Q t L Y u).1.length
        · rw [gt_set _ _ _ _ hq]
          have := h1 i
          split
          · rename_i he; subst he; omega
          · omega
        · rw [List.set_eq_of_length_le (by omega)]; exact h1 i
      · rw [gt_set _ _ _ _ (by omega)]
        have := h2 i
        split
        · split <;> omega
        · omega
      · rw [gt_set _ _ _ _ (by omega), if_neg (by omega)]
        exact h3 j (by omega)
/-- Later matches change nothing of an earlier one. -/
theorem res_keep {Q : List Pr} {t : Int} {L : List Pr} {Y : List Int} {j : Nat} : ∀ u, j < u → u ≤ L.length → gt (resN Q t L Y u).2 j = gt (resN Q t L Y (j + 1)).2 j
  | 0, h, _ => by omega
  | u + 1, h, hu => by
    by_cases hj : j = u
    · rw [hj]
    · have ih := res_keep (Q := Q) (t := t) (L := L) (Y := Y) (j := j) u (by omega) (by omega)
      have hl := res_len Q t L Y u
      rw [← ih, resN, res1]
      split
      · rw [gt_set _ _ _ _ (by omega), if_neg (by omega)]
      split
      · rfl
      · rw [gt_set _ _ _ _ (by omega), if_neg (by omega)]
/-- The pairs in the order of their teams. -/
def NQ (Q : List Pr) : Prop := ∀ i, i < Q.length → norm (gt Q i) = gt Q i
theorem gt_mem {α : Type} [Inhabited α] {l : List α} {i : Nat} (h : i < l.length) : gt l i ∈ l := by
  rw [gt_eq _ _ h]; exact List.getElem_mem _
/-- The points of another team after the results: its own, and what it gets in its pairs. -/
theorem res_play {P : List Int} {L : List Pr} (g : ROK P L) {t : Int} {Q : List Pr} (W : PQ L t Q) (hQ : NQ Q) {Y : List Int} (hY : ∀ i, 0 ≤ gt Y i) (hl : Y.length = Q.length) {R : List Int} (hR : R = (resN Q t L Y L.length).2) (k : Nat) (hk : (k : Int) ≠ t) : ∀ u, u ≤ L.length →
    gt (playN P L R u) k = gt P k + sumN (fun i => (if (gt Q i).a = k then gt Y i - gt (resN Q t L Y u).1 i else 0) + (if (gt Q i).b = k then cnlN L t (gt Q i) u - (gt Y i - gt (resN Q t L Y u).1 i) else 0)) Q.length ∧
      ∀ i, i < Q.length → gt Y i - gt (resN Q t L Y u).1 i = min (gt Y i) (cnlN L t (gt Q i) u)
  | 0, _ => by
    refine ⟨?_, fun i hi => ?_⟩
    · have : sumN (fun i => (if (gt Q i).a = k then gt Y i - gt (resN Q t L Y 0).1 i else 0) + (if (gt Q i).b = k then cnlN L t (gt Q i) 0 - (gt Y i - gt (resN Q t L Y 0).1 i) else 0)) Q.length = 0 := by
        refine Eq.trans (sumN_congr _ fun i hi => ?_) (sumN_zero _)
        rw [resN, cnlN]
        split <;> split <;> simp
      rw [this, playN]; omega
    · have := hY i
      rw [resN, cnlN]; simp only []; omega
  | u + 1, h => by
    obtain ⟨ih, ix⟩ := res_play g W hQ hY hl hR k hk u (by omega)
    have e := g.ed u (by omega)
    have hll := res_len Q t L Y u
    have hru : gt R u = gt (resN Q t L Y (u + 1)).2 u := by rw [hR]; exact res_keep _ (by omega) (Nat.le_refl _)
    rw [play_step g R (by omega), ih, hru]
    by_cases ha : (gt L u).a = t
    · have e1 : resN Q t L Y (u + 1) = ((resN Q t L Y u).1, (resN Q t L Y u).2.set u 2) := by rw [resN, res1, if_pos ha]
      have e2 : ∀ p, cnlN L t p (u + 1) = cnlN L t p u := fun p => by rw [cnlN, if_neg (fun hh => hh.1.1 ha), Int.add_zero]
      simp only [e1, e2]
      refine ⟨?_, ix⟩
      rw [gt_set _ _ _ _ (by omega), if_pos rfl, if_neg (by omega)]
      split <;> omega
    by_cases hb : (gt L u).b = t
    · have e1 : resN Q t L Y (u + 1) = resN Q t L Y u := by rw [resN, res1, if_neg ha, if_pos hb]
      have e2 : ∀ p, cnlN L t p (u + 1) = cnlN L t p u := fun p => by rw [cnlN, if_neg (fun hh => hh.1.2 hb), Int.add_zero]
      simp only [e1, e2]
      refine ⟨?_, ix⟩
      rw [(res_ok hY u (by omega)).2.2 u (Nat.le_refl _)]
      rw [if_neg (show ¬ (gt L u).b = k by omega)]
      split <;> omega
    · obtain ⟨j0, hj0, hn0⟩ := W.all u (by omega) ⟨ha, hb⟩
      have hmem : norm (gt L u) ∈ Q := by rw [← hn0, hQ j0 hj0]; exact gt_mem hj0
      obtain ⟨hj, hjn⟩ := idxP_at hmem
      generalize hjj : idxP Q (norm (gt L u)) = j at hj hjn
      have hg := (res_ok hY (Q := Q) (t := t) u (show u ≤ L.length by omega)).1 j
      have hxj := ix j hj
      have e1 : resN Q t L Y (u + 1) = ((resN Q t L Y u).1.set j (gt (resN Q t L Y u).1 j - min (gt (resN Q t L Y u).1 j) 2), (resN Q t L Y u).2.set u (if (gt L u).a ≠ (gt Q j).a then 2 - min (gt (resN Q t L Y u).1 j) 2 else min (gt (resN Q t L Y u).1 j) 2)) := by rw [resN, res1, if_neg ha, if_neg hb, hjj]
      have e2 : ∀ i, i < Q.length → cnlN L t (gt Q i) (u + 1) = cnlN L t (gt Q i) u + if i = j then 2 else 0 := fun i hi => by
        rw [cnlN]
        by_cases hij : i = j
        · subst hij; rw [if_pos ⟨⟨ha, hb⟩, hjn.symm⟩, if_pos rfl]
        · rw [if_neg hij, if_neg]
          intro hh
          refine hij (W.nd i j hi hj ?_)
          rw [hQ i hi, hQ j hj, ← hh.2, hjn]
      have e3 : ∀ i, gt (resN Q t L Y (u + 1)).1 i = if j = i then gt (resN Q t L Y u).1 j - min (gt (resN Q t L Y u).1 j) 2 else gt (resN Q t L Y u).1 i := fun i => by rw [e1]; exact gt_set _ _ _ _ (by omega)
      have hcr : 0 ≤ cnlN L t (gt Q j) u := by rw [← cnt_oth]; exact (cnt_rng _ _ _).1
      refine ⟨?_, fun i hi => ?_⟩
      · have eo : ∀ i, i < Q.length → i ≠ j → (if (gt Q i).a = k then gt Y i - gt (resN Q t L Y (u + 1)).1 i else 0) + (if (gt Q i).b = k then cnlN L t (gt Q i) (u + 1) - (gt Y i - gt (resN Q t L Y (u + 1)).1 i) else 0) = (if (gt Q i).a = k then gt Y i - gt (resN Q t L Y u).1 i else 0) + (if (gt Q i).b = k then cnlN L t (gt Q i) u - (gt Y i - gt (resN Q t L Y u).1 i) else 0) := fun i hi hij => by
          rw [e3 i, if_neg (show ¬ j = i from fun hh => hij hh.symm), e2 i hi, if_neg hij, Int.add_zero]
        rw [sumN_upd (f := fun i => (if (gt Q i).a = k then gt Y i - gt (resN Q t L Y u).1 i else 0) + (if (gt Q i).b = k then cnlN L t (gt Q i) u - (gt Y i - gt (resN Q t L Y u).1 i) else 0)) (j := j) _ eo hj]
        · rw [e3 j, if_pos (show j = j from rfl), e2 j hj, if_pos (show j = j from rfl), e1]
          simp only []
          rw [gt_set _ _ _ _ (show u < (resN Q t L Y u).2.length by omega), if_pos (show u = u from rfl)]
          have hnm : (gt Q j).a = min (gt L u).a (gt L u).b ∧ (gt Q j).b = max (gt L u).a (gt L u).b := by rw [hjn]; exact ⟨rfl, rfl⟩
          obtain ⟨m1, m2⟩ := hnm
          have hab := e.2.2.2.2
          generalize (gt Q j).a = qa at m1 ⊢
          generalize (gt Q j).b = qb at m2 ⊢
          generalize (gt L u).a = la at m1 m2 hab ⊢
          generalize (gt L u).b = lb at m1 m2 hab ⊢
          generalize gt (resN Q t L Y u).1 j = gj at hg hxj ⊢
          generalize gt Y j = yj at hg hxj ⊢
          generalize cnlN L t (gt Q j) u = cj at hxj hcr ⊢
          generalize sumN _ _ = sm
          clear ih ix hru hll e1 e2 e3 hmem
          by_cases hlt : la < lb
          · have q1 : qa = la := by omega
            have q2 : qb = lb := by omega
            subst q1 q2
            rw [if_neg (show ¬ (qa ≠ qa) from fun hh => hh rfl)]
            by_cases h1 : qa = k <;> by_cases h2 : qb = k
            · omega
            · simp only [if_pos h1, if_neg h2]; omega
            · simp only [if_neg h1, if_pos h2]; omega
            · simp only [if_neg h1, if_neg h2]; omega
          · have q1 : qa = lb := by omega
            have q2 : qb = la := by omega
            subst q1 q2
            rw [if_pos hab]
            by_cases h1 : qa = k <;> by_cases h2 : qb = k
            · omega
            · simp only [if_pos h1, if_neg h2]; omega
            · simp only [if_neg h1, if_pos h2]; omega
            · simp only [if_neg h1, if_neg h2]; omega
      · rw [e3 i, e2 i hi]
        by_cases hij : i = j
        · subst hij
          rw [if_pos rfl, if_pos rfl]
          have := hY i
          omega
        · rw [if_neg (fun hh => hij hh.symm), if_neg hij, Int.add_zero]
          exact ix i hi
/-- Where all comes that can come to the pairs, the results make the team first. -/
theorem res_first {P : List Int} {L : List Pr} (g : ROK P L) {t goal : Int} {Q : List Pr} (W : PQ L t Q) (hQ : NQ Q) {Y : List Int} (hl : Y.length = Q.length) {x z e : Nat → Int} {T V : Nat → Bool}
    (B : BF P.length Q.length Q (fun i => cnlN L t (gt Q i) L.length) P goal t x (fun i => gt Y i) z e T V) (hY : ∀ i, 0 ≤ gt Y i) (full : ∀ i, i < Q.length → x i = cnlN L t (gt Q i) L.length)
    (k : Nat) (hkl : k < P.length) (hk : (k : Int) ≠ t) : gt (playN P L (resN Q t L Y L.length).2 L.length) k ≤ goal := by
  obtain ⟨h1, h2⟩ := res_play g W hQ hY hl rfl k hk L.length (Nat.le_refl _)
  rw [h1]
  have e1 : sumN (fun i => (if (gt Q i).a = k then gt Y i - gt (resN Q t L Y L.length).1 i else 0) + (if (gt Q i).b = k then cnlN L t (gt Q i) L.length - (gt Y i - gt (resN Q t L Y L.length).1 i) else 0)) Q.length = e k := by
    rw [B.tc k hkl hk]
    refine sumN_congr _ fun i hi => ?_
    have b1 := B.y0 i hi
    have b2 := B.pc i hi
    have b3 := full i hi
    have b4 := h2 i hi
    have b5 : min (gt Y i) (cnlN L t (gt Q i) L.length) = gt Y i := by have : gt Y i ≤ cnlN L t (gt Q i) L.length := b1.2; omega
    have b6 : x i = gt Y i + z i := b2
    rw [b4, b5, show cnlN L t (gt Q i) L.length - gt Y i = z i by omega]
  rw [e1]
  have := B.e0 k hkl hk
  omega
/-- The team itself wins its matches. -/
theorem res_own {Q : List Pr} {t : Int} {L : List Pr} {Y : List Int} (hY : ∀ i, 0 ≤ gt Y i) {u : Nat} (hu : u < L.length) :
    ((gt L u).a = t → gt (resN Q t L Y L.length).2 u = 2) ∧ ((gt L u).a ≠ t → (gt L u).b = t → gt (resN Q t L Y L.length).2 u = 0) := by
  have hl := res_len Q t L Y u
  rw [res_keep L.length hu (Nat.le_refl _), resN, res1]
  refine ⟨fun ha => ?_, fun ha hb => ?_⟩
  · rw [if_pos ha, gt_set _ _ _ _ (by omega), if_pos rfl]
  · rw [if_neg ha, if_pos hb]
    exact (res_ok hY u (by omega)).2.2 u (Nat.le_refl _)
theorem res_goal {P : List Int} {L : List Pr} (g : ROK P L) {Q : List Pr} {t : Int} (t0 : 0 ≤ t) {Y : List Int} (hY : ∀ i, 0 ≤ gt Y i) : ∀ u, u ≤ L.length → gt (playN P L (resN Q t L Y L.length).2 u) t.toNat = mostN P L t u
  | 0, _ => rfl
  | u + 1, h => by
    have ih := res_goal g t0 hY u (by omega) (Q := Q)
    have e := g.ed u (by omega)
    have r := res_own (Q := Q) (t := t) hY (show u < L.length by omega)
    rw [play_step g _ (by omega), ih, mostN]
    by_cases ha : (gt L u).a = t <;> by_cases hb : (gt L u).b = t
    · omega
    · rw [if_pos (by omega), if_neg (by omega), if_pos (.inl ha), r.1 ha]; omega
    · rw [if_neg (by omega), if_pos (by omega), if_pos (.inr hb), r.2 ha hb]; omega
    · rw [if_neg (by omega), if_neg (by omega), if_neg (by omega)]; omega
end Go.Proofs.Ytdmeioppkannlaa
end
section
set_option linter.unusedVariables false
namespace Go.Proofs.Ytdmeioppkannlaa
open Go Go.Am

def gE1 (pb tb : Int) (c : Nat → Int) (Q : List Pr) (i : Nat) : List Ed := [⟨0, pb + i, c i⟩, ⟨pb + i, tb + (gt Q i).a, c i⟩, ⟨pb + i, tb + (gt Q i).b, c i⟩]
def gEa (pb tb : Int) (c : Nat → Int) (Q : List Pr) : Nat → List Ed
  | 0 => []
  | i + 1 => gEa pb tb c Q i ++ gE1 pb tb c Q i
def gEb (tb : Int) (P : List Int) (t goal : Int) (A : List Ed) : Nat → List Ed
  | 0 => A
  | k + 1 => if (k : Int) ≠ t then gEb tb P t goal A k ++ [⟨tb + k, 1, goal - gt P k⟩] else gEb tb P t goal A k
abbrev gE (pb tb : Int) (c : Nat → Int) (Q : List Pr) (P : List Int) (t goal : Int) : List Ed := gEb tb P t goal (gEa pb tb c Q Q.length) P.length
theorem gEa_len (pb tb : Int) (c : Nat → Int) (Q : List Pr) : ∀ i, (gEa pb tb c Q i).length = 3 * i
  | 0 => rfl
  | i + 1 => by rw [gEa, List.length_append, gEa_len pb tb c Q i]; simp only [gE1, List.length_cons, List.length_nil]; omega
theorem gEb_len (tb : Int) (P : List Int) (t goal : Int) (A : List Ed) : ∀ k, A.length ≤ (gEb tb P t goal A k).length ∧ (gEb tb P t goal A k).length ≤ A.length + k
  | 0 => by rw [gEb]; omega
  | k + 1 => by
    have := gEb_len tb P t goal A k
    rw [gEb]
    split
    · simp; omega
    · omega
theorem gt_appr {α : Type} [Inhabited α] (l m : List α) (k : Nat) : gt (l ++ m) (l.length + k) = gt m k := by
  simp [gt, List.getD_eq_getElem?_getD, List.getElem?_append_right (Nat.le_add_right l.length k)]
theorem gEa_at (pb tb : Int) (c : Nat → Int) (Q : List Pr) (i j : Nat) (hj : j < 3) : ∀ q, i < q → gt (gEa pb tb c Q q) (3 * i + j) = gt (gE1 pb tb c Q i) j
  | 0, h => by omega
  | q + 1, h => by
    rw [gEa]
    by_cases hq : i = q
    · subst hq
      rw [← gEa_len pb tb c Q i, gt_appr]
    · rw [gt_app _ _ _ (by rw [gEa_len]; omega), gEa_at pb tb c Q i j hj q (by omega)]
theorem gEb_lo (tb : Int) (P : List Int) (t goal : Int) (A : List Ed) (j : Nat) (hj : j < A.length) : ∀ k, gt (gEb tb P t goal A k) j = gt A j
  | 0 => rfl
  | k + 1 => by
    have h := gEb_len tb P t goal A k
    rw [gEb]
    split
    · rw [gt_app _ _ _ (by omega), gEb_lo tb P t goal A j hj k]
    · exact gEb_lo tb P t goal A j hj k
theorem gEb_at (tb : Int) (P : List Int) (t goal : Int) (A : List Ed) (k : Nat) (hk : (k : Int) ≠ t) : ∀ N, k < N → (gEb tb P t goal A k).length < (gEb tb P t goal A N).length ∧ gt (gEb tb P t goal A N) (gEb tb P t goal A k).length = ⟨tb + k, 1, goal - gt P k⟩
  | 0, h => by omega
  | N + 1, h => by
    by_cases hN : k = N
    · subst hN
      rw [gEb.eq_2, if_pos hk]
      exact ⟨by simp, by rw [gt_last]⟩
    · obtain ⟨h1, h2⟩ := gEb_at tb P t goal A k hk N (by omega)
      rw [gEb.eq_2 tb P t goal A N]
      split
      · exact ⟨by simp; omega, by rw [gt_app _ _ _ h1]; exact h2⟩
      · exact ⟨h1, h2⟩
theorem gE_pair (pb tb : Int) (c : Nat → Int) (Q : List Pr) (P : List Int) (t goal : Int) (i j : Nat) (hi : i < Q.length) (hj : j < 3) : gt (gE pb tb c Q P t goal) (3 * i + j) = gt (gE1 pb tb c Q i) j := by
  rw [gE, gEb_lo _ _ _ _ _ _ (by rw [gEa_len]; omega), gEa_at _ _ _ _ _ _ hj _ hi]
theorem gE_len (pb tb : Int) (c : Nat → Int) (Q : List Pr) (P : List Int) (t goal : Int) : 3 * Q.length ≤ (gE pb tb c Q P t goal).length ∧ (gE pb tb c Q P t goal).length ≤ 3 * Q.length + P.length := by
  have := gEb_len tb P t goal (gEa pb tb c Q Q.length) P.length
  rw [gEa_len] at this
  exact this
/-- Every edge is one of a pair or that of a team. -/
theorem gE_mem {pb tb : Int} {c : Nat → Int} {Q : List Pr} {P : List Int} {t goal : Int} {x : Ed} (h : x ∈ gE pb tb c Q P t goal) :
    (∃ i, i < Q.length ∧ (x = ⟨0, pb + i, c i⟩ ∨ x = ⟨pb + i, tb + (gt Q i).a, c i⟩ ∨ x = ⟨pb + i, tb + (gt Q i).b, c i⟩)) ∨ ∃ k : Nat, k < P.length ∧ (k : Int) ≠ t ∧ x = ⟨tb + k, 1, goal - gt P k⟩ := by
  have ha : ∀ q, x ∈ gEa pb tb c Q q → ∃ i, i < q ∧ (x = ⟨0, pb + i, c i⟩ ∨ x = ⟨pb + i, tb + (gt Q i).a, c i⟩ ∨ x = ⟨pb + i, tb + (gt Q i).b, c i⟩) := by
    intro q
    induction q with
    | zero => intro h; cases h
    | succ q ih =>
      intro h
      rw [gEa] at h
      rcases List.mem_append.1 h with h | h
      · obtain ⟨i, h1, h2⟩ := ih h
        exact ⟨i, by omega, h2⟩
      · refine ⟨q, by omega, ?_⟩
        simpa [gE1] using h
  have hb : ∀ N, x ∈ gEb tb P t goal (gEa pb tb c Q Q.length) N → x ∈ gEa pb tb c Q Q.length ∨ ∃ k : Nat, k < N ∧ (k : Int) ≠ t ∧ x = ⟨tb + k, 1, goal - gt P k⟩ := by
    intro N
    induction N with
    | zero => intro h; exact .inl h
    | succ N ih =>
      intro h
      rw [gEb] at h
      by_cases ht : (N : Int) ≠ t
      · rw [if_pos ht] at h
        rcases List.mem_append.1 h with h | h
        · rcases ih h with h | ⟨k, h1, h2⟩
          · exact .inl h
          · exact .inr ⟨k, by omega, h2⟩
        · exact .inr ⟨N, by omega, ht, by simpa using h⟩
      · rw [if_neg ht] at h
        rcases ih h with h | ⟨k, h1, h2⟩
        · exact .inl h
        · exact .inr ⟨k, by omega, h2⟩
  rcases hb _ h with h | h
  · exact .inl (ha _ h)
  · exact .inr h
theorem exc_app (A X : List Ed) (f : List Int) (v : Int) : ∀ u, u ≤ A.length → exc (A ++ X) f v u = exc A f v u
  | 0, _ => rfl
  | u + 1, h => by rw [exc, exc, exc_app A X f v u (by omega), gt_app _ _ _ (by omega)]
def ptE (pb tb : Int) (Q : List Pr) (f : List Int) (v : Int) (i : Nat) : Int :=
  (if 0 = v then gt f (3 * i) else 0) + (if pb + i = v then gt f (3 * i + 1) + gt f (3 * i + 2) - gt f (3 * i) else 0) - ((if tb + (gt Q i).a = v then gt f (3 * i + 1) else 0) + (if tb + (gt Q i).b = v then gt f (3 * i + 2) else 0))
theorem exc_a (pb tb : Int) (c : Nat → Int) (Q : List Pr) (f : List Int) (v : Int) (hp : 2 ≤ pb) (ht : 2 ≤ tb) (hd : ∀ i, i < Q.length → pb + i ≠ tb + (gt Q i).a ∧ pb + i ≠ tb + (gt Q i).b) : ∀ q, q ≤ Q.length → exc (gEa pb tb c Q q) f v (3 * q) = sumN (ptE pb tb Q f v) q
  | 0, _ => rfl
  | q + 1, h => by
    have hl := gEa_len pb tb c Q q
    have a0 : gt (gEa pb tb c Q (q + 1)) (3 * q) = ⟨0, pb + q, c q⟩ := gEa_at pb tb c Q q 0 (by omega) (q + 1) (by omega)
    have a1 : gt (gEa pb tb c Q (q + 1)) (3 * q + 1) = ⟨pb + q, tb + (gt Q q).a, c q⟩ := gEa_at pb tb c Q q 1 (by omega) (q + 1) (by omega)
    have a2 : gt (gEa pb tb c Q (q + 1)) (3 * q + 2) = ⟨pb + q, tb + (gt Q q).b, c q⟩ := gEa_at pb tb c Q q 2 (by omega) (q + 1) (by omega)
    have e0 : exc (gEa pb tb c Q (q + 1)) f v (3 * q) = sumN (ptE pb tb Q f v) q := by
      rw [← exc_a pb tb c Q f v hp ht hd q (by omega), gEa, exc_app _ _ _ _ _ (by omega)]
    have hdq := hd q (by omega)
    rw [show 3 * (q + 1) = 3 * q + 1 + 1 + 1 by omega, exc, exc, exc, e0, a0, a1, a2, sumN, ptE]
    simp only []
    by_cases h0 : 0 = v <;> by_cases h1 : pb + (q : Int) = v <;> by_cases h2 : tb + (gt Q q).a = v <;> by_cases h3 : tb + (gt Q q).b = v <;> simp only [h0, h1, h2, h3, if_true, if_false] <;> omega
theorem exc_b (tb : Int) (P : List Int) (t goal : Int) (A : List Ed) (f : List Int) (v : Int) (hv : v ≠ 1) : ∀ N, exc (gEb tb P t goal A N) f v (gEb tb P t goal A N).length = exc A f v A.length + sumN (fun k => if (k : Int) ≠ t ∧ tb + k = v then gt f (gEb tb P t goal A k).length else 0) N
  | 0 => by rw [gEb, sumN, Int.add_zero]
  | N + 1 => by
    have ih := exc_b tb P t goal A f v hv N
    rw [sumN, gEb]
    by_cases ht : (N : Int) ≠ t
    · rw [if_pos ht, List.length_append, List.length_singleton, exc, exc_app _ _ _ _ _ (Nat.le_refl _), ih, gt_last]
      simp only []
      rw [if_neg (show ¬ (1 = v) from fun hh => hv hh.symm)]
      by_cases h1 : tb + (N : Int) = v
      · rw [if_pos h1, if_pos ⟨ht, h1⟩]; omega
      · rw [if_neg h1, if_neg (fun hh => h1 hh.2)]; omega
    · rw [if_neg ht, if_neg (fun hh => ht hh.1), ih]; omega
/-- Where the nodes of pairs and teams lie. -/
structure LayG (pb tb n : Int) (q N : Nat) : Prop where
  p2 : 2 ≤ pb
  t2 : 2 ≤ tb
  pn : pb + q ≤ n
  tn : tb + N ≤ n
  dis : pb + q ≤ tb ∨ tb + N ≤ pb
theorem seen_clos {n s t : Int} {E : List Ed} {f : List Int} (g : GOK n s t E) {v : Int} (h0 : 0 ≤ v) (h1 : v < n) (h : gt (reachS n s E f).seen v.toNat = true) (i : Nat) (hi : i < E.length) : clos1 E f (reachS n s E f).seen v i := by
  obtain ⟨ord, so, R, hc⟩ := reach_inv f g
  obtain ⟨k, hk, hkv⟩ := (R.seen v h0 h1).1 h
  rw [← hkv]
  exact hc k hk i hi
/-- A flow in the graph, from which nothing more goes to the sink, as one between pairs and teams. -/
theorem bf_of {pb tb n t goal : Int} {c : Nat → Int} {Q : List Pr} {P : List Int} {f : List Int} (ly : LayG pb tb n Q.length P.length) (t0 : 0 ≤ t) (t1 : t < P.length) (g : GOK n 0 1 (gE pb tb c Q P t goal)) (F : FlowOK n 0 1 (gE pb tb c Q P t goal) f) (hs : gt (reachS n 0 (gE pb tb c Q P t goal) f).seen 1 = false)
    (hq : ∀ i, i < Q.length → 0 ≤ (gt Q i).a ∧ (gt Q i).a < P.length ∧ 0 ≤ (gt Q i).b ∧ (gt Q i).b < P.length ∧ (gt Q i).a ≠ (gt Q i).b ∧ (gt Q i).a ≠ t ∧ (gt Q i).b ≠ t) :
    BF P.length Q.length Q c P goal t (fun i => gt f (3 * i)) (fun i => gt f (3 * i + 1)) (fun i => gt f (3 * i + 2)) (fun k => gt f (gEb tb P t goal (gEa pb tb c Q Q.length) k).length)
      (fun k => gt (reachS n 0 (gE pb tb c Q P t goal) f).seen (tb.toNat + k)) (fun i => gt (reachS n 0 (gE pb tb c Q P t goal) f).seen (pb.toNat + i)) := by
  obtain ⟨l1, l2, l3, l4, l5⟩ := ly
  have hlen := gE_len pb tb c Q P t goal
  have hE0 := fun i hi => gE_pair pb tb c Q P t goal i 0 hi (by omega)
  have hE1 := fun i hi => gE_pair pb tb c Q P t goal i 1 hi (by omega)
  have hE2 := fun i hi => gE_pair pb tb c Q P t goal i 2 hi (by omega)
  have hEk := fun (k : Nat) (hk : k < P.length) (hkt : (k : Int) ≠ t) => gEb_at tb P t goal (gEa pb tb c Q Q.length) k hkt P.length hk
  have hexc : ∀ v, v ≠ 1 → exc (gE pb tb c Q P t goal) f v (gE pb tb c Q P t goal).length = sumN (ptE pb tb Q f v) Q.length + sumN (fun k => if (k : Int) ≠ t ∧ tb + k = v then gt f (gEb tb P t goal (gEa pb tb c Q Q.length) k).length else 0) P.length := fun v hv => by
    rw [gE, exc_b _ _ _ _ _ _ _ hv, gEa_len, exc_a pb tb c Q f v l1 l2 (fun i hi => by have := hq i hi; omega) _ (Nat.le_refl _)]
  have tn : ∀ x : Int, 0 ≤ x → (tb + x).toNat = tb.toNat + x.toNat := fun x hx => by omega
  have pn : ∀ i : Nat, (pb + (i : Int)).toNat = pb.toNat + i := fun i => by omega
  have r0 := fun i (hi : i < Q.length) => F.rng (3 * i) (by omega)
  have r1 := fun i (hi : i < Q.length) => F.rng (3 * i + 1) (by omega)
  have r2 := fun i (hi : i < Q.length) => F.rng (3 * i + 2) (by omega)
  have hsrc : gt (reachS n 0 (gE pb tb c Q P t goal) f).seen (0 : Int).toNat = true := by
    obtain ⟨ord, so, R, _⟩ := reach_inv f g
    exact (R.seen 0 (by omega) (by have := g.n2; omega)).2 ⟨0, R.pos, R.hd⟩
  refine ⟨hq, fun i hi => ?_, fun i hi => ?_, fun i hi => ?_, fun k hk hkt => ?_, fun i hi => ?_, fun k hk hkt => ?_, fun i hi hx => ?_, fun i hi hv hy => ?_, fun i hi hv hz => ?_, fun i hi ht hy => ?_, fun i hi ht hz => ?_, fun k hk hkt ht => ?_, fun k hk ht hkt => ?_⟩
  · have := r0 i hi; have e := hE0 i hi; simp only [Nat.add_zero] at e; rw [e] at this; exact this
  · have := r1 i hi; rw [hE1 i hi] at this; exact this
  · have := r2 i hi; rw [hE2 i hi] at this; exact this
  · obtain ⟨h1, h2⟩ := hEk k hk hkt
    have := F.rng _ h1
    rw [h2] at this
    exact this
  · have h := F.con (pb + i) (by omega) (by omega) (by omega) (by omega)
    rw [hexc _ (by omega)] at h
    have k1 : sumN (ptE pb tb Q f (pb + i)) Q.length = sumN (fun j => if j = i then gt f (3 * i + 1) + gt f (3 * i + 2) - gt f (3 * i) else 0) Q.length := sumN_congr _ fun j hj => by
      have := hq j hj
      rw [ptE, if_neg (by omega), if_neg (show ¬ tb + (gt Q j).a = pb + (i : Int) by omega), if_neg (show ¬ tb + (gt Q j).b = pb + (i : Int) by omega)]
      by_cases hij : j = i
      · subst hij; rw [if_pos rfl, if_pos rfl]; omega
      · rw [if_neg (by omega), if_neg hij]; omega
    have k2 : sumN (fun k => if (k : Int) ≠ t ∧ tb + k = pb + i then gt f (gEb tb P t goal (gEa pb tb c Q Q.length) k).length else 0) P.length = 0 := by
      refine Eq.trans (sumN_congr _ fun k hk => ?_) (sumN_zero _)
      rw [if_neg (by omega)]
    rw [k1, k2, sumN_one, if_pos hi] at h
    show gt f (3 * i) = gt f (3 * i + 1) + gt f (3 * i + 2)
    omega
  · have h := F.con (tb + k) (by omega) (by omega) (by omega) (by omega)
    rw [hexc _ (by omega)] at h
    have k2 : sumN (fun j => if (j : Int) ≠ t ∧ tb + j = tb + k then gt f (gEb tb P t goal (gEa pb tb c Q Q.length) j).length else 0) P.length = sumN (fun j => if j = k then gt f (gEb tb P t goal (gEa pb tb c Q Q.length) k).length else 0) P.length := sumN_congr _ fun j hj => by
      by_cases hjk : j = k
      · subst hjk; rw [if_pos ⟨hkt, rfl⟩, if_pos rfl]
      · rw [if_neg (by omega), if_neg hjk]
    have k1 : sumN (ptE pb tb Q f (tb + k)) Q.length + sumN (fun i => (if (gt Q i).a = k then gt f (3 * i + 1) else 0) + (if (gt Q i).b = k then gt f (3 * i + 2) else 0)) Q.length = 0 := by
      rw [← sumN_add]
      refine Eq.trans (sumN_congr _ fun i hi => ?_) (sumN_zero _)
      rw [ptE, if_neg (by omega), if_neg (by omega)]
      have e1 : (tb + (gt Q i).a = tb + k) = ((gt Q i).a = k) := propext (by omega)
      have e2 : (tb + (gt Q i).b = tb + k) = ((gt Q i).b = k) := propext (by omega)
      simp only [e1, e2]
      omega
    rw [k2, sumN_one, if_pos hk] at h
    show gt f (gEb tb P t goal (gEa pb tb c Q Q.length) k).length = _
    omega
  · have h := (seen_clos g (by omega) (by have := g.n2; omega) hsrc (3 * i) (by omega)).1
    have e := hE0 i hi
    simp only [Nat.add_zero] at e
    rw [e] at h
    have := h rfl hx
    rwa [show (gt (gE1 pb tb c Q i) 0).b.toNat = pb.toNat + i from pn i] at this
  · have h := (seen_clos g (v := pb + i) (by omega) (by omega) (by rw [pn]; exact hv) (3 * i + 1) (by omega)).1
    rw [hE1 i hi] at h
    have hqi := hq i hi
    have := h rfl hy
    rwa [show (gt (gE1 pb tb c Q i) 1).b.toNat = tb.toNat + (gt Q i).a.toNat from tn _ hqi.1] at this
  · have h := (seen_clos g (v := pb + i) (by omega) (by omega) (by rw [pn]; exact hv) (3 * i + 2) (by omega)).1
    rw [hE2 i hi] at h
    have hqi := hq i hi
    have := h rfl hz
    rwa [show (gt (gE1 pb tb c Q i) 2).b.toNat = tb.toNat + (gt Q i).b.toNat from tn _ hqi.2.2.1] at this
  · have hqi := hq i hi
    have h := (seen_clos g (v := tb + (gt Q i).a) (by omega) (by omega) (by rw [tn _ hqi.1]; exact ht) (3 * i + 1) (by omega)).2
    rw [hE1 i hi] at h
    have := h rfl hy
    rwa [show (gt (gE1 pb tb c Q i) 1).a.toNat = pb.toNat + i from pn i] at this
  · have hqi := hq i hi
    have h := (seen_clos g (v := tb + (gt Q i).b) (by omega) (by omega) (by rw [tn _ hqi.2.2.1]; exact ht) (3 * i + 2) (by omega)).2
    rw [hE2 i hi] at h
    have := h rfl hz
    rwa [show (gt (gE1 pb tb c Q i) 2).a.toNat = pb.toNat + i from pn i] at this
  · obtain ⟨h1, h2⟩ := hEk k hk hkt
    have hr := F.rng _ h1
    have h := (seen_clos g (v := tb + k) (by omega) (by omega) (by rw [tn _ (by omega)]; exact ht) _ h1).1
    rw [h2] at h hr
    simp only [] at h hr
    refine Classical.byContradiction fun hn => ?_
    have := h trivial (by omega)
    rw [show (1 : Int).toNat = 1 from rfl, hs] at this
    cases this
  · obtain ⟨ord, so, R, _⟩ := reach_inv f g
    have ht' : gt (reachS n 0 (gE pb tb c Q P t goal) f).seen (tb + k).toNat = true := by rw [tn _ (by omega)]; exact ht
    obtain ⟨j, hj, hjv⟩ := (R.seen (tb + k) (by omega) (by omega)).1 ht'
    have hj0 : 0 < j := by
      rcases Nat.eq_zero_or_pos j with h | h
      · subst h; rw [R.hd] at hjv; omega
      · exact h
    obtain ⟨a1, a2, _⟩ := R.arc j hj0 hj
    rw [hjv] at a1 a2
    generalize gt (reachS n 0 (gE pb tb c Q P t goal) f).way (tb + ↑k).toNat = cc at a1 a2
    have hm := gt_mem a1.ix
    have bad : ∀ e : Ed, e ∈ gE pb tb c Q P t goal → e.a ≠ tb + k ∧ e.b ≠ tb + k := by
      intro e he
      rcases gE_mem he with ⟨i, hi, h⟩ | ⟨k', h1, h2, rfl⟩
      · have := hq i hi
        rcases h with rfl | rfl | rfl <;> simp only [] <;> omega
      · simp only []; omega
    have hb := bad _ hm
    unfold headE at a2
    split at a2
    · exact hb.2 a2
    · exact hb.1 a2
end Go.Proofs.Ytdmeioppkannlaa
end
section
set_option linter.unusedVariables false
namespace Go.Proofs.Ytdmeioppkannlaa
open Go Go.Am

theorem seen_least {n s t : Int} {E : List Ed} {f : List Int} (g : GOK n s t E) (C : Int → Prop) (hs : C s)
    (hc : ∀ i, i < E.length → (C (gt E i).a → gt f i < (gt E i).c → C (gt E i).b) ∧ (C (gt E i).b → 0 < gt f i → C (gt E i).a)) {v : Int} (h0 : 0 ≤ v) (h1 : v < n) (h : gt (reachS n s E f).seen v.toNat = true) : C v := by
  obtain ⟨ord, so, R, _⟩ := reach_inv f g
  have key : ∀ k, k < ord.length → C (gt ord k) := by
    intro k
    induction k using Nat.strongRecOn with
    | ind k ih =>
      intro hk
      by_cases hk0 : k = 0
      · subst hk0; rw [R.hd]; exact hs
      · obtain ⟨a1, a2, j, a3, a4⟩ := R.arc k (by omega) hk
        have hj := ih j a3 (by omega)
        rw [← a4] at hj
        rw [← a2]
        generalize gt (reachS n s E f).way (gt ord k).toNat = c at *
        have hx := hc _ a1.ix
        have hr := a1.room
        unfold tailE at hj
        unfold headE
        unfold roomI at hr
        by_cases hp : 0 < c
        · rw [if_pos hp] at hj hr ⊢
          exact hx.1 hj (by omega)
        · rw [if_neg hp] at hj hr ⊢
          exact hx.2 hj hr
  obtain ⟨k, hk, hkv⟩ := (R.seen v h0 h1).1 h
  rw [← hkv]
  exact key k hk
/-- Every edge's number is one of a pair or that of a team. -/
theorem gE_ix (pb tb : Int) (c : Nat → Int) (Q : List Pr) (P : List Int) (t goal : Int) {j : Nat} (h : j < (gE pb tb c Q P t goal).length) :
    (∃ i r, i < Q.length ∧ r < 3 ∧ j = 3 * i + r) ∨ ∃ k : Nat, k < P.length ∧ (k : Int) ≠ t ∧ j = (gEb tb P t goal (gEa pb tb c Q Q.length) k).length := by
  by_cases hj : j < 3 * Q.length
  · exact .inl ⟨j / 3, j % 3, by omega, Nat.mod_lt _ (by decide), by omega⟩
  · refine .inr ?_
    have key : ∀ N, j < (gEb tb P t goal (gEa pb tb c Q Q.length) N).length → ∃ k : Nat, k < N ∧ (k : Int) ≠ t ∧ j = (gEb tb P t goal (gEa pb tb c Q Q.length) k).length := by
      intro N
      induction N with
      | zero => intro h; rw [gEb, gEa_len] at h; omega
      | succ N ih =>
        intro h
        rw [gEb] at h
        by_cases ht : (N : Int) ≠ t
        · rw [if_pos ht, List.length_append, List.length_singleton] at h
          by_cases hl : j < (gEb tb P t goal (gEa pb tb c Q Q.length) N).length
          · obtain ⟨k, h1, h2⟩ := ih hl
            exact ⟨k, by omega, h2⟩
          · exact ⟨N, by omega, ht, by omega⟩
        · rw [if_neg ht] at h
          obtain ⟨k, h1, h2⟩ := ih h
          exact ⟨k, by omega, h2⟩
    exact key _ h
/-- Whatever is closed under the arcs that are left has the teams that can be reached. -/
theorem bf_least {pb tb n t goal : Int} {c : Nat → Int} {Q : List Pr} {P : List Int} {f : List Int} (ly : LayG pb tb n Q.length P.length) (g : GOK n 0 1 (gE pb tb c Q P t goal))
    (hq : ∀ i, i < Q.length → 0 ≤ (gt Q i).a ∧ (gt Q i).a < P.length ∧ 0 ≤ (gt Q i).b ∧ (gt Q i).b < P.length ∧ (gt Q i).a ≠ (gt Q i).b ∧ (gt Q i).a ≠ t ∧ (gt Q i).b ≠ t)
    (T V : Nat → Bool) (c1 : ∀ i, i < Q.length → gt f (3 * i) < c i → V i = true)
    (c2 : ∀ i, i < Q.length → V i = true → T (gt Q i).a.toNat = true ∧ T (gt Q i).b.toNat = true)
    (c4 : ∀ i, i < Q.length → T (gt Q i).a.toNat = true → 0 < gt f (3 * i + 1) → V i = true)
    (c5 : ∀ i, i < Q.length → T (gt Q i).b.toNat = true → 0 < gt f (3 * i + 2) → V i = true)
    (c6 : ∀ k : Nat, k < P.length → (k : Int) ≠ t → T k = true → gt f (gEb tb P t goal (gEa pb tb c Q Q.length) k).length = goal - gt P k)
    {k : Nat} (hk : k < P.length) (h : gt (reachS n 0 (gE pb tb c Q P t goal) f).seen (tb.toNat + k) = true) : T k = true := by
  obtain ⟨l1, l2, l3, l4, l5⟩ := ly
  have hlen := gE_len pb tb c Q P t goal
  have hE0 := fun i hi => gE_pair pb tb c Q P t goal i 0 hi (by omega)
  have hE1 := fun i hi => gE_pair pb tb c Q P t goal i 1 hi (by omega)
  have hE2 := fun i hi => gE_pair pb tb c Q P t goal i 2 hi (by omega)
  simp only [Nat.add_zero] at hE0
  have hEk := fun (k : Nat) (hk : k < P.length) (hkt : (k : Int) ≠ t) => gEb_at tb P t goal (gEa pb tb c Q Q.length) k hkt P.length hk
  let C : Int → Prop := fun v => v = 0 ∨ (∃ i : Nat, i < Q.length ∧ v = pb + i ∧ V i = true) ∨ ∃ k : Nat, k < P.length ∧ v = tb + k ∧ T k = true
  have fromP : ∀ i : Nat, i < Q.length → C (pb + i) → V i = true := by
    rintro i hi (h | ⟨j, h1, h2, h3⟩ | ⟨j, h1, h2, h3⟩)
    · omega
    · have : i = j := by omega
      subst this; exact h3
    · omega
  have fromT : ∀ x : Int, 0 ≤ x → x < P.length → C (tb + x) → T x.toNat = true := by
    rintro i hi hi2 (h | ⟨j, h1, h2, h3⟩ | ⟨j, h1, h2, h3⟩)
    · omega
    · omega
    · have : i.toNat = j := by omega
      rw [this]; exact h3
  have toT : ∀ x : Int, 0 ≤ x → x < P.length → T x.toNat = true → C (tb + x) := fun x h0 h1 h => .inr (.inr ⟨x.toNat, by omega, by omega, h⟩)
  have hC : C (tb + k) := by
    refine seen_least (f := f) g C (.inl rfl) (fun j hj => ?_) (by omega) (by omega) (by rw [show (tb + (k : Int)).toNat = tb.toNat + k by omega]; exact h)
    rcases gE_ix pb tb c Q P t goal hj with ⟨i, r, hi, hr, rfl⟩ | ⟨k', hk', hkt, rfl⟩
    · have q := hq i hi
      have hr3 : r = 0 ∨ r = 1 ∨ r = 2 := by omega
      rcases hr3 with rfl | rfl | rfl
      · rw [Nat.add_zero, hE0 i hi]
        exact ⟨fun _ hx => .inr (.inl ⟨i, hi, rfl, c1 i hi hx⟩), fun _ _ => .inl rfl⟩
      · rw [hE1 i hi]
        exact ⟨fun hx _ => toT _ q.1 q.2.1 (c2 i hi (fromP i hi hx)).1, fun hx h0 => .inr (.inl ⟨i, hi, rfl, c4 i hi (fromT _ q.1 q.2.1 hx) h0⟩)⟩
      · rw [hE2 i hi]
        exact ⟨fun hx _ => toT _ q.2.2.1 q.2.2.2.1 (c2 i hi (fromP i hi hx)).2, fun hx h0 => .inr (.inl ⟨i, hi, rfl, c5 i hi (fromT _ q.2.2.1 q.2.2.2.1 hx) h0⟩)⟩
    · obtain ⟨e1, e2⟩ := hEk k' hk' hkt
      rw [e2]
      refine ⟨fun hx hl => ?_, fun hx _ => ?_⟩
      · have := c6 k' hk' hkt (fromT _ (by omega) (by omega) hx)
        simp only [] at hl
        omega
      · rcases hx with h | ⟨j, h1, h2, h3⟩ | ⟨j, h1, h2, h3⟩
        · simp only [] at h; omega
        · simp only [] at h2; omega
        · simp only [] at h2; omega
  exact fromT _ (by omega) (by omega) hC

/-- By how much the points among some teams are too many. -/
def defD (P : List Int) (L : List Pr) (goal : Int) (S : Nat → Bool) : Int := inN S L L.length - sumN (fun k => if S k = true then goal - gt P k else 0) P.length
abbrev cQ (L : List Pr) (t : Int) (Q : List Pr) (i : Nat) : Int := cnlN L t (norm (gt Q i)) L.length
section
variable {L : List Pr} {Q : List Pr} {P : List Int} {goal t : Int} {x y z e : Nat → Int} {T V : Nat → Bool}
theorem sumN_sub (f g : Nat → Int) (n : Nat) : sumN (fun i => f i - g i) n = sumN f n - sumN g n := by
  have h := sumN_add (fun i => f i - g i) g n
  have e : sumN (fun i => f i - g i + g i) n = sumN f n := sumN_congr n fun i _ => by omega
  omega
def ptD (S : Nat → Bool) (Q : List Pr) (c y z : Nat → Int) (i : Nat) : Int :=
  (if inside S (gt Q i) = true then c i else 0) - ((if S (gt Q i).a.toNat = true then y i else 0) + (if S (gt Q i).b.toNat = true then z i else 0))
theorem def_is (B : BF P.length Q.length Q (cQ L t Q) P goal t x y z e T V) (W : PQ L t Q) (t0 : 0 ≤ t) (S : Nat → Bool) (hS : S t.toNat = false) :
    defD P L goal S = sumN (ptD S Q (cQ L t Q) y z) Q.length - sumN (fun k => if S k = true then goal - gt P k - e k else 0) P.length := by
  have h1 : sumN (fun i => if inside S (gt Q i) = true then cQ L t Q i else 0) Q.length = inN S L L.length := within_in W S t0 hS L.length (Nat.le_refl _)
  have h2 := B.sum S (fun k hk hs hkt => by rw [← hkt, Int.toNat_natCast, hs] at hS; cases hS)
  have e1 : sumN (ptD S Q (cQ L t Q) y z) Q.length = _ := sumN_sub (fun i => if inside S (gt Q i) = true then cQ L t Q i else 0) (fun i => (if S (gt Q i).a.toNat = true then y i else 0) + (if S (gt Q i).b.toNat = true then z i else 0)) Q.length
  have e2 : sumN (fun k => if S k = true then goal - gt P k - e k else 0) P.length = sumN (fun k => (if S k = true then goal - gt P k else 0) - (if S k = true then e k else 0)) P.length := sumN_congr _ fun k _ => by split <;> omega
  rw [defD, ← h1, e1, e2, sumN_sub (fun k => if S k = true then goal - gt P k else 0), h2]
  omega
theorem pt_le (B : BF P.length Q.length Q (cQ L t Q) P goal t x y z e T V) (S : Nat → Bool) {i : Nat} (hi : i < Q.length) :
    ptD S Q (cQ L t Q) y z i ≤ cQ L t Q i - x i ∧ (ptD S Q (cQ L t Q) y z i = cQ L t Q i - x i → (x i < cQ L t Q i → inside S (gt Q i) = true) ∧ (S (gt Q i).a.toNat = true → 0 < y i → inside S (gt Q i) = true) ∧ (S (gt Q i).b.toNat = true → 0 < z i → inside S (gt Q i) = true)) := by
  have h1 := B.x0 i hi
  have h2 := B.y0 i hi
  have h3 := B.z0 i hi
  have h4 := B.pc i hi
  unfold ptD inside
  cases ha : S (gt Q i).a.toNat <;> cases hb : S (gt Q i).b.toNat <;> simp only [Bool.and_true, Bool.and_false, Bool.false_eq_true, if_true, if_false] <;> refine ⟨by omega, fun h => ⟨fun _ => ?_, fun _ _ => ?_, fun _ _ => ?_⟩⟩ <;> first | trivial | omega
theorem def_le (B : BF P.length Q.length Q (cQ L t Q) P goal t x y z e T V) (W : PQ L t Q) (t0 : 0 ≤ t) (S : Nat → Bool) (hS : S t.toNat = false) :
    defD P L goal S ≤ sumN (fun i => cQ L t Q i - x i) Q.length := by
  rw [def_is B W t0 S hS]
  have h1 := sumN_le (f := ptD S Q (cQ L t Q) y z) (g := fun i => cQ L t Q i - x i) Q.length fun i hi => (pt_le B S hi).1
  have h2 := sumN_nn (f := fun k => if S k = true then goal - gt P k - e k else 0) P.length fun k hk => by
    split
    · rename_i hs
      have := B.e0 k hk (fun hkt => by rw [← hkt, Int.toNat_natCast, hs] at hS; cases hS)
      omega
    · exact Int.le_refl _
  omega
theorem def_max (B : BF P.length Q.length Q (cQ L t Q) P goal t x y z e T V) (W : PQ L t Q) (t0 : 0 ≤ t) (S : Nat → Bool) (hS : S t.toNat = false) (h : sumN (fun i => cQ L t Q i - x i) Q.length ≤ defD P L goal S) :
    (∀ i, i < Q.length → (x i < cQ L t Q i → inside S (gt Q i) = true) ∧ (S (gt Q i).a.toNat = true → 0 < y i → inside S (gt Q i) = true) ∧ (S (gt Q i).b.toNat = true → 0 < z i → inside S (gt Q i) = true)) ∧
      ∀ k : Nat, k < P.length → (k : Int) ≠ t → S k = true → e k = goal - gt P k := by
  rw [def_is B W t0 S hS] at h
  have ne : ∀ k, k < P.length → S k = true → (k : Int) ≠ t := fun k hk hs hkt => by rw [← hkt, Int.toNat_natCast, hs] at hS; cases hS
  have f2 : ∀ k, k < P.length → 0 ≤ (if S k = true then goal - gt P k - e k else 0) := fun k hk => by
    split
    · have := B.e0 k hk (ne k hk (by assumption))
      omega
    · exact Int.le_refl _
  have h1 := sumN_le (f := ptD S Q (cQ L t Q) y z) (g := fun i => cQ L t Q i - x i) Q.length fun i hi => (pt_le B S hi).1
  have h2 := sumN_nn (f := fun k => if S k = true then goal - gt P k - e k else 0) P.length f2
  refine ⟨fun i hi => (pt_le B S hi).2 ?_, fun k hk hkt hs => ?_⟩
  · refine Classical.byContradiction fun hn => ?_
    have hl := (pt_le B S hi).1
    have := sumN_lt (f := ptD S Q (cQ L t Q) y z) (g := fun i => cQ L t Q i - x i) (j := i) Q.length (fun i hi => (pt_le B S hi).1) hi (by show _ < cQ L t Q i - x i; omega)
    omega
  · refine Classical.byContradiction fun hn => ?_
    have he := B.e0 k hk hkt
    have := sumN_lt (f := fun _ => 0) (g := fun k => if S k = true then goal - gt P k - e k else 0) (j := k) P.length f2 hk (by show (0 : Int) < _; rw [if_pos hs]; omega)
    rw [sumN_zero] at this
    omega
theorem bf_t (B : BF P.length Q.length Q (cQ L t Q) P goal t x y z e T V) (t0 : 0 ≤ t) (t1 : t < P.length) : T t.toNat = false := by
  cases h : T t.toNat with
  | false => rfl
  | true => exact absurd (show ((t.toNat : Nat) : Int) = t by omega) (B.r7 t.toNat (by omega) h)
theorem def_eq (B : BF P.length Q.length Q (cQ L t Q) P goal t x y z e T V) (W : PQ L t Q) (t0 : 0 ≤ t) (t1 : t < P.length) : defD P L goal T = sumN (fun i => cQ L t Q i - x i) Q.length := by
  have hT := bf_t B t0 t1
  have h1 : sumN (fun i => if inside T (gt Q i) = true then cQ L t Q i else 0) Q.length = inN T L L.length := within_in W T t0 hT L.length (Nat.le_refl _)
  rw [defD, B.tight, ← h1, ← sumN_sub]
  refine sumN_congr _ fun i hi => ?_
  by_cases hw : inside T (gt Q i) = true
  · rw [if_pos hw, if_pos hw]
  · rw [if_neg hw, if_neg hw]
    have h2 := B.x0 i hi
    have h3 : ¬ x i < cQ L t Q i := fun hh => hw (B.unsat i hi hh)
    omega
/-- All comes that can come, just where no teams have too many points among them. -/
theorem full_iff (B : BF P.length Q.length Q (cQ L t Q) P goal t x y z e T V) (W : PQ L t Q) (t0 : 0 ≤ t) (t1 : t < P.length) : (∀ i, i < Q.length → x i = cQ L t Q i) ↔ ∀ S : Nat → Bool, S t.toNat = false → defD P L goal S ≤ 0 := by
  constructor
  · intro h S hS
    have h1 := def_le B W t0 S hS
    have h2 : sumN (fun i => cQ L t Q i - x i) Q.length = 0 := (sumN_congr _ fun i hi => by rw [h i hi, Int.sub_self]).trans (sumN_zero _)
    omega
  · intro h i hi
    refine Classical.byContradiction fun hn => ?_
    have h1 := h T (bf_t B t0 t1)
    rw [def_eq B W t0 t1] at h1
    have h2 : ∀ i, i < Q.length → 0 ≤ cQ L t Q i - x i := fun i hi => by have := B.x0 i hi; omega
    have := sumN_lt (f := fun _ => 0) (g := fun i => cQ L t Q i - x i) (j := i) Q.length h2 hi (by have := h2 i hi; show (0 : Int) < _; omega)
    rw [sumN_zero] at this
    omega
end
end Go.Proofs.Ytdmeioppkannlaa
end
section
set_option linter.unusedVariables false
namespace Go.Proofs.Ytdmeioppkannlaa
open Go Go.Am

/-- Teams that have the most points too many among them. -/
def IsMax (P : List Int) (L : List Pr) (goal t : Int) (S : Nat → Bool) : Prop := S t.toNat = false ∧ ∀ S' : Nat → Bool, S' t.toNat = false → defD P L goal S' ≤ defD P L goal S
open Classical in
noncomputable def inT (P : List Int) (L : List Pr) (goal t : Int) (k : Nat) : Bool := decide (∀ S : Nat → Bool, IsMax P L goal t S → S k = true)
open Classical in
noncomputable def posB (P : List Int) (L : List Pr) (goal t : Int) : Bool := decide (∀ S : Nat → Bool, S t.toNat = false → defD P L goal S ≤ 0)
theorem inT_iff (P : List Int) (L : List Pr) (goal t : Int) (k : Nat) : inT P L goal t k = true ↔ ∀ S : Nat → Bool, IsMax P L goal t S → S k = true := by
  unfold inT
  exact @decide_eq_true_iff _ (Classical.propDecidable _)
theorem posB_iff (P : List Int) (L : List Pr) (goal t : Int) : posB P L goal t = true ↔ ∀ S : Nat → Bool, S t.toNat = false → defD P L goal S ≤ 0 := by
  unfold posB
  exact @decide_eq_true_iff _ (Classical.propDecidable _)
noncomputable def setN (P : List Int) (L : List Pr) (goal t : Int) : Nat → List Int
  | 0 => []
  | u + 1 => if inT P L goal t u = true then setN P L goal t u ++ [(u : Int)] else setN P L goal t u
section
variable {L : List Pr} {Q : List Pr} {P : List Int} {goal t : Int}
theorem bf_isMax {x y z e : Nat → Int} {T V : Nat → Bool} (B : BF P.length Q.length Q (cQ L t Q) P goal t x y z e T V) (W : PQ L t Q) (t0 : 0 ≤ t) (t1 : t < P.length) : IsMax P L goal t T :=
  ⟨bf_t B t0 t1, fun S' hS' => by rw [def_eq B W t0 t1]; exact def_le B W t0 S' hS'⟩
/-- What the verdict is read from. -/
structure Cut (P : List Int) (L Q : List Pr) (goal t pb tb n : Int) (f : List Int) (seen : List Bool) : Prop where
  full : (∀ i, i < Q.length → gt f (3 * i) = cQ L t Q i) ↔ posB P L goal t = true
  set : ∀ k, k < P.length → gt seen (tb.toNat + k) = inT P L goal t k
  not : inT P L goal t t.toNat = false
  elim : posB P L goal t = false → 0 < defD P L goal (inT P L goal t) ∧ ∃ k, k < P.length ∧ inT P L goal t k = true
  bf : ∃ x z e T V, BF P.length Q.length Q (cQ L t Q) P goal t x (fun i => gt f (3 * i + 1)) z e T V ∧ ∀ i, x i = gt f (3 * i)
theorem cutg_of {pb tb n : Int} {f : List Int} (ly : LayG pb tb n Q.length P.length) (t0 : 0 ≤ t) (t1 : t < P.length) (g : GOK n 0 1 (gE pb tb (cQ L t Q) Q P t goal)) (F : FlowOK n 0 1 (gE pb tb (cQ L t Q) Q P t goal) f) (hs : gt (reachS n 0 (gE pb tb (cQ L t Q) Q P t goal) f).seen 1 = false)
    (hq : ∀ i, i < Q.length → 0 ≤ (gt Q i).a ∧ (gt Q i).a < P.length ∧ 0 ≤ (gt Q i).b ∧ (gt Q i).b < P.length ∧ (gt Q i).a ≠ (gt Q i).b ∧ (gt Q i).a ≠ t ∧ (gt Q i).b ≠ t) (W : PQ L t Q) :
    Cut P L Q goal t pb tb n f (reachS n 0 (gE pb tb (cQ L t Q) Q P t goal) f).seen := by
  have B := bf_of ly t0 t1 g F hs hq
  have M := bf_isMax B W t0 t1
  have set : ∀ k, k < P.length → gt (reachS n 0 (gE pb tb (cQ L t Q) Q P t goal) f).seen (tb.toNat + k) = inT P L goal t k := by
    intro k hk
    rw [Bool.eq_iff_iff, inT_iff]
    constructor
    · intro h S hS
      have hm : sumN (fun i => cQ L t Q i - gt f (3 * i)) Q.length ≤ defD P L goal S := by
        have := hS.2 (fun k => gt (reachS n 0 (gE pb tb (cQ L t Q) Q P t goal) f).seen (tb.toNat + k)) M.1
        rwa [def_eq B W t0 t1] at this
      obtain ⟨m1, m2⟩ := def_max B W t0 S hS.1 hm
      refine bf_least ly g hq S (fun i => inside S (gt Q i)) (fun i hi => (m1 i hi).1) (fun i hi hw => ?_) (fun i hi => (m1 i hi).2.1) (fun i hi => (m1 i hi).2.2) m2 hk h
      unfold inside at hw
      exact Bool.and_eq_true_iff.1 hw
    · intro h
      exact h _ M
  have full : (∀ i, i < Q.length → gt f (3 * i) = cQ L t Q i) ↔ posB P L goal t = true := by
    rw [posB_iff]
    exact full_iff B W t0 t1
  refine ⟨full, set, ?_, fun hp => ?_, _, _, _, _, _, B, fun i => rfl⟩
  · rw [← set _ (by omega)]; exact bf_t B t0 t1
  · have h2 : ∃ j, j < Q.length ∧ gt f (3 * j) < cQ L t Q j := by
      refine Classical.byContradiction fun hn => ?_
      have : posB P L goal t = true := full.1 fun i hi => by
        have h1 : gt f (3 * i) ≤ cQ L t Q i := (B.x0 i hi).2
        have h3 : ¬ gt f (3 * i) < cQ L t Q i := fun hh => hn ⟨i, hi, hh⟩
        omega
      rw [hp] at this; cases this
    obtain ⟨j, hj, hjl⟩ := h2
    have eT : defD P L goal (inT P L goal t) = defD P L goal (fun k => gt (reachS n 0 (gE pb tb (cQ L t Q) Q P t goal) f).seen (tb.toNat + k)) := by
      -- the teams agree
      have e1 : sumN (fun k => if inT P L goal t k = true then goal - gt P k else 0) P.length = sumN (fun k => if gt (reachS n 0 (gE pb tb (cQ L t Q) Q P t goal) f).seen (tb.toNat + k) = true then goal - gt P k else 0) P.length := sumN_congr _ fun k hk => by rw [set k hk]
      have e2 : inN (inT P L goal t) L L.length = inN (fun k => gt (reachS n 0 (gE pb tb (cQ L t Q) Q P t goal) f).seen (tb.toNat + k)) L L.length := by
        rw [← within_in W (inT P L goal t) t0 (by rw [← set _ (by omega)]; exact bf_t B t0 t1) L.length (Nat.le_refl _), ← within_in W _ t0 (bf_t B t0 t1) L.length (Nat.le_refl _)]
        refine sumN_congr _ fun i hi => ?_
        have h := hq i hi
        have e : inside (inT P L goal t) (gt Q i) = inside (fun k => gt (reachS n 0 (gE pb tb (cQ L t Q) Q P t goal) f).seen (tb.toNat + k)) (gt Q i) := by
          unfold inside
          rw [← set (gt Q i).a.toNat (by omega), ← set (gt Q i).b.toNat (by omega)]
        rw [e]
      rw [defD, defD, e1, e2]
    refine ⟨?_, ?_⟩
    · rw [eT, def_eq B W t0 t1]
      have h2 : ∀ i, i < Q.length → 0 ≤ cQ L t Q i - gt f (3 * i) := fun i hi => by
        have h4 : gt f (3 * i) ≤ cQ L t Q i := (B.x0 i hi).2
        omega
      have := sumN_lt (f := fun _ => 0) (g := fun i => cQ L t Q i - gt f (3 * i)) (j := j) Q.length h2 hj (by show (0 : Int) < _; omega)
      rwa [sumN_zero] at this
    · obtain ⟨_, k, hk, hkT⟩ := B.elim hj hjl
      exact ⟨k, hk, by rw [← set k hk]; exact hkT⟩
end
theorem sumN_goal (P : List Int) (goal : Int) (S : Nat → Bool) : ∀ n, sumN (fun k => if S k = true then goal - gt P k else 0) n = sumN (fun k => if S k = true then goal else 0) n - sumN (fun k => if S k = true then gt P k else 0) n
  | 0 => rfl
  | n + 1 => by
    rw [sumN, sumN, sumN, sumN_goal P goal S n]
    split <;> omega
/-- A team that cannot be first. -/
def canBe (P : List Int) (L : List Pr) (t : Int) : Prop := ∃ R : List Int, R.length = L.length ∧ resOK R ∧ ∀ k, k < P.length → gt (playN P L R L.length) k ≤ gt (playN P L R L.length) t.toNat
theorem def_no {P : List Int} {L : List Pr} (g : ROK P L) {t goal : Int} (t0 : 0 ≤ t) (hg : goal = mostN P L t L.length) (S : Nat → Bool) (h : 0 < defD P L goal S) : ¬ canBe P L t := by
  rintro ⟨R, h1, h2, h3⟩
  rw [defD, sumN_goal] at h
  obtain ⟨k, hk, hkl⟩ := elim_no g t0 hg S (by omega) h1 h2
  have := h3 k hk
  omega
/-- The edges' graph is one. -/
theorem gE_chk {pb tb n t goal : Int} {c : Nat → Int} {Q : List Pr} {P : List Int} (ly : LayG pb tb n Q.length P.length) (hn : n ≤ 64) (hQ : Q.length ≤ 40) (hP : P.length ≤ 20)
    (hq : ∀ i, i < Q.length → 0 ≤ (gt Q i).a ∧ (gt Q i).a < P.length ∧ 0 ≤ (gt Q i).b ∧ (gt Q i).b < P.length ∧ (gt Q i).a ≠ (gt Q i).b ∧ (gt Q i).a ≠ t ∧ (gt Q i).b ≠ t)
    (hc : ∀ i, i < Q.length → 0 ≤ c i ∧ c i ≤ 1073741824) (hg : ∀ k, k < P.length → 0 ≤ goal - gt P k ∧ goal - gt P k ≤ 1073741824) : gchkS n 0 1 (gE pb tb c Q P t goal) = 0 := by
  obtain ⟨l1, l2, l3, l4, l5⟩ := ly
  have hlen := gE_len pb tb c Q P t goal
  rw [gchkS, if_neg (by omega), if_neg (by omega), if_neg (by omega)]
  have key : ∀ u, u ≤ (gE pb tb c Q P t goal).length → ferr (fun i => edErr n (gt (gE pb tb c Q P t goal) i)) u = 0 := by
    intro u
    induction u with
    | zero => intro _; rfl
    | succ u ih =>
      intro hu
      refine ferr_ok (ih (by omega)) ?_
      rcases gE_mem (gt_mem (show u < (gE pb tb c Q P t goal).length by omega)) with ⟨i, hi, h⟩ | ⟨k, h1, h2, h⟩
      · have h3 := hq i hi
        have h4 := hc i hi
        rcases h with h | h | h <;> rw [h] <;> simp only [edErr] <;> rw [if_neg (by omega), if_neg (by omega)]
      · have h3 := hg k h1
        rw [h]
        simp only [edErr]
        rw [if_neg (by omega), if_neg (by omega)]
  exact key _ (Nat.le_refl _)

/-! The set, as the certificate has it. -/
section
variable {L : List Pr} {P : List Int} {goal t : Int}
def setOK (t : Int) (S : List Int) (N : Nat) : Prop := ∀ i, i < S.length → 0 ≤ gt S i ∧ gt S i < N ∧ gt S i ≠ t ∧ (0 < i → gt S (i - 1) < gt S i)
theorem set_ok (h : inT P L goal t t.toNat = false) (t0 : 0 ≤ t) : ∀ n, setOK t (setN P L goal t n) n ∧ ∀ k : Nat, k < n → ((k : Int) ∈ setN P L goal t n ↔ inT P L goal t k = true)
  | 0 => ⟨fun i hi => by simp [setN] at hi, fun k hk => by omega⟩
  | n + 1 => by
    obtain ⟨ih1, ih2⟩ := set_ok h t0 n
    rw [setN]
    by_cases hn : inT P L goal t n = true
    · rw [if_pos hn]
      have hnt : (n : Int) ≠ t := fun hh => by subst hh; rw [Int.toNat_natCast, hn] at h; cases h
      refine ⟨fun i hi => ?_, fun k hk => ?_⟩
      · rw [List.length_append, List.length_singleton] at hi
        by_cases hi2 : i < (setN P L goal t n).length
        · obtain ⟨a1, a2, a3, a4⟩ := ih1 i hi2
          rw [gt_app _ _ _ hi2]
          refine ⟨a1, by omega, a3, fun h0 => ?_⟩
          rw [gt_app _ _ _ (by omega)]
          exact a4 h0
        · have : i = (setN P L goal t n).length := by omega
          subst this
          rw [gt_last]
          refine ⟨by omega, by omega, hnt, fun h0 => ?_⟩
          rw [gt_app _ _ _ (by omega)]
          have := ih1 ((setN P L goal t n).length - 1) (by omega)
          omega
      · rw [List.mem_append, List.mem_singleton]
        by_cases hkn : k = n
        · subst hkn; exact ⟨fun _ => hn, fun _ => .inr rfl⟩
        · have h7 := ih2 k (by omega)
          exact ⟨fun hh => h7.1 (hh.resolve_right (fun h8 => hkn (Int.ofNat.inj h8))), fun hh => .inl (h7.2 hh)⟩
    · rw [if_neg hn]
      refine ⟨fun i hi => ?_, fun k hk => ?_⟩
      · obtain ⟨a1, a2, a3, a4⟩ := ih1 i hi
        exact ⟨a1, by omega, a3, a4⟩
      · by_cases hkn : k = n
        · subst hkn
          refine ⟨fun hh => ?_, fun hh => absurd hh hn⟩
          obtain ⟨i, hi, he⟩ := List.mem_iff_getElem.1 hh
          have := ih1 i hi
          rw [gt_eq _ _ hi, he] at this
          omega
        · exact ih2 k (by omega)
end
end Go.Proofs.Ytdmeioppkannlaa
end
section
set_option linter.unusedVariables false
namespace Go.Proofs.Ytdmeioppkannlaa
open Go Go.Am

/-- The pairs of the first matches. -/
structure PQN (L : List Pr) (t : Int) (Q : List Pr) (n : Nat) : Prop where
  nd : ∀ i j, i < Q.length → j < Q.length → norm (gt Q i) = norm (gt Q j) → i = j
  all : ∀ u, u < n → (gt L u).a ≠ t ∧ (gt L u).b ≠ t → ∃ i, i < Q.length ∧ norm (gt Q i) = norm (gt L u)
  src : ∀ i, i < Q.length → ∃ u, u < n ∧ ((gt L u).a ≠ t ∧ (gt L u).b ≠ t) ∧ norm (gt Q i) = norm (gt L u)
theorem PQN.to {L : List Pr} {t : Int} {Q : List Pr} (W : PQN L t Q L.length) : PQ L t Q := ⟨W.nd, W.all, W.src⟩
theorem pqn_nil (L : List Pr) (t : Int) : PQN L t [] 0 := ⟨fun i j hi => by simp at hi, fun u hu => by omega, fun i hi => by simp at hi⟩
theorem pqn_skip {L : List Pr} {t : Int} {Q : List Pr} {n : Nat} (W : PQN L t Q n) (h : ¬ ((gt L n).a ≠ t ∧ (gt L n).b ≠ t)) : PQN L t Q (n + 1) :=
  ⟨W.nd, fun u hu ho => by
    by_cases hn : u = n
    · subst hn; exact absurd ho h
    · exact W.all u (by omega) ho, fun i hi => by
    obtain ⟨u, h1, h2⟩ := W.src i hi
    exact ⟨u, by omega, h2⟩⟩
theorem pqn_old {L : List Pr} {t : Int} {Q : List Pr} {n : Nat} (W : PQN L t Q n) {i : Nat} (hi : i < Q.length) (h : norm (gt Q i) = norm (gt L n)) : PQN L t Q (n + 1) :=
  ⟨W.nd, fun u hu ho => by
    by_cases hn : u = n
    · subst hn; exact ⟨i, hi, h⟩
    · exact W.all u (by omega) ho, fun i hi => by
    obtain ⟨u, h1, h2⟩ := W.src i hi
    exact ⟨u, by omega, h2⟩⟩
theorem pqn_new {L : List Pr} {t : Int} {Q : List Pr} {n : Nat} (W : PQN L t Q n) (ho : (gt L n).a ≠ t ∧ (gt L n).b ≠ t) {m : Pr} (hm : norm m = norm (gt L n)) (h : ∀ i, i < Q.length → norm (gt Q i) ≠ norm (gt L n)) : PQN L t (Q ++ [m]) (n + 1) := by
  have cas : ∀ k, k < (Q ++ [m]).length → k < Q.length ∧ gt (Q ++ [m]) k = gt Q k ∨ k = Q.length ∧ gt (Q ++ [m]) k = m := fun k hk => by
    rw [List.length_append, List.length_singleton] at hk
    by_cases h : k < Q.length
    · exact .inl ⟨h, gt_app _ _ _ h⟩
    · have : k = Q.length := by omega
      subst this
      exact .inr ⟨rfl, gt_last _ _⟩
  refine ⟨fun i j hi hj e => ?_, fun u hu hou => ?_, fun i hi => ?_⟩
  · rcases cas i hi with ⟨h1, h2⟩ | ⟨h1, h2⟩ <;> rcases cas j hj with ⟨h3, h4⟩ | ⟨h3, h4⟩ <;> rw [h2, h4] at e
    · exact W.nd i j h1 h3 e
    · exact absurd (e.trans hm) (h i h1)
    · exact absurd (e.symm.trans hm) (h j h3)
    · omega
  · by_cases hn : u = n
    · subst hn; exact ⟨Q.length, by simp, by rw [gt_last, hm]⟩
    · obtain ⟨i, h1, h2⟩ := W.all u (by omega) hou
      exact ⟨i, by simp; omega, by rw [gt_app _ _ _ h1]; exact h2⟩
  · rcases cas i hi with ⟨h1, h2⟩ | ⟨h1, h2⟩ <;> rw [h2]
    · obtain ⟨u, h3, h4⟩ := W.src i h1
      exact ⟨u, by omega, h4⟩
    · exact ⟨n, by omega, ho, hm⟩
theorem pairs_app (O : List Pr) (m : Pr) : ∀ u, u ≤ O.length → pairsN (O ++ [m]) u = pairsN O u
  | 0, _ => rfl
  | u + 1, h => by rw [pairsN, pairsN, pairs_app O m u (by omega), gt_app _ _ _ (by omega)]
abbrev pQ (L : List Pr) (t : Int) : List Pr := pairsN (othS L t) (othS L t).length
theorem norm_norm (p : Pr) : norm (norm p) = norm p := by simp only [norm, Pr.mk.injEq]; omega
theorem pairs_norm (O : List Pr) : ∀ u p, p ∈ pairsN O u → norm p = p
  | 0, p, h => by simp [pairsN] at h
  | u + 1, p, h => by
    rw [pairsN] at h
    split at h
    · exact pairs_norm O u p h
    · rcases List.mem_append.1 h with h | h
      · exact pairs_norm O u p h
      · rw [List.mem_singleton] at h; rw [h, norm_norm]
theorem pQ_nq (L : List Pr) (t : Int) : NQ (pQ L t) := fun i hi => pairs_norm _ _ _ (gt_mem hi)
theorem pq_prog (L : List Pr) (t : Int) : ∀ u, PQN L t (pairsN (othN L t u) (othN L t u).length) u
  | 0 => pqn_nil L t
  | u + 1 => by
    have ih := pq_prog L t u
    rw [othN]
    by_cases h : (gt L u).a ≠ t ∧ (gt L u).b ≠ t
    · rw [if_pos h, List.length_append, List.length_singleton, pairsN, pairs_app _ _ _ (Nat.le_refl _), gt_last]
      by_cases hm : norm (gt L u) ∈ pairsN (othN L t u) (othN L t u).length
      · rw [if_pos hm]
        obtain ⟨i, hi, he⟩ := List.mem_iff_getElem.1 hm
        exact pqn_old ih hi (by rw [gt_eq _ _ hi, he, norm_norm])
      · rw [if_neg hm]
        refine pqn_new ih h (norm_norm _) fun i hi he => hm ?_
        rw [pairs_norm _ _ _ (gt_mem hi)] at he
        rw [← he]; exact gt_mem hi
    · rw [if_neg h]
      exact pqn_skip ih h
theorem len_le : ∀ (l m : List Pr), (∀ i j, i < l.length → j < l.length → gt l i = gt l j → i = j) → (∀ x, x ∈ l → x ∈ m) → l.length ≤ m.length
  | [], m, _, _ => Nat.zero_le _
  | x :: r, m, hd, hs => by
    have hx := hs x (List.mem_cons_self ..)
    have ih := len_le r (m.erase x) (fun i j hi hj h => by
      have := hd (i + 1) (j + 1) (by simp; omega) (by simp; omega) h
      omega) fun y hy => by
      have hne : y ≠ x := fun hh => by
        subst hh
        obtain ⟨i, hi, he⟩ := List.mem_iff_getElem.1 hy
        have := hd 0 (i + 1) (by simp) (by simp; omega) (by show y = gt r i; rw [gt_eq _ _ hi, he])
        omega
      exact (List.mem_erase_of_ne hne).2 (hs y (List.mem_cons_of_mem _ hy))
    rw [List.length_erase_of_mem hx] at ih
    have : 0 < m.length := List.length_pos_of_mem hx
    rw [List.length_cons]; omega
theorem mem_pairs (L : List Pr) : ∀ u i, i < u → norm (gt L i) ∈ pairsN L u
  | 0, i, h => by omega
  | u + 1, i, h => by
    rw [pairsN]
    by_cases hi : i = u
    · subst hi
      split
      · assumption
      · simp
    · have := mem_pairs L u i (by omega)
      split
      · exact this
      · exact List.mem_append_left _ this
theorem pq_len {L : List Pr} {t : Int} {Q : List Pr} (W : PQ L t Q) : Q.length ≤ (pairsN L L.length).length := by
  have h := len_le (Q.map norm) (pairsN L L.length) (fun i j hi hj h => by
    rw [List.length_map] at hi hj
    refine W.nd i j hi hj ?_
    rw [gt_eq _ _ (by rw [List.length_map]; exact hi), gt_eq _ _ (by rw [List.length_map]; exact hj), List.getElem_map, List.getElem_map] at h
    rw [gt_eq _ _ hi, gt_eq _ _ hj]; exact h) fun x hx => by
    obtain ⟨q, hq, he⟩ := List.mem_map.1 hx
    obtain ⟨i, hi, h⟩ := List.mem_iff_getElem.1 hq
    obtain ⟨u, hu, _, h2⟩ := W.src i hi
    rw [gt_eq _ _ hi, h, he] at h2
    rw [h2]; exact mem_pairs L _ u hu
  rwa [List.length_map] at h
theorem pq_rng {P : List Int} {L : List Pr} (g : ROK P L) {t : Int} {Q : List Pr} (W : PQ L t Q) : ∀ i, i < Q.length → 0 ≤ (gt Q i).a ∧ (gt Q i).a < P.length ∧ 0 ≤ (gt Q i).b ∧ (gt Q i).b < P.length ∧ (gt Q i).a ≠ (gt Q i).b ∧ (gt Q i).a ≠ t ∧ (gt Q i).b ≠ t := fun i hi => by
  obtain ⟨u, hu, ho, h2⟩ := W.src i hi
  have e := g.ed u hu
  have h3 := (norm_iff _ _).2 h2
  omega
theorem cnl_rng (L : List Pr) (t : Int) (p : Pr) : ∀ u, 0 ≤ cnlN L t p u ∧ cnlN L t p u ≤ 2 * u
  | 0 => by rw [cnlN]; omega
  | u + 1 => by
    have := cnl_rng L t p u
    rw [cnlN]
    split <;> omega
/-- What a verdict is read from, for the pairs of the program and of the reference. -/
theorem cut_race {P : List Int} {L : List Pr} (g : ROK P L) {t goal : Int} (t0 : 0 ≤ t) (t1 : t < P.length) (hg : goal = mostN P L t L.length) (hp : ∀ k, k < P.length → gt P k ≤ goal) {Q : List Pr} (W : PQ L t Q) {pb tb n : Int} (ly : LayG pb tb n Q.length P.length) (hn : n = 2 + P.length + Q.length) :
    gchkS n 0 1 (gE pb tb (cQ L t Q) Q P t goal) = 0 ∧ Cut P L Q goal t pb tb n (maxF n 0 1 (gE pb tb (cQ L t Q) Q P t goal)) (reachS n 0 (gE pb tb (cQ L t Q) Q P t goal) (maxF n 0 1 (gE pb tb (cQ L t Q) Q P t goal))).seen := by
  have hl := pq_len W
  have h1 := g.pr
  have h2 := g.n20
  have h3 := g.el
  have hpt := g.pt t.toNat (by omega)
  have hm := most_rng (L := L) hpt.1 hpt.2 L.length
  have hc : gchkS n 0 1 (gE pb tb (cQ L t Q) Q P t goal) = 0 := gE_chk ly (by omega) (by omega) h2 (pq_rng g W) (fun i hi => by have := cnl_rng L t (norm (gt Q i)) L.length; show 0 ≤ cnlN L t (norm (gt Q i)) L.length ∧ cnlN L t (norm (gt Q i)) L.length ≤ 1073741824; omega) fun k hk => by have := hp k hk; have := g.pt k hk; omega
  refine ⟨hc, ?_⟩
  obtain ⟨F, hs⟩ := maxF_ok hc
  exact cutg_of ly t0 t1 (gok_of hc) F hs (pq_rng g W) W
end Go.Proofs.Ytdmeioppkannlaa
end
section
set_option linter.unusedVariables false
namespace Go.Proofs.Ytdmeioppkannlaa
open Go Go.Am

theorem bld66 (x y z : Int) : buildV Try.prog 69 [(0, AV.i x), (1, AV.i y), (2, AV.i z)] = some (.agg [AV.i x, AV.i y, AV.i z]) := by
  simp only [buildV, ty69, places, ty3, ty2]
  rfl
theorem bld24 (x y z : Int) : buildV Try.prog 62 [(0, AV.i x), (1, AV.i y), (2, AV.i z)] = some (.agg [AV.i x, AV.i y, AV.i z, .v (.slice none 0 0)]) := by
  simp only [buildV, ty62, places, ty3, ty60]
  rfl
theorem bld46 : buildV Try.prog 40 [] = some (.agg [.v (.bool false), .v (.slice none 0 0), .v (.slice none 0 0)]) := by
  simp only [buildV, ty40, places, ty4, ty34]
  rfl
theorem bld46o (z b o n : Nat) : buildV Try.prog 40 [(1, .own z b o n)] = some (.agg [.v (.bool false), .own z b o n, .v (.slice none 0 0)]) := by
  simp only [buildV, ty40, places, ty4, ty34]
  rfl
theorem bld46rs (t : Bool) (n : Nat) (l : List AV) : buildV Try.prog 40 [(0, .v (.bool t)), (2, .sl n l)] = some (.agg [.v (.bool t), .v (.slice none 0 0), .sl n l]) := by
  simp only [buildV, ty40, places, ty4, ty34]
  rfl
attribute [go_sem] bld66 bld24 bld46 bld46o bld46rs

theorem flatE_app (w X : List Ed) : flatE (w ++ X) = flatE w ++ flatE X := by
  unfold flatE
  rw [List.map_append, List.flatten_append]
theorem frz_eds (H : Heap) (b d : Nat) (l : List Ed) : (flatE l).map (frz H b (d + 1)) = flatE l := by
  unfold flatE
  rw [List.map_flatten, List.map_map]
  congr 1
/-- Edges as they are gathered: none yet, or a block. -/
def OutE (lo : Nat) (H : Heap) (o : AV) (w : List Ed) : Prop := (w = [] ∧ o = nilP) ∨ (w ≠ [] ∧ ∃ b, o = .own 3 b 0 w.length ∧ lo ≤ b ∧ hget H b = some (flatE w))
theorem OutE.mono {lo : Nat} {H H' : Heap} {o : AV} {w : List Ed} (h : OutE lo H o w) (hh : ∀ b, lo ≤ b → ∀ k, hget H b = some k → hget H' b = some k) : OutE lo H' o w := by
  rcases h with h | ⟨h0, b, h1, h2, h3⟩
  · exact .inl h
  · exact .inr ⟨h0, b, h1, h2, hh b h2 _ h3⟩
theorem OutE.lt {lo b : Nat} {H : Heap} {o : AV} {w : List Ed} (h : OutE lo H o w) (ho : o = .own 3 b 0 w.length) : b < H.length := by
  rcases h with ⟨_, h⟩ | ⟨_, b', h1, _, h3⟩
  · rw [h] at ho; cases ho
  · rw [h1] at ho; cases ho; exact hget_lt h3
theorem outE_append {lim lo hi m : Nat} {H : Heap} {o : AV} {w X : List Ed} {b' : Nat} (h : OutE lo H o w) (hob : ∀ b, o = .own 3 b 0 w.length → b < hi) (hc : hget H b' = some (flatE X)) (hm : m = X.length) (hX : X.length ≤ 10) (hl : lim ≤ lo) (hlo : lo ≤ H.length) (hw : w.length ≤ 100000) :
    ∃ b, lo ≤ b ∧ (b < hi ∨ b = H.length) ∧ ∃ H', appendV Try.prog lim H 60 o (.own 3 b' 0 m) = some (.own 3 H.length 0 (w.length + m), H') ∧ MGrew H b H' (flatE (w ++ X)) := by
  subst hm
  have hfl : (flatE X).length = X.length * 3 := flat_len X
  have hall : (List.take (X.length * 3) (flatE X)).all storable = true := by
    rw [List.take_of_length_le (by omega)]
    clear hfl hc hX
    induction X with
    | nil => rfl
    | cons x l ih =>
      have e : flatE (x :: l) = edC x ++ flatE l := rfl
      rw [e, List.all_append, ih]; rfl
  rcases h with ⟨rfl, rfl⟩ | ⟨h0, b, rfl, h2, h3⟩
  · refine ⟨H.length, hlo, .inr rfl, _, ?_, MGrew.ofNew _ (MNew.of _ _)⟩
    simp only [appendV, tk60, ty69, srcCells, hc]
    rw [if_pos (by omega)]
    simp only [List.drop_zero]
    rw [if_pos ⟨rfl, by decide, hall⟩]
    rw [if_pos ⟨by omega, by omega⟩]
    rw [List.take_of_length_le (by omega)]
    simp
  · refine ⟨b, h2, .inl (hob b rfl), _, ?_, MGrew.of _ _ _⟩
    simp only [appendV, tk60, ty69, srcCells, hc, h3]
    rw [if_pos (by omega)]
    simp only [List.drop_zero]
    rw [if_pos ⟨rfl, by decide, hall⟩]
    simp only [flat_len]
    rw [if_pos ⟨by omega, trivial, by omega, by omega, by omega⟩]
    rw [List.take_of_length_le (by rw [flat_len]; omega), List.take_of_length_le (by rw [flat_len]; omega), flatE_app]
theorem bs22_1 (lim : Nat) (H : Heap) (x : Operand) (ev : Operand → AV) (c : Ed) (h : ev x = .agg (edC c)) :
    effV Try.prog lim (.buildSlice 60 1 #[(0, x)]) ev H = some (.own 3 H.length 0 1, H ++ [some (flatE [c])]) := by
  simp only [effV, tk60, ty69]
  rw [if_pos ⟨rfl, by decide, by decide⟩]
  simp only [List.map_cons, List.map_nil, h]
  rfl
theorem bs22_3 (lim : Nat) (H : Heap) (x y z : Operand) (ev : Operand → AV) (c d e : Ed) (h : ev x = .agg (edC c)) (h2 : ev y = .agg (edC d)) (h3 : ev z = .agg (edC e)) :
    effV Try.prog lim (.buildSlice 60 3 #[(0, x), (1, y), (2, z)]) ev H = some (.own 3 H.length 0 3, H ++ [some (flatE [c, d, e])]) := by
  simp only [effV, tk60, ty69]
  rw [if_pos ⟨rfl, by decide, by decide⟩]
  simp only [List.map_cons, List.map_nil, h, h2, h3]
  rfl
theorem OutE.new {lo b : Nat} {H H' : Heap} {w X : List Ed} {m : Nat} (g : MGrew H b H' (flatE (w ++ X))) (hlo : lo ≤ H.length) (hX : X ≠ []) (hm : m = w.length + X.length) : OutE lo H' (.own 3 H.length 0 m) (w ++ X) := by
  subst hm
  exact .inr ⟨by simp [hX], H.length, by simp, hlo, g.new⟩
/-- Numbers as they are gathered: none yet, or a block. -/
def OutI (lo : Nat) (H : Heap) (o : AV) (w : List Int) : Prop := (w = [] ∧ o = nilP) ∨ (w ≠ [] ∧ ∃ b, o = .own 1 b 0 w.length ∧ lo ≤ b ∧ hget H b = some (w.map AV.i))
theorem OutI.mono {lo : Nat} {H H' : Heap} {o : AV} {w : List Int} (h : OutI lo H o w) (hh : ∀ b, lo ≤ b → ∀ k, hget H b = some k → hget H' b = some k) : OutI lo H' o w := by
  rcases h with h | ⟨h0, b, h1, h2, h3⟩
  · exact .inl h
  · exact .inr ⟨h0, b, h1, h2, hh b h2 _ h3⟩
theorem OutI.lt {lo b : Nat} {H : Heap} {o : AV} {w : List Int} (h : OutI lo H o w) (ho : o = .own 1 b 0 w.length) : b < H.length := by
  rcases h with ⟨_, h⟩ | ⟨_, b', h1, _, h3⟩
  · rw [h] at ho; cases ho
  · rw [h1] at ho; cases ho; exact hget_lt h3
theorem outI_append {lim lo hi : Nat} {H : Heap} {o : AV} {w : List Int} {v : Int} {b' : Nat} (h : OutI lo H o w) (hob : ∀ b, o = .own 1 b 0 w.length → b < hi) (hc : hget H b' = some [AV.i v]) (hl : lim ≤ lo) (hlo : lo ≤ H.length) (hw : w.length ≤ 100000) :
    ∃ b, lo ≤ b ∧ (b < hi ∨ b = H.length) ∧ ∃ H', appendV Try.prog lim H 34 o (.own 1 b' 0 1) = some (.own 1 H.length 0 (w.length + 1), H') ∧ MGrew H b H' ((w ++ [v]).map AV.i) := by
  rcases h with ⟨rfl, rfl⟩ | ⟨h0, b, rfl, h2, h3⟩
  · refine ⟨H.length, hlo, .inr rfl, _, ?_, MGrew.ofNew _ (MNew.of _ _)⟩
    simp only [appendV, tk34, ty3, srcCells, hc]
    rw [if_pos (by simp)]
    simp only [List.length_cons, List.length_nil]
    rw [if_pos ⟨trivial, by decide, rfl⟩]
    rw [if_pos ⟨by omega, by omega⟩]
    rfl
  · refine ⟨b, h2, .inl (hob b rfl), _, ?_, MGrew.of _ _ _⟩
    simp only [appendV, tk34, ty3, srcCells, hc, h3]
    rw [if_pos (by simp)]
    simp only [List.length_cons, List.length_nil]
    rw [if_pos ⟨trivial, by decide, rfl⟩]
    simp only [List.drop_zero, List.length_map, Nat.mul_one]
    rw [if_pos ⟨by omega, trivial, by omega, by omega, by omega⟩]
    rw [List.take_of_length_le (by simp)]
    simp [List.map_append]
theorem OutI.new {lo b : Nat} {H H' : Heap} {w : List Int} {v : Int} {m : Nat} (g : MGrew H b H' ((w ++ [v]).map AV.i)) (hlo : lo ≤ H.length) (hm : m = w.length + 1) : OutI lo H' (.own 1 H.length 0 m) (w ++ [v]) := by
  subst hm
  exact .inr ⟨by simp, H.length, by simp, hlo, g.new⟩
def outA (w : List Int) : AV := if w = [] then nilP else intsAV w
theorem OutI.frz {H : Heap} {base d : Nat} {o : AV} {w : List Int} (h : OutI base H o w) : Go.Am.frz H base (d + 2) o = outA w := by
  unfold outA
  rcases h with ⟨rfl, rfl⟩ | ⟨h0, b, rfl, h2, h3⟩
  · rfl
  · rw [frz_ownB (by omega) h3, List.drop_zero, frz_ints, if_neg h0]
theorem OutI.lo {lo lo' : Nat} {H : Heap} {o : AV} {w : List Int} (h : OutI lo H o w) (hl : lo' ≤ lo) : OutI lo' H o w := by
  rcases h with h | ⟨h0, b, h1, h2, h3⟩
  · exact .inl h
  · exact .inr ⟨h0, b, h1, by omega, h3⟩
theorem OutE.frz {H : Heap} {base d lo : Nat} {o : AV} {w : List Ed} (h : OutE lo H o w) (hl : base ≤ lo) (hw : w ≠ []) : Go.Am.frz H base (d + 2) o = edgesAV w := by
  rcases h with ⟨rfl, rfl⟩ | ⟨h0, b, rfl, h2, h3⟩
  · exact absurd rfl hw
  · rw [frz_ownB (by omega) h3, List.drop_zero, frz_eds]
theorem pairsA_at {L : List Pr} (h : 0 < (pairsN L L.length).length) : pairsA L = prsAV (pairsN L L.length) := by
  unfold pairsA
  rw [if_neg (fun hh => by rw [hh] at h; simp at h)]
end Go.Proofs.Ytdmeioppkannlaa
end
section
set_option linter.unusedVariables false
namespace Go.Proofs.Ytdmeioppkannlaa
open Go Go.Am
/-- Matches that lie below some block. -/
def AtP (K : Nat) (H : Heap) (o : AV) (w : List Pr) : Prop := (w = [] ∧ o = nilP) ∨ (w ≠ [] ∧ ∃ b, o = .own 2 b 0 w.length ∧ b < K ∧ hget H b = some (flatQ w))
theorem AtP.mono {K : Nat} {H H' : Heap} {o : AV} {w : List Pr} (h : AtP K H o w) (hh : ∀ b, b < K → ∀ k, hget H b = some k → hget H' b = some k) : AtP K H' o w := by
  rcases h with h | ⟨h0, b, h1, h2, h3⟩
  · exact .inl h
  · exact .inr ⟨h0, b, h1, h2, hh b h2 _ h3⟩
theorem AtP.of {lo K : Nat} {H : Heap} {o : AV} {w : List Pr} (h : OutP lo H o w) (hK : H.length ≤ K) : AtP K H o w := by
  rcases h with h | ⟨h0, b, h1, h2, h3⟩
  · exact .inl h
  · exact .inr ⟨h0, b, h1, by have := hget_lt h3; omega, h3⟩
theorem AtP.len {K : Nat} {H : Heap} {o : AV} {w : List Pr} (h : AtP K H o w) : lenV (tyOf Try.prog 28) o = some (AV.i (w.length : Nat)) := by
  rcases h with ⟨rfl, rfl⟩ | ⟨h0, b, rfl, _⟩
  · simp only [lenV, ty28, kOf, Option.map_some]; rfl
  · simp only [lenV, ty28, kOf, Option.map_some]
theorem frz_pairsA (H : Heap) (b d : Nat) (L : List Pr) : frz H b (d + 2) (pairsA L) = pairsA L := by
  unfold pairsA
  split
  · rfl
  · exact congrArg (AV.sl _) (frz_prs H b d _)
theorem gE_ne (pb tb : Int) (c : Nat → Int) (Q : List Pr) {P : List Int} {t : Int} (goal : Int) (h : 2 ≤ P.length) : gE pb tb c Q P t goal ≠ [] := by
  intro hh
  by_cases ht : t = 0
  · have := (gEb_at tb P t goal (gEa pb tb c Q Q.length) 1 (by omega) P.length (by omega)).1
    rw [gE] at hh; rw [hh] at this; simp at this
  · have := (gEb_at tb P t goal (gEa pb tb c Q Q.length) 0 (by omega) P.length (by omega)).1
    rw [gE] at hh; rw [hh] at this; simp at this
theorem oth_in {L : List Pr} {t : Int} {u : Nat} (h : (gt L u).a ≠ t ∧ (gt L u).b ≠ t) : othN L t (u + 1) = othN L t u ++ [gt L u] := by rw [othN, if_pos h]
theorem oth_out {L : List Pr} {t : Int} {u : Nat} (h : ¬ ((gt L u).a ≠ t ∧ (gt L u).b ≠ t)) : othN L t (u + 1) = othN L t u := by rw [othN, if_neg h]
theorem oth_new {lo b : Nat} {H H' : Heap} {L : List Pr} {t : Int} {u m : Nat} (g : MGrew H b H' (flatQ (othN L t u ++ [gt L u]))) (hlo : lo ≤ H.length) (h : (gt L u).a ≠ t ∧ (gt L u).b ≠ t) (hm : m = (othN L t u).length + 1) : OutP lo H' (.own 2 H.length 0 m) (othN L t (u + 1)) := by
  subst hm
  rw [oth_in h]
  exact .inr ⟨by simp, H.length, by simp, hlo, g.new⟩
theorem oth_old {lo : Nat} {H : Heap} {o : AV} {L : List Pr} {t : Int} {u : Nat} (hO : OutP lo H o (othN L t u)) (h : ¬ ((gt L u).a ≠ t ∧ (gt L u).b ≠ t)) : OutP lo H o (othN L t (u + 1)) := by
  rw [oth_out h]; exact hO
theorem cnt_hit {O : List Pr} {p : Pr} {w : Nat} {c : Int} (hc : c = cntN O p w) (h : norm (gt O w) = p) : c + 2 = cntN O p (w + 1) := by rw [cntN, if_pos h, hc]
theorem cnt_miss {O : List Pr} {p : Pr} {w : Nat} {c : Int} (hc : c = cntN O p w) (h : ¬ norm (gt O w) = p) : c = cntN O p (w + 1) := by rw [cntN, if_neg h, hc, Int.add_zero]
theorem cnt_all {L : List Pr} {t : Int} {i : Nat} (hi : i < (pQ L t).length) : cntN (othS L t) (gt (pQ L t) i) (othS L t).length = cQ L t (pQ L t) i := by
  rw [cnt_oth, cQ, pQ_nq L t i hi]
/-- Edges that are read and written as a graph's last part. -/
theorem outE_a {lo b : Nat} {H H' : Heap} {pb tb : Int} {c : Nat → Int} {Q : List Pr} {i m : Nat} (g : MGrew H b H' (flatE (gEa pb tb c Q i ++ gE1 pb tb c Q i))) (hlo : lo ≤ H.length) (hm : m = (gEa pb tb c Q i).length + 3) : OutE lo H' (.own 3 H.length 0 m) (gEa pb tb c Q (i + 1)) :=
  OutE.new g hlo (by simp [gE1]) (by rw [hm]; rfl)
theorem outE_b {lo b : Nat} {H H' : Heap} {tb t goal : Int} {P : List Int} {A : List Ed} {k m : Nat} (g : MGrew H b H' (flatE (gEb tb P t goal A k ++ [⟨tb + k, 1, goal - gt P k⟩]))) (hlo : lo ≤ H.length) (hk : (k : Int) ≠ t) (hm : m = (gEb tb P t goal A k).length + 1) : OutE lo H' (.own 3 H.length 0 m) (gEb tb P t goal A (k + 1)) := by
  rw [gEb, if_pos hk]
  exact OutE.new g hlo (by simp) (by rw [hm]; rfl)
theorem outE_k {lo : Nat} {H : Heap} {o : AV} {tb t goal : Int} {P : List Int} {A : List Ed} {k : Nat} (h : OutE lo H o (gEb tb P t goal A k)) (hk : ¬ (k : Int) ≠ t) : OutE lo H o (gEb tb P t goal A (k + 1)) := by
  rw [gEb, if_neg hk]; exact h
end Go.Proofs.Ytdmeioppkannlaa
end
section
set_option linter.unusedVariables false
namespace Go.Proofs.Ytdmeioppkannlaa
open Go Go.Am
theorem ms40n (lim : Nat) (H : Heap) (n : Nat) (x y : Operand) (ev : Operand → AV) (hn : n ≤ 1000000) (h : ev x = AV.i n) (h' : ev y = AV.i n) :
    effV Try.prog lim (.makeSlice 34 x y) ev H = some (.own 1 H.length 0 n, H ++ [some ((List.replicate n (0 : Int)).map AV.i)]) := by
  have := ms40 lim H n x y ev (by omega) (by omega) h h'
  rwa [Int.toNat_natCast] at this
/-- What the first team of each pair gets, as it is read. -/
def yN (f : List Int) (q : Nat) : Nat → List Int
  | 0 => List.replicate q 0
  | u + 1 => (yN f q u).set u (gt f (3 * u + 1))
theorem yN_len (f : List Int) (q : Nat) : ∀ u, (yN f q u).length = q
  | 0 => by simp [yN]
  | u + 1 => by rw [yN, List.length_set, yN_len f q u]
theorem yN_gt (f : List Int) (q : Nat) : ∀ u, u ≤ q → ∀ i, gt (yN f q u) i = if i < u then gt f (3 * i + 1) else 0
  | 0, _, i => by rw [yN, gt_rep, if_neg (by omega)]
  | u + 1, h, i => by
    rw [yN, gt_set _ _ _ _ (by rw [yN_len]; omega), yN_gt f q u (by omega)]
    by_cases hi : u = i
    · subst hi; rw [if_pos rfl, if_pos (by omega)]
    · rw [if_neg hi]
      by_cases h2 : i < u
      · rw [if_pos h2, if_pos (by omega)]
      · rw [if_neg h2, if_neg (by omega)]
section
variable {Q : List Pr} {t : Int} {L : List Pr} {Y : List Int} {u : Nat}
theorem res_a (ha : (gt L u).a = t) : resN Q t L Y (u + 1) = ((resN Q t L Y u).1, (resN Q t L Y u).2.set u 2) := by rw [resN, res1, if_pos ha]
theorem res_b (ha : (gt L u).a ≠ t) (hb : (gt L u).b = t) : resN Q t L Y (u + 1) = resN Q t L Y u := by rw [resN, res1, if_neg ha, if_pos hb]
theorem res_c (ha : (gt L u).a ≠ t) (hb : (gt L u).b ≠ t) {j : Nat} (hj : idxP Q (norm (gt L u)) = j) : resN Q t L Y (u + 1) = ((resN Q t L Y u).1.set j (gt (resN Q t L Y u).1 j - min (gt (resN Q t L Y u).1 j) 2), (resN Q t L Y u).2.set u (if (gt L u).a ≠ (gt Q j).a then 2 - min (gt (resN Q t L Y u).1 j) 2 else min (gt (resN Q t L Y u).1 j) 2)) := by
  rw [resN, res1, if_neg ha, if_neg hb, hj]
theorem idx_is (W : PQ L t Q) (hQ : NQ Q) (hu : u < L.length) (ha : (gt L u).a ≠ t) (hb : (gt L u).b ≠ t) {k : Int} (hk : (0 ≤ k ∧ k < Q.length ∧ gt Q k.toNat = norm (gt L u)) ∨ (k = -1 ∧ norm (gt L u) ∉ Q)) :
    ∃ j : Nat, k = j ∧ j < Q.length ∧ gt Q j = norm (gt L u) ∧ idxP Q (norm (gt L u)) = j := by
  obtain ⟨j0, hj0, hn0⟩ := W.all u hu ⟨ha, hb⟩
  have hmem : norm (gt L u) ∈ Q := by rw [← hn0, hQ j0 hj0]; exact gt_mem hj0
  obtain ⟨hi, hin⟩ := idxP_at hmem
  rcases hk with ⟨h1, h2, h3⟩ | ⟨_, h⟩
  · refine ⟨k.toNat, by omega, by omega, h3, ?_⟩
    exact W.nd _ _ hi (by omega) (by rw [hin, h3])
  · exact absurd hmem h
end
theorem idxA_ok {lim : Nat} {H : Heap} {L : List Pr} {t : Int} {p : Pr} {K : AV → Heap → Prop} (h : ACall sig lim 30 [prsAV (pQ L t), .agg (prC p)] H K) (h0 : 0 < (pQ L t).length) : ACall sig lim 30 [pairsA (othN L t L.length), .agg (prC p)] H K := by
  rw [pairsA_at h0]; exact h
theorem outI_append' {lim lo : Nat} {H : Heap} {o : AV} {w : List Int} {v : Int} {b' : Nat} (h : OutI lo H o w) (hc : hget H b' = some [AV.i v]) (hl : lim ≤ lo) (hlo : lo ≤ H.length) (hw : w.length ≤ 100000) :
    ∃ b, lo ≤ b ∧ (o = .own 1 b 0 w.length ∨ b = H.length) ∧ ∃ H', appendV Try.prog lim H 34 o (.own 1 b' 0 1) = some (.own 1 H.length 0 (w.length + 1), H') ∧ MGrew H b H' ((w ++ [v]).map AV.i) := by
  rcases h with h | ⟨h0, b, rfl, h2, h3⟩
  · obtain ⟨b, h1, h2, h3⟩ := outI_append (lim := lim) (hi := 0) (.inl h) (fun b hb => by rw [h.2] at hb; cases hb) hc hl hlo hw
    exact ⟨b, h1, .inr (by omega), h3⟩
  · obtain ⟨b', h1, h4, h5⟩ := outI_append (lim := lim) (hi := b + 1) (.inr ⟨h0, b, rfl, h2, h3⟩) (fun b' hb => by cases hb; omega) hc hl hlo hw
    refine ⟨b, h2, .inl rfl, _, ?_, MGrew.of _ _ _⟩
    simp only [appendV, tk34, ty3, srcCells, hc, h3]
    rw [if_pos (by simp)]
    simp only [List.length_cons, List.length_nil]
    rw [if_pos ⟨trivial, by decide, rfl⟩]
    simp only [List.drop_zero, List.length_map, Nat.mul_one]
    rw [if_pos ⟨by omega, trivial, by omega, by omega, by omega⟩]
    rw [List.take_of_length_le (by simp)]
    simp [List.map_append]
theorem flatQ0 (l : List Pr) (u : Nat) (h : u < l.length) : (flatQ l)[u * 2]? = some (AV.i (gt l u).a) := flatQ_get l u 0 h (by omega)
/-- What has been given of a flow. -/
def GivOK (f : List Int) (q : Nat) (D : List Int) : Prop := D.length = q ∧ ∀ i, i < q → 0 ≤ gt D i ∧ gt D i ≤ gt f (3 * i + 1)
end Go.Proofs.Ytdmeioppkannlaa
end
section
set_option linter.unusedVariables false
namespace Go.Proofs.Ytdmeioppkannlaa
open Go Go.Am
theorem most_of {P : List Int} {L : List Pr} {t : Int} (h : (mostS P L t).2 = 0) : ROK P L ∧ 0 ≤ t ∧ t < P.length := by
  unfold mostS at h
  split at h
  · rename_i h1; exact absurd h h1
  split at h
  · cases h
  rename_i h1 h2
  exact ⟨rok_of (Decidable.not_not.mp h1), by omega, by omega⟩
end Go.Proofs.Ytdmeioppkannlaa
end
section
set_option linter.unusedVariables false
namespace Go.Proofs.Ytdmeioppkannlaa
open Go Go.Am

theorem most_eq {P : List Int} {L : List Pr} {t : Int} (h : (mostS P L t).2 = 0) : (mostS P L t).1 = mostN P L t L.length := by
  unfold mostS at h ⊢
  split at h
  · rename_i h1; exact absurd h h1
  split at h
  · cases h
  rename_i h1 h2
  rw [if_neg h1, if_neg h2]
/-- The first team that has more points than another one can have. -/
def badN (P : List Int) (goal : Int) : Nat → Int
  | 0 => -1
  | u + 1 => if badN P goal u ≠ -1 then badN P goal u else if goal < gt P u then u else -1
theorem bad_at {P : List Int} {goal : Int} {u : Nat} (h : badN P goal u = -1) (h2 : goal < gt P u) : ∀ k, u < k → badN P goal k = u
  | 0, hk => by omega
  | k + 1, hk => by
    rw [badN]
    by_cases hu : u = k
    · subst hu; rw [if_neg (fun hh => hh h), if_pos h2]
    · rw [bad_at h h2 k (by omega), if_pos (by omega)]
theorem bad_on {P : List Int} {goal : Int} {u : Nat} (h : badN P goal u = -1) (h1 : ¬ goal < gt P u) : badN P goal (u + 1) = -1 := by
  rw [badN, if_neg (fun hh => hh h), if_neg h1]
theorem bad_all {P : List Int} {goal : Int} : ∀ {n : Nat}, badN P goal n = -1 → ∀ i, i < n → gt P i ≤ goal
  | 0, _, i, hi => by omega
  | n + 1, h, i, hi => by
    rw [badN] at h
    split at h
    · rename_i h1; exact absurd h h1
    split at h
    · omega
    rename_i h1 h2
    by_cases hn : i = n
    · subst hn; omega
    · exact bad_all (Decidable.not_not.mp h1) i (by omega)
theorem bad_some {P : List Int} {goal : Int} : ∀ {n : Nat}, badN P goal n ≠ -1 → ∃ k : Nat, k < n ∧ badN P goal n = k ∧ goal < gt P k
  | 0, h => absurd rfl h
  | n + 1, h => by
    rw [badN] at h ⊢
    by_cases h1 : badN P goal n ≠ -1
    · rw [if_pos h1]
      obtain ⟨k, h2, h3⟩ := bad_some h1
      exact ⟨k, by omega, h3⟩
    · rw [if_neg h1] at h ⊢
      by_cases h2 : goal < gt P n
      · rw [if_pos h2]; exact ⟨n, by omega, rfl, h2⟩
      · rw [if_neg h2] at h; exact absurd rfl h
noncomputable def firstB (P : List Int) (L : List Pr) (t : Int) : Bool :=
  if (mostS P L t).2 ≠ 0 then false else if badN P (mostS P L t).1 P.length ≠ -1 then false else posB P L (mostS P L t).1 t
noncomputable def firstS (P : List Int) (L : List Pr) (t : Int) : List Int :=
  if (mostS P L t).2 ≠ 0 then [] else if badN P (mostS P L t).1 P.length ≠ -1 then [badN P (mostS P L t).1 P.length] else if posB P L (mostS P L t).1 t = true then [] else setN P L (mostS P L t).1 t P.length
section
variable {P : List Int} {L : List Pr} {t : Int}
theorem first_e (h : (mostS P L t).2 ≠ 0) : firstB P L t = false ∧ firstS P L t = [] := by simp only [firstB, firstS, if_pos h]; exact ⟨trivial, trivial⟩
theorem first_b (h : (mostS P L t).2 = 0) (hb : badN P (mostS P L t).1 P.length ≠ -1) : firstB P L t = false ∧ firstS P L t = [badN P (mostS P L t).1 P.length] :=
  ⟨by rw [firstB, if_neg (fun hh => hh h), if_pos hb], by rw [firstS, if_neg (fun hh => hh h), if_pos hb]⟩
theorem first_y (h : (mostS P L t).2 = 0) (hb : badN P (mostS P L t).1 P.length = -1) (hp : posB P L (mostS P L t).1 t = true) : firstB P L t = true ∧ firstS P L t = [] :=
  ⟨by rw [firstB, if_neg (fun hh => hh h), if_neg (fun hh => hh hb), hp], by rw [firstS, if_neg (fun hh => hh h), if_neg (fun hh => hh hb), if_pos hp]⟩
theorem first_n (h : (mostS P L t).2 = 0) (hb : badN P (mostS P L t).1 P.length = -1) (hp : posB P L (mostS P L t).1 t = false) : firstB P L t = false ∧ firstS P L t = setN P L (mostS P L t).1 t P.length :=
  ⟨by rw [firstB, if_neg (fun hh => hh h), if_neg (fun hh => hh hb), hp], by rw [firstS, if_neg (fun hh => hh h), if_neg (fun hh => hh hb), if_neg (by rw [hp]; decide)]⟩
end
/-- Results that make a team first, and in which it wins its own matches. -/
def VR (P : List Int) (L : List Pr) (t : Int) (R : List Int) : Prop :=
  resOK R ∧ R.length = L.length ∧ (∀ k, k < P.length → gt (playN P L R L.length) k ≤ gt (playN P L R L.length) t.toNat) ∧ ∀ u, u < L.length → ((gt L u).a = t → gt R u = 2) ∧ ((gt L u).b = t → gt R u = 0)
theorem bf_congr {N q : Nat} {Q : List Pr} {c c' : Nat → Int} {P : List Int} {goal t : Int} {x y y' z e : Nat → Int} {T V : Nat → Bool} (B : BF N q Q c P goal t x y z e T V) (hc : ∀ i, i < q → c' i = c i) (hy : ∀ i, i < q → y' i = y i) : BF N q Q c' P goal t x y' z e T V :=
  ⟨B.qa, fun i hi => by rw [hc i hi]; exact B.x0 i hi, fun i hi => by rw [hc i hi, hy i hi]; exact B.y0 i hi, fun i hi => by rw [hc i hi]; exact B.z0 i hi, B.e0, fun i hi => by rw [hy i hi]; exact B.pc i hi,
   fun k hk hkt => by rw [B.tc k hk hkt]; exact sumN_congr q fun i hi => by rw [hy i hi], fun i hi => by rw [hc i hi]; exact B.r1 i hi, fun i hi => by rw [hc i hi, hy i hi]; exact B.r2 i hi, fun i hi => by rw [hc i hi]; exact B.r3 i hi, fun i hi => by rw [hy i hi]; exact B.r4 i hi, B.r5, B.r6, B.r7⟩
theorem vr_of {P : List Int} {L : List Pr} {t goal pb tb n : Int} {f : List Int} {sn : List Bool} (g : ROK P L) (t0 : 0 ≤ t) (t1 : t < P.length) (hg : goal = mostN P L t L.length) (C : Cut P L (pQ L t) goal t pb tb n f sn) (hp : posB P L goal t = true) :
    VR P L t (resN (pQ L t) t L (yN f (pQ L t).length (pQ L t).length) L.length).2 := by
  have W : PQ L t (pQ L t) := (pq_prog L t L.length).to
  have hQ := pQ_nq L t
  obtain ⟨x, z, e, T, V, B, hx⟩ := C.bf
  have hy : ∀ i, i < (pQ L t).length → gt (yN f (pQ L t).length (pQ L t).length) i = gt f (3 * i + 1) := fun i hi => by rw [yN_gt _ _ _ (Nat.le_refl _), if_pos hi]
  have hY : ∀ i, 0 ≤ gt (yN f (pQ L t).length (pQ L t).length) i := fun i => by
    rw [yN_gt _ _ _ (Nat.le_refl _)]
    split
    · exact (B.y0 i (by assumption)).1
    · exact Int.le_refl _
  have B' := bf_congr (c' := fun i => cnlN L t (gt (pQ L t) i) L.length) (y' := fun i => gt (yN f (pQ L t).length (pQ L t).length) i) B (fun i hi => by show _ = cnlN L t (norm (gt (pQ L t) i)) L.length; rw [hQ i hi]) hy
  have hfull := C.full.2 hp
  have hl := res_len (pQ L t) t L (yN f (pQ L t).length (pQ L t).length) L.length
  have hr := res_ok hY (Q := pQ L t) (t := t) (L := L) L.length (Nat.le_refl _)
  have hgoal := res_goal g t0 hY (Q := pQ L t) L.length (Nat.le_refl _)
  refine ⟨fun i hi => hr.2.1 i, hl.2, fun k hk => ?_, fun u hu => ?_⟩
  · rw [hgoal, ← hg]
    by_cases hkt : (k : Int) = t
    · have : k = t.toNat := by omega
      rw [this, hgoal, ← hg]; exact Int.le_refl _
    · exact res_first g W hQ (yN_len _ _ _) B' hY (fun i hi => by rw [hx i, hfull i hi]; show cnlN L t (norm (gt (pQ L t) i)) L.length = _; rw [hQ i hi]) k hk hkt
  · have ho := res_own (Q := pQ L t) (t := t) hY hu
    refine ⟨ho.1, fun hb => ?_⟩
    by_cases ha : (gt L u).a = t
    · have := g.ed u hu; omega
    · exact ho.2 ha hb
/-- What is known of the flow that First reads. -/
theorem first_sum {P : List Int} {L : List Pr} {t : Int} (hm : (mostS P L t).2 = 0) (hp : ∀ k, k < P.length → gt P k ≤ (mostS P L t).1) {Q : List Pr} (W : PQ L t Q) {pb tb n : Int} (ly : LayG pb tb n Q.length P.length) (hn : n = 2 + P.length + Q.length) :
    ∃ E f sn, gE pb tb (cQ L t Q) Q P t (mostS P L t).1 = E ∧ maxF n 0 1 E = f ∧ (reachS n 0 E f).seen = sn ∧ gchkS n 0 1 E = 0 ∧ 3 * Q.length ≤ E.length ∧ E.length ≤ 3 * Q.length + P.length ∧ f.length = E.length ∧ sn.length = n.toNat ∧ (∀ i, i < Q.length → (gt E (3 * i)).c = cQ L t Q i) ∧
      (∀ i, i < Q.length → (0 ≤ gt f (3 * i) ∧ gt f (3 * i) ≤ 1073741824) ∧ 0 ≤ gt f (3 * i + 1) ∧ gt f (3 * i + 1) ≤ 1073741824) ∧ Cut P L Q (mostS P L t).1 t pb tb n f sn := by
  obtain ⟨g, t0, t1⟩ := most_of hm
  have hc := cut_race g t0 t1 (most_eq hm) hp W ly hn
  have hlen := gE_len pb tb (cQ L t Q) Q P t (mostS P L t).1
  obtain ⟨F, _⟩ := maxF_ok hc.1
  obtain ⟨_, so, _, _⟩ := reach_inv (maxF n 0 1 (gE pb tb (cQ L t Q) Q P t (mostS P L t).1)) (gok_of hc.1)
  have hr := fRng_cap (gok_of hc.1) F.rng
  refine ⟨_, _, _, rfl, rfl, rfl, hc.1, hlen.1, hlen.2, F.len, so.seen, fun i hi => ?_, fun i hi => ⟨hr _ (by omega), hr _ (by omega)⟩, hc.2⟩
  have := gE_pair pb tb (cQ L t Q) Q P t (mostS P L t).1 i 0 hi (by omega)
  rw [Nat.add_zero] at this
  rw [this]; rfl
theorem set_ne {P : List Int} {L : List Pr} {goal t : Int} (h : inT P L goal t t.toNat = false) (t0 : 0 ≤ t) {k : Nat} (hk : k < P.length) (hT : inT P L goal t k = true) : setN P L goal t P.length ≠ [] := fun hh => by
  have := ((set_ok h t0 P.length).2 k hk).2 hT
  rw [hh] at this; cases this
theorem full_on {f : List Int} {c : Nat → Int} {i : Nat} {full : Bool} (hf : full = true ↔ ∀ k, k < i → gt f (3 * k) = c k) (h : full = true) : (gt f (3 * i) == c i) = true ↔ ∀ k, k < i + 1 → gt f (3 * k) = c k := by
  rw [beq_iff_eq]
  refine ⟨fun he k hk => ?_, fun hh => hh i (by omega)⟩
  by_cases hki : k = i
  · subst hki; exact he
  · exact hf.1 h k (by omega)
theorem full_off {f : List Int} {c : Nat → Int} {i : Nat} {full : Bool} (hf : full = true ↔ ∀ k, k < i → gt f (3 * k) = c k) (h : full = false) : (false = true) ↔ ∀ k, k < i + 1 → gt f (3 * k) = c k := by
  constructor
  · intro hh; cases hh
  · intro hh; rw [← h]; exact hf.2 fun k hk => hh k (by omega)
/-- What First answers: the program, and the reference. -/
def FirstP (P : List Int) (L : List Pr) (t : Int) (r : AV) : Prop :=
  ∃ (R : List Int) (o : AV), r = .tup [.agg [.v (.bool (firstB P L t)), outA (firstS P L t), o], AV.i (mostS P L t).2] ∧ ((firstB P L t = false ∧ R = [] ∧ o = nilP) ∨ (firstB P L t = true ∧ o = intsAV R ∧ VR P L t R))
def FirstQ (P : List Int) (L : List Pr) (t : Int) (r : AV) : Prop :=
  ∃ (R : List Int), r = .tup [.agg [.v (.bool (firstB P L t)), outA (firstS P L t), outA R], AV.i (mostS P L t).2] ∧ ((firstB P L t = false ∧ R = []) ∨ (firstB P L t = true ∧ R.length = L.length))
theorem inT_new {lo b : Nat} {H H' : Heap} {P : List Int} {L : List Pr} {goal t : Int} {j m : Nat} (g : MGrew H b H' ((setN P L goal t j ++ [(j : Int)]).map AV.i)) (hlo : lo ≤ H.length) (h : inT P L goal t j = true) (hm : m = (setN P L goal t j).length + 1) : OutI lo H' (.own 1 H.length 0 m) (setN P L goal t (j + 1)) := by
  rw [setN, if_pos h]; exact OutI.new g hlo hm
theorem inT_old {lo : Nat} {H : Heap} {P : List Int} {L : List Pr} {goal t : Int} {j : Nat} {o : AV} (hO : OutI lo H o (setN P L goal t j)) (h : inT P L goal t j = false) : OutI lo H o (setN P L goal t (j + 1)) := by
  rw [setN, if_neg (by rw [h]; decide)]; exact hO
theorem setN_len (P : List Int) (L : List Pr) (goal t : Int) : ∀ u, (setN P L goal t u).length ≤ u
  | 0 => Nat.le_refl _
  | u + 1 => by
    have := setN_len P L goal t u
    rw [setN]
    split
    · simp; omega
    · omega
theorem in_not {P : List Int} {L : List Pr} {goal t : Int} (h : inT P L goal t t.toNat = false) (t0 : 0 ≤ t) {j : Nat} (hj : (j : Int) = t) : inT P L goal t j = false := by rw [← h, ← hj, Int.toNat_natCast]
end Go.Proofs.Ytdmeioppkannlaa
end
section
set_option linter.unusedVariables false
namespace Go.Proofs.Ytdmeioppkannlaa
open Go Go.Am
theorem storA (R : List Int) : storable (outA R) = true := by
  unfold outA
  split <;> rfl
end Go.Proofs.Ytdmeioppkannlaa
end
section
set_option linter.unusedVariables false
namespace Go.Proofs.Ytdmeioppkannlaa
open Go Go.Am
/-- A list of numbers as data: a slice, or nil if there are none. -/
def IsA (a : AV) (l : List Int) : Prop := a = intsAV l ∨ (l = [] ∧ a = nilP)
theorem IsA.len {a : AV} {l : List Int} (h : IsA a l) : lenV (tyOf Try.prog 34) a = some (AV.i (l.length : Nat)) := by
  rcases h with rfl | ⟨rfl, rfl⟩
  · simp only [lenV, ty34, kOf, Option.map_some]
  · simp only [lenV, ty34, kOf, Option.map_some]; rfl
theorem IsA.stor {a : AV} {l : List Int} (h : IsA a l) : storable a = true := by
  rcases h with rfl | ⟨rfl, rfl⟩ <;> rfl
def memB (S : List Int) (k : Nat) : Bool := decide ((k : Int) ∈ S)
def sumS (P S : List Int) : Nat → Int
  | 0 => 0
  | i + 1 => sumS P S i + gt P (gt S i).toNat
def play2e (P : List Int) (L : List Pr) (t : Int) (R : List Int) : Prop := ∃ k, k < P.length ∧ gt (playN P L R L.length) t.toNat < gt (playN P L R L.length) k
open Classical in
noncomputable def posS (P : List Int) (L : List Pr) (t : Int) (S R : List Int) : Int :=
  if 0 < S.length ∨ R.length ≠ L.length ∨ ¬ resOK R then 4 else if play2e P L t R then 13 else 0
open Classical in
noncomputable def elimS (P : List Int) (L : List Pr) (t G : Int) (S R : List Int) : Int :=
  if 0 < R.length ∨ S.length = 0 ∨ ¬ setOK t S P.length then 4 else if sumS P S S.length + inN (memB S) L L.length ≤ S.length * G then 13 else 0
noncomputable def accS (P : List Int) (L : List Pr) (t : Int) (b : Bool) (S R : List Int) : Int :=
  if (mostS P L t).2 ≠ 0 then (mostS P L t).2 else if b = true then posS P L t S R else elimS P L t (mostS P L t).1 S R
theorem posS_c {P : List Int} {L : List Pr} {t : Int} {S R : List Int} (h1 : ¬ 0 < S.length) (h2 : R.length = L.length) (h3 : resOK R) (h : ¬ play2e P L t R) : posS P L t S R = 0 := by
  rw [posS, if_neg (by rintro (hh | hh | hh); exact h1 hh; exact hh h2; exact hh h3), if_neg h]
theorem elimS_c {P : List Int} {L : List Pr} {t G : Int} {S R : List Int} (h1 : ¬ 0 < R.length) (h2 : ¬ S.length = 0) (h3 : setOK t S P.length) (h : ¬ sumS P S S.length + inN (memB S) L L.length ≤ S.length * G) : elimS P L t G S R = 0 := by
  rw [elimS, if_neg (by rintro (hh | hh | hh); exact h1 hh; exact h2 hh; exact hh h3), if_neg h]
theorem accS_e {P : List Int} {L : List Pr} {t : Int} {b : Bool} {S R : List Int} (h : (mostS P L t).2 ≠ 0) : accS P L t b S R = (mostS P L t).2 := by rw [accS, if_pos h]
theorem accS_t {P : List Int} {L : List Pr} {t : Int} {S R : List Int} (h : (mostS P L t).2 = 0) : accS P L t true S R = posS P L t S R := by rw [accS, if_neg (fun hh => hh h), if_pos rfl]
theorem accS_f {P : List Int} {L : List Pr} {t : Int} {S R : List Int} (h : (mostS P L t).2 = 0) : accS P L t false S R = elimS P L t (mostS P L t).1 S R := by rw [accS, if_neg (fun hh => hh h), if_neg (by decide)]
theorem inN_rng (T : Nat → Bool) (L : List Pr) : ∀ u, 0 ≤ inN T L u ∧ inN T L u ≤ 2 * u
  | 0 => by rw [inN]; omega
  | u + 1 => by
    have := inN_rng T L u
    rw [inN]
    split <;> omega
theorem set_lt {t : Int} {S : List Int} {N : Nat} (h : setOK t S N) : ∀ (j i : Nat), i < j → j < S.length → gt S i < gt S j
  | 0, i, hi, _ => by omega
  | j + 1, i, hi, hj => by
    have h1 := (h (j + 1) hj).2.2.2 (by omega)
    rw [Nat.add_sub_cancel] at h1
    by_cases hij : i = j
    · subst hij; exact h1
    · have := set_lt h j i (by omega) (by omega)
      omega
theorem sum_set {t : Int} {S : List Int} {N : Nat} (h : setOK t S N) (f : Nat → Int) : ∀ u, u ≤ S.length → sumN (fun k => if memB (S.take u) k = true then f k else 0) N = sumN (fun i => f (gt S i).toNat) u
  | 0, _ => by
    rw [sumN]
    refine Eq.trans (sumN_congr _ fun k hk => ?_) (sumN_zero _)
    rw [if_neg]; simp [memB]
  | u + 1, hu => by
    have ih := sum_set h f u (by omega)
    have h1 := h u (by omega)
    have ht : S.take (u + 1) = S.take u ++ [gt S u] := by rw [gt_eq _ _ (by omega), List.take_append_getElem]
    have hm : ∀ k : Nat, memB (S.take (u + 1)) k = true ↔ memB (S.take u) k = true ∨ (k : Int) = gt S u := fun k => by
      rw [ht]; simp [memB]
    have hn : ¬ memB (S.take u) (gt S u).toNat = true := fun hh => by
      simp only [memB, decide_eq_true_eq] at hh
      obtain ⟨i, hi, he⟩ := List.mem_iff_getElem.1 hh
      rw [List.length_take] at hi
      rw [List.getElem_take, ← gt_eq _ _ (by omega)] at he
      have := set_lt h u i (by omega) (by omega)
      omega
    rw [sumN, ← ih, sumN_upd (f := fun k => if memB (S.take u) k = true then f k else 0) (j := (gt S u).toNat) N (fun k hk hne => ?_) (by omega)]
    · show _ + ((if memB (S.take (u + 1)) (gt S u).toNat = true then f (gt S u).toNat else 0) - (if memB (S.take u) (gt S u).toNat = true then f (gt S u).toNat else 0)) = _
      rw [if_pos ((hm _).2 (.inr (by omega))), if_neg hn]; omega
    · show (if memB (S.take (u + 1)) k = true then f k else 0) = _
      by_cases hk2 : memB (S.take u) k = true
      · rw [if_pos hk2, if_pos ((hm k).2 (.inl hk2))]
      · rw [if_neg hk2, if_neg (fun hh => by rcases (hm k).1 hh with hh | hh; exact hk2 hh; omega)]
theorem sumS_is (P S : List Int) : ∀ u, sumS P S u = sumN (fun i => gt P (gt S i).toNat) u
  | 0 => rfl
  | u + 1 => by rw [sumS, sumN, sumS_is P S u]
theorem sumN_c (c : Int) : ∀ n, sumN (fun _ => c) n = n * c
  | 0 => by rw [sumN]; simp
  | n + 1 => by rw [sumN, sumN_c c n, Int.natCast_succ, Int.add_mul, Int.one_mul]
theorem set_def {t : Int} {S : List Int} {P : List Int} (h : setOK t S P.length) (L : List Pr) (G : Int) : defD P L G (memB S) = inN (memB S) L L.length - (S.length * G - sumS P S S.length) := by
  have h1 := sum_set h (fun k => G) S.length (Nat.le_refl _)
  have h2 := sum_set h (fun k => gt P k) S.length (Nat.le_refl _)
  rw [List.take_length] at h1 h2
  rw [defD, sumN_goal, h1, h2, sumN_c, sumS_is]
/-- An accepted verdict tells the truth. -/
theorem acc_true {P : List Int} {L : List Pr} {t : Int} {b : Bool} {S R : List Int} (h : accS P L t b S R = 0) : b = true ↔ canBe P L t := by
  by_cases hm : (mostS P L t).2 = 0
  · obtain ⟨g, t0, t1⟩ := most_of hm
    cases b with
    | true =>
      rw [accS_t hm, posS] at h
      split at h
      · cases h
      split at h
      · cases h
      rename_i h1 h2
      refine ⟨fun _ => ⟨R, ?_, ?_, fun k hk => ?_⟩, fun _ => rfl⟩
      · exact Classical.byContradiction fun hn => h1 (.inr (.inl hn))
      · exact Classical.byContradiction fun hn => h1 (.inr (.inr hn))
      · have : ¬ gt (playN P L R L.length) t.toNat < gt (playN P L R L.length) k := fun hh => h2 ⟨k, hk, hh⟩
        omega
    | false =>
      rw [accS_f hm, elimS] at h
      split at h
      · cases h
      split at h
      · cases h
      rename_i h1 h2
      refine ⟨fun hh => (by cases hh), fun hh => absurd hh (def_no g t0 (most_eq hm) (memB S) ?_)⟩
      have hs : setOK t S P.length := Classical.byContradiction fun hn => h1 (.inr (.inr hn))
      rw [set_def hs]
      omega
  · rw [accS_e hm] at h; exact absurd h hm
/-- The reference's list of the teams of a set. -/
def inL (S : List Int) (N : Nat) : Nat → List Bool
  | 0 => List.replicate N false
  | u + 1 => (inL S N u).set (gt S u).toNat true
end Go.Proofs.Ytdmeioppkannlaa
end
section
set_option linter.unusedVariables false
namespace Go.Proofs.Ytdmeioppkannlaa
open Go Go.Am
end Go.Proofs.Ytdmeioppkannlaa
end
section
set_option linter.unusedVariables false
namespace Go.Proofs.Ytdmeioppkannlaa
open Go Go.Am
theorem firstP_o {P : List Int} {L : List Pr} {t : Int} {R : List Int} {o : AV} (h : (firstB P L t = false ∧ R = [] ∧ o = nilP) ∨ (firstB P L t = true ∧ o = intsAV R ∧ VR P L t R)) : IsA o R ∧ R.length = if firstB P L t = true then L.length else 0 := by
  rcases h with ⟨h1, rfl, rfl⟩ | ⟨h1, rfl, h2⟩
  · exact ⟨.inr ⟨rfl, rfl⟩, by rw [h1]; rfl⟩
  · exact ⟨.inl rfl, by rw [h1]; exact h2.2.1⟩
/-- First's verdict without a set that is not needed, and its accepted certificate. -/
theorem setN_all {P : List Int} {L : List Pr} {goal t : Int} (h : inT P L goal t t.toNat = false) (t0 : 0 ≤ t) {k : Nat} (hk : k < P.length) : memB (setN P L goal t P.length) k = inT P L goal t k := by
  rw [Bool.eq_iff_iff, memB, decide_eq_true_eq]
  exact (set_ok h t0 P.length).2 k hk
theorem inN_ext {T T' : Nat → Bool} {L : List Pr} {N : Nat} (hT : ∀ k, k < N → T k = T' k) (hL : ∀ i, i < L.length → (gt L i).a.toNat < N ∧ (gt L i).b.toNat < N) : ∀ u, u ≤ L.length → inN T L u = inN T' L u
  | 0, _ => rfl
  | u + 1, h => by
    have e := hL u (by omega)
    rw [inN, inN, inN_ext hT hL u (by omega)]
    unfold inside
    rw [hT _ e.1, hT _ e.2]
theorem def_ext {P : List Int} {L : List Pr} (g : ROK P L) {G : Int} {T T' : Nat → Bool} (hT : ∀ k, k < P.length → T k = T' k) : defD P L G T = defD P L G T' := by
  rw [defD, defD, inN_ext (N := P.length) hT (fun i hi => by have := g.ed i hi; omega) L.length (Nat.le_refl _)]
  congr 1
  exact sumN_congr _ fun k hk => by rw [hT k hk]
/-- What is known of a Cut from no error: that there is one. -/
theorem a_cut {P : List Int} {L : List Pr} {t : Int} (hm : (mostS P L t).2 = 0) (hb : badN P (mostS P L t).1 P.length = -1) : ∃ Q pb tb n f sn, Cut P L Q (mostS P L t).1 t pb tb n f sn := by
  obtain ⟨g, t0, t1⟩ := most_of hm
  have W : PQ L t (pQ L t) := (pq_prog L t L.length).to
  obtain ⟨E, f, sn, _, _, _, _, _, _, _, _, _, _, C⟩ := first_sum hm (bad_all hb) W (pb := 2) (tb := 2 + (pQ L t).length) (n := 2 + (pQ L t).length + P.length) ⟨by omega, by omega, by omega, by omega, by omega⟩ (by omega)
  exact ⟨_, _, _, _, _, _, C⟩
theorem first_acc_f {P : List Int} {L : List Pr} {t : Int} (hm : (mostS P L t).2 = 0) (h : firstB P L t = false) : accS P L t false (firstS P L t) [] = 0 := by
  obtain ⟨g, t0, t1⟩ := most_of hm
  rw [accS_f hm]
  by_cases hb : badN P (mostS P L t).1 P.length = -1
  · have hp : posB P L (mostS P L t).1 t = false := by
      cases hpb : posB P L (mostS P L t).1 t with
      | false => rfl
      | true => rw [(first_y hm hb hpb).1] at h; cases h
    rw [(first_n hm hb hp).2]
    obtain ⟨Q, pb, tb, n, f, sn, C⟩ := a_cut hm hb
    obtain ⟨hd, k, hk, hkT⟩ := C.elim hp
    have hs := (set_ok (P := P) (L := L) (goal := (mostS P L t).1) C.not t0 P.length).1
    have hne := set_ne C.not t0 hk hkT
    refine elimS_c (by simp) (fun hh => hne (List.length_eq_zero_iff.1 hh)) hs ?_
    rw [← def_ext g (fun k hk => setN_all C.not t0 hk), set_def hs] at hd
    omega
  · rw [(first_b hm hb).2]
    obtain ⟨k, hk, hbk, hkg⟩ := bad_some hb
    have hme := most_eq hm
    have hkt : (k : Int) ≠ t := fun hh => by
      have hup : ∀ u, gt P t.toNat ≤ mostN P L t u := by
        intro u
        induction u with
        | zero => exact Int.le_refl _
        | succ u ih => rw [mostN]; split <;> omega
      have := hup L.length
      subst hh
      rw [Int.toNat_natCast] at this
      omega
    have hg : gt [badN P (mostS P L t).1 P.length] 0 = k := by rw [hbk]; rfl
    refine elimS_c (by simp) (by simp) (fun i hi => ?_) ?_
    · have : i = 0 := by simp at hi; omega
      subst this
      rw [hg]
      exact ⟨by omega, by omega, hkt, fun hh => by omega⟩
    · have h0 := inN_rng (memB [badN P (mostS P L t).1 P.length]) L L.length
      rw [List.length_singleton, sumS, sumS, hg, Int.toNat_natCast]
      omega
theorem first_acc_t {P : List Int} {L : List Pr} {t : Int} (hm : (mostS P L t).2 = 0) (h : firstB P L t = true) {R : List Int} (hR : VR P L t R) : accS P L t true (firstS P L t) R = 0 := by
  rw [accS_t hm]
  have hS : firstS P L t = [] := by
    rw [firstB, if_neg (fun hh => hh hm)] at h
    split at h
    · cases h
    · rw [firstS, if_neg (fun hh => hh hm), if_neg (by assumption), if_pos h]
  rw [hS]
  exact posS_c (by simp) hR.2.1 hR.1 (fun ⟨k, hk, hkl⟩ => by have := hR.2.2.1 k hk; omega)
/-- A team can be first, exactly if First says so. -/
theorem first_can {P : List Int} {L : List Pr} {t : Int} (hm : (mostS P L t).2 = 0) {R : List Int} {o : AV} (h : (firstB P L t = false ∧ R = [] ∧ o = nilP) ∨ (firstB P L t = true ∧ o = intsAV R ∧ VR P L t R)) : firstB P L t = true ↔ canBe P L t := by
  rcases h with ⟨h1, rfl, rfl⟩ | ⟨h1, rfl, h2⟩
  · rw [h1]; exact acc_true (first_acc_f hm h1)
  · rw [h1]; exact acc_true (first_acc_t hm h1 h2)
end Go.Proofs.Ytdmeioppkannlaa
end
