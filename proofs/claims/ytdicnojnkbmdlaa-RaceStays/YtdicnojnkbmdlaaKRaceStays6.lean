/-
  Texts of RaceStays, part 7 of 16. The graph of a team: its edges, and what a flow in it is between pairs and teams. Plain proofs.
-/
import Derived.Test.YtdicnojnkbmdlaaKRaceStays5
section
set_option linter.unusedVariables false
namespace Go.Proofs.Ytdicnojnkbmdlaa
open Go Go.Am

def gE1 (pb tb : Int) (c : Nat → Int) (Q : List Pr) (i : Nat) : List Ed := [⟨0, pb + i, c i⟩, ⟨pb + i, tb + (gt Q i).a, c i⟩, ⟨pb + i, tb + (gt Q i).b, c i⟩]
def gEa (pb tb : Int) (c : Nat → Int) (Q : List Pr) : Nat → List Ed
  | 0 => []
  | i + 1 => gEa pb tb c Q i ++ gE1 pb tb c Q i
def gEb (tb : Int) (P : List Int) (t goal : Int) (A : List Ed) : Nat → List Ed
  | 0 => A
  | k + 1 => if (k : Int) ≠ t then gEb tb P t goal A k ++ [⟨tb + k, 1, goal - gt P k⟩] else gEb tb P t goal A k
abbrev gE (pb tb : Int) (c : Nat → Int) (Q : List Pr) (P : List Int) (t goal : Int) : List Ed := gEb tb P t goal (gEa pb tb c Q Q.length) P.length
theorem gEa_len (pb tb : Int) (c : Nat → Int) (Q : List Pr) : ∀ i, (gEa pb tb c Q i).length = 3 * i
  | 0 => rfl
  | i + 1 => by rw [gEa, List.length_append, gEa_len pb tb c Q i]; simp only [gE1, List.length_cons, List.length_nil]; omega
theorem gEb_len (tb : Int) (P : List Int) (t goal : Int) (A : List Ed) : ∀ k, A.length ≤ (gEb tb P t goal A k).length ∧ (gEb tb P t goal A k).length ≤ A.length + k
  | 0 => by rw [gEb]; omega
  | k + 1 => by
    have := gEb_len tb P t goal A k
    rw [gEb]
    split
    · simp; omega
    · omega
theorem gt_appr {α : Type} [Inhabited α] (l m : List α) (k : Nat) : gt (l ++ m) (l.length + k) = gt m k := by
  simp [gt, List.getD_eq_getElem?_getD, List.getElem?_append_right (Nat.le_add_right l.length k)]
theorem gEa_at (pb tb : Int) (c : Nat → Int) (Q : List Pr) (i j : Nat) (hj : j < 3) : ∀ q, i < q → gt (gEa pb tb c Q q) (3 * i + j) = gt (gE1 pb tb c Q i) j
  | 0, h => by omega
  | q + 1, h => by
    rw [gEa]
    by_cases hq : i = q
    · subst hq
      rw [← gEa_len pb tb c Q i, gt_appr]
    · rw [gt_app _ _ _ (by rw [gEa_len]; omega), gEa_at pb tb c Q i j hj q (by omega)]
theorem gEb_lo (tb : Int) (P : List Int) (t goal : Int) (A : List Ed) (j : Nat) (hj : j < A.length) : ∀ k, gt (gEb tb P t goal A k) j = gt A j
  | 0 => rfl
  | k + 1 => by
    have h := gEb_len tb P t goal A k
    rw [gEb]
    split
    · rw [gt_app _ _ _ (by omega), gEb_lo tb P t goal A j hj k]
    · exact gEb_lo tb P t goal A j hj k
theorem gEb_at (tb : Int) (P : List Int) (t goal : Int) (A : List Ed) (k : Nat) (hk : (k : Int) ≠ t) : ∀ N, k < N → (gEb tb P t goal A k).length < (gEb tb P t goal A N).length ∧ gt (gEb tb P t goal A N) (gEb tb P t goal A k).length = ⟨tb + k, 1, goal - gt P k⟩
  | 0, h => by omega
  | N + 1, h => by
    by_cases hN : k = N
    · subst hN
      rw [gEb.eq_2, if_pos hk]
      exact ⟨by simp, by rw [gt_last]⟩
    · obtain ⟨h1, h2⟩ := gEb_at tb P t goal A k hk N (by omega)
      rw [gEb.eq_2 tb P t goal A N]
      split
      · exact ⟨by simp; omega, by rw [gt_app _ _ _ h1]; exact h2⟩
      · exact ⟨h1, h2⟩
theorem gE_pair (pb tb : Int) (c : Nat → Int) (Q : List Pr) (P : List Int) (t goal : Int) (i j : Nat) (hi : i < Q.length) (hj : j < 3) : gt (gE pb tb c Q P t goal) (3 * i + j) = gt (gE1 pb tb c Q i) j := by
  rw [gE, gEb_lo _ _ _ _ _ _ (by rw [gEa_len]; omega), gEa_at _ _ _ _ _ _ hj _ hi]
theorem gE_len (pb tb : Int) (c : Nat → Int) (Q : List Pr) (P : List Int) (t goal : Int) : 3 * Q.length ≤ (gE pb tb c Q P t goal).length ∧ (gE pb tb c Q P t goal).length ≤ 3 * Q.length + P.length := by
  have := gEb_len tb P t goal (gEa pb tb c Q Q.length) P.length
  rw [gEa_len] at this
  exact this
/-- Every edge is one of a pair or that of a team. -/
theorem gE_mem {pb tb : Int} {c : Nat → Int} {Q : List Pr} {P : List Int} {t goal : Int} {x : Ed} (h : x ∈ gE pb tb c Q P t goal) :
    (∃ i, i < Q.length ∧ (x = ⟨0, pb + i, c i⟩ ∨ x = ⟨pb + i, tb + (gt Q i).a, c i⟩ ∨ x = ⟨pb + i, tb + (gt Q i).b, c i⟩)) ∨ ∃ k : Nat, k < P.length ∧ (k : Int) ≠ t ∧ x = ⟨tb + k, 1, goal - gt P k⟩ := by
  have ha : ∀ q, x ∈ gEa pb tb c Q q → ∃ i, i < q ∧ (x = ⟨0, pb + i, c i⟩ ∨ x = ⟨pb + i, tb + (gt Q i).a, c i⟩ ∨ x = ⟨pb + i, tb + (gt Q i).b, c i⟩) := by
    intro q
    induction q with
    | zero => intro h; cases h
    | succ q ih =>
      intro h
      rw [gEa] at h
      rcases List.mem_append.1 h with h | h
      · obtain ⟨i, h1, h2⟩ := ih h
        exact ⟨i, by omega, h2⟩
      · refine ⟨q, by omega, ?_⟩
        simpa [gE1] using h
  have hb : ∀ N, x ∈ gEb tb P t goal (gEa pb tb c Q Q.length) N → x ∈ gEa pb tb c Q Q.length ∨ ∃ k : Nat, k < N ∧ (k : Int) ≠ t ∧ x = ⟨tb + k, 1, goal - gt P k⟩ := by
    intro N
    induction N with
    | zero => intro h; exact .inl h
    | succ N ih =>
      intro h
      rw [gEb] at h
      by_cases ht : (N : Int) ≠ t
      · rw [if_pos ht] at h
        rcases List.mem_append.1 h with h | h
        · rcases ih h with h | ⟨k, h1, h2⟩
          · exact .inl h
          · exact .inr ⟨k, by omega, h2⟩
        · exact .inr ⟨N, by omega, ht, by simpa using h⟩
      · rw [if_neg ht] at h
        rcases ih h with h | ⟨k, h1, h2⟩
        · exact .inl h
        · exact .inr ⟨k, by omega, h2⟩
  rcases hb _ h with h | h
  · exact .inl (ha _ h)
  · exact .inr h
theorem exc_app (A X : List Ed) (f : List Int) (v : Int) : ∀ u, u ≤ A.length → exc (A ++ X) f v u = exc A f v u
  | 0, _ => rfl
  | u + 1, h => by rw [exc, exc, exc_app A X f v u (by omega), gt_app _ _ _ (by omega)]
def ptE (pb tb : Int) (Q : List Pr) (f : List Int) (v : Int) (i : Nat) : Int :=
  (if 0 = v then gt f (3 * i) else 0) + (if pb + i = v then gt f (3 * i + 1) + gt f (3 * i + 2) - gt f (3 * i) else 0) - ((if tb + (gt Q i).a = v then gt f (3 * i + 1) else 0) + (if tb + (gt Q i).b = v then gt f (3 * i + 2) else 0))
theorem exc_a (pb tb : Int) (c : Nat → Int) (Q : List Pr) (f : List Int) (v : Int) (hp : 2 ≤ pb) (ht : 2 ≤ tb) (hd : ∀ i, i < Q.length → pb + i ≠ tb + (gt Q i).a ∧ pb + i ≠ tb + (gt Q i).b) : ∀ q, q ≤ Q.length → exc (gEa pb tb c Q q) f v (3 * q) = sumN (ptE pb tb Q f v) q
  | 0, _ => rfl
  | q + 1, h => by
    have hl := gEa_len pb tb c Q q
    have a0 : gt (gEa pb tb c Q (q + 1)) (3 * q) = ⟨0, pb + q, c q⟩ := gEa_at pb tb c Q q 0 (by omega) (q + 1) (by omega)
    have a1 : gt (gEa pb tb c Q (q + 1)) (3 * q + 1) = ⟨pb + q, tb + (gt Q q).a, c q⟩ := gEa_at pb tb c Q q 1 (by omega) (q + 1) (by omega)
    have a2 : gt (gEa pb tb c Q (q + 1)) (3 * q + 2) = ⟨pb + q, tb + (gt Q q).b, c q⟩ := gEa_at pb tb c Q q 2 (by omega) (q + 1) (by omega)
    have e0 : exc (gEa pb tb c Q (q + 1)) f v (3 * q) = sumN (ptE pb tb Q f v) q := by
      rw [← exc_a pb tb c Q f v hp ht hd q (by omega), gEa, exc_app _ _ _ _ _ (by omega)]
    have hdq := hd q (by omega)
    rw [show 3 * (q + 1) = 3 * q + 1 + 1 + 1 by omega, exc, exc, exc, e0, a0, a1, a2, sumN, ptE]
    simp only []
    by_cases h0 : 0 = v <;> by_cases h1 : pb + (q : Int) = v <;> by_cases h2 : tb + (gt Q q).a = v <;> by_cases h3 : tb + (gt Q q).b = v <;> simp only [h0, h1, h2, h3, if_true, if_false] <;> omega
theorem exc_b (tb : Int) (P : List Int) (t goal : Int) (A : List Ed) (f : List Int) (v : Int) (hv : v ≠ 1) : ∀ N, exc (gEb tb P t goal A N) f v (gEb tb P t goal A N).length = exc A f v A.length + sumN (fun k => if (k : Int) ≠ t ∧ tb + k = v then gt f (gEb tb P t goal A k).length else 0) N
  | 0 => by rw [gEb, sumN, Int.add_zero]
  | N + 1 => by
    have ih := exc_b tb P t goal A f v hv N
    rw [sumN, gEb]
    by_cases ht : (N : Int) ≠ t
    · rw [if_pos ht, List.length_append, List.length_singleton, exc, exc_app _ _ _ _ _ (Nat.le_refl _), ih, gt_last]
      simp only []
      rw [if_neg (show ¬ (1 = v) from fun hh => hv hh.symm)]
      by_cases h1 : tb + (N : Int) = v
      · rw [if_pos h1, if_pos ⟨ht, h1⟩]; omega
      · rw [if_neg h1, if_neg (fun hh => h1 hh.2)]; omega
    · rw [if_neg ht, if_neg (fun hh => ht hh.1), ih]; omega
/-- Where the nodes of pairs and teams lie. -/
structure LayG (pb tb n : Int) (q N : Nat) : Prop where
  p2 : 2 ≤ pb
  t2 : 2 ≤ tb
  pn : pb + q ≤ n
  tn : tb + N ≤ n
  dis : pb + q ≤ tb ∨ tb + N ≤ pb
theorem seen_clos {n s t : Int} {E : List Ed} {f : List Int} (g : GOK n s t E) {v : Int} (h0 : 0 ≤ v) (h1 : v < n) (h : gt (reachS n s E f).seen v.toNat = true) (i : Nat) (hi : i < E.length) : clos1 E f (reachS n s E f).seen v i := by
  obtain ⟨ord, so, R, hc⟩ := reach_inv f g
  obtain ⟨k, hk, hkv⟩ := (R.seen v h0 h1).1 h
  rw [← hkv]
  exact hc k hk i hi
/-- A flow in the graph, from which nothing more goes to the sink, as one between pairs and teams. -/
theorem bf_of {pb tb n t goal : Int} {c : Nat → Int} {Q : List Pr} {P : List Int} {f : List Int} (ly : LayG pb tb n Q.length P.length) (t0 : 0 ≤ t) (t1 : t < P.length) (g : GOK n 0 1 (gE pb tb c Q P t goal)) (F : FlowOK n 0 1 (gE pb tb c Q P t goal) f) (hs : gt (reachS n 0 (gE pb tb c Q P t goal) f).seen 1 = false)
    (hq : ∀ i, i < Q.length → 0 ≤ (gt Q i).a ∧ (gt Q i).a < P.length ∧ 0 ≤ (gt Q i).b ∧ (gt Q i).b < P.length ∧ (gt Q i).a ≠ (gt Q i).b ∧ (gt Q i).a ≠ t ∧ (gt Q i).b ≠ t) :
    BF P.length Q.length Q c P goal t (fun i => gt f (3 * i)) (fun i => gt f (3 * i + 1)) (fun i => gt f (3 * i + 2)) (fun k => gt f (gEb tb P t goal (gEa pb tb c Q Q.length) k).length)
      (fun k => gt (reachS n 0 (gE pb tb c Q P t goal) f).seen (tb.toNat + k)) (fun i => gt (reachS n 0 (gE pb tb c Q P t goal) f).seen (pb.toNat + i)) := by
  obtain ⟨l1, l2, l3, l4, l5⟩ := ly
  have hlen := gE_len pb tb c Q P t goal
  have hE0 := fun i hi => gE_pair pb tb c Q P t goal i 0 hi (by omega)
  have hE1 := fun i hi => gE_pair pb tb c Q P t goal i 1 hi (by omega)
  have hE2 := fun i hi => gE_pair pb tb c Q P t goal i 2 hi (by omega)
  have hEk := fun (k : Nat) (hk : k < P.length) (hkt : (k : Int) ≠ t) => gEb_at tb P t goal (gEa pb tb c Q Q.length) k hkt P.length hk
  have hexc : ∀ v, v ≠ 1 → exc (gE pb tb c Q P t goal) f v (gE pb tb c Q P t goal).length = sumN (ptE pb tb Q f v) Q.length + sumN (fun k => if (k : Int) ≠ t ∧ tb + k = v then gt f (gEb tb P t goal (gEa pb tb c Q Q.length) k).length else 0) P.length := fun v hv => by
    rw [gE, exc_b _ _ _ _ _ _ _ hv, gEa_len, exc_a pb tb c Q f v l1 l2 (fun i hi => by have := hq i hi; omega) _ (Nat.le_refl _)]
  have tn : ∀ x : Int, 0 ≤ x → (tb + x).toNat = tb.toNat + x.toNat := fun x hx => by omega
  have pn : ∀ i : Nat, (pb + (i : Int)).toNat = pb.toNat + i := fun i => by omega
  have r0 := fun i (hi : i < Q.length) => F.rng (3 * i) (by omega)
  have r1 := fun i (hi : i < Q.length) => F.rng (3 * i + 1) (by omega)
  have r2 := fun i (hi : i < Q.length) => F.rng (3 * i + 2) (by omega)
  have hsrc : gt (reachS n 0 (gE pb tb c Q P t goal) f).seen (0 : Int).toNat = true := by
    obtain ⟨ord, so, R, _⟩ := reach_inv f g
    exact (R.seen 0 (by omega) (by have := g.n2; omega)).2 ⟨0, R.pos, R.hd⟩
  refine ⟨hq, fun i hi => ?_, fun i hi => ?_, fun i hi => ?_, fun k hk hkt => ?_, fun i hi => ?_, fun k hk hkt => ?_, fun i hi hx => ?_, fun i hi hv hy => ?_, fun i hi hv hz => ?_, fun i hi ht hy => ?_, fun i hi ht hz => ?_, fun k hk hkt ht => ?_, fun k hk ht hkt => ?_⟩
  · have := r0 i hi; have e := hE0 i hi; simp only [Nat.add_zero] at e; rw [e] at this; exact this
  · have := r1 i hi; rw [hE1 i hi] at this; exact this
  · have := r2 i hi; rw [hE2 i hi] at this; exact this
  · obtain ⟨h1, h2⟩ := hEk k hk hkt
    have := F.rng _ h1
    rw [h2] at this
    exact this
  · have h := F.con (pb + i) (by omega) (by omega) (by omega) (by omega)
    rw [hexc _ (by omega)] at h
    have k1 : sumN (ptE pb tb Q f (pb + i)) Q.length = sumN (fun j => if j = i then gt f (3 * i + 1) + gt f (3 * i + 2) - gt f (3 * i) else 0) Q.length := sumN_congr _ fun j hj => by
      have := hq j hj
      rw [ptE, if_neg (by omega), if_neg (show ¬ tb + (gt Q j).a = pb + (i : Int) by omega), if_neg (show ¬ tb + (gt Q j).b = pb + (i : Int) by omega)]
      by_cases hij : j = i
      · subst hij; rw [if_pos rfl, if_pos rfl]; omega
      · rw [if_neg (by omega), if_neg hij]; omega
    have k2 : sumN (fun k => if (k : Int) ≠ t ∧ tb + k = pb + i then gt f (gEb tb P t goal (gEa pb tb c Q Q.length) k).length else 0) P.length = 0 := by
      refine Eq.trans (sumN_congr _ fun k hk => ?_) (sumN_zero _)
      rw [if_neg (by omega)]
    rw [k1, k2, sumN_one, if_pos hi] at h
    show gt f (3 * i) = gt f (3 * i + 1) + gt f (3 * i + 2)
    omega
  · have h := F.con (tb + k) (by omega) (by omega) (by omega) (by omega)
    rw [hexc _ (by omega)] at h
    have k2 : sumN (fun j => if (j : Int) ≠ t ∧ tb + j = tb + k then gt f (gEb tb P t goal (gEa pb tb c Q Q.length) j).length else 0) P.length = sumN (fun j => if j = k then gt f (gEb tb P t goal (gEa pb tb c Q Q.length) k).length else 0) P.length := sumN_congr _ fun j hj => by
      by_cases hjk : j = k
      · subst hjk; rw [if_pos ⟨hkt, rfl⟩, if_pos rfl]
      · rw [if_neg (by omega), if_neg hjk]
    have k1 : sumN (ptE pb tb Q f (tb + k)) Q.length + sumN (fun i => (if (gt Q i).a = k then gt f (3 * i + 1) else 0) + (if (gt Q i).b = k then gt f (3 * i + 2) else 0)) Q.length = 0 := by
      rw [← sumN_add]
      refine Eq.trans (sumN_congr _ fun i hi => ?_) (sumN_zero _)
      rw [ptE, if_neg (by omega), if_neg (by omega)]
      have e1 : (tb + (gt Q i).a = tb + k) = ((gt Q i).a = k) := propext (by omega)
      have e2 : (tb + (gt Q i).b = tb + k) = ((gt Q i).b = k) := propext (by omega)
      simp only [e1, e2]
      omega
    rw [k2, sumN_one, if_pos hk] at h
    show gt f (gEb tb P t goal (gEa pb tb c Q Q.length) k).length = _
    omega
  · have h := (seen_clos g (by omega) (by have := g.n2; omega) hsrc (3 * i) (by omega)).1
    have e := hE0 i hi
    simp only [Nat.add_zero] at e
    rw [e] at h
    have := h rfl hx
    rwa [show (gt (gE1 pb tb c Q i) 0).b.toNat = pb.toNat + i from pn i] at this
  · have h := (seen_clos g (v := pb + i) (by omega) (by omega) (by rw [pn]; exact hv) (3 * i + 1) (by omega)).1
    rw [hE1 i hi] at h
    have hqi := hq i hi
    have := h rfl hy
    rwa [show (gt (gE1 pb tb c Q i) 1).b.toNat = tb.toNat + (gt Q i).a.toNat from tn _ hqi.1] at this
  · have h := (seen_clos g (v := pb + i) (by omega) (by omega) (by rw [pn]; exact hv) (3 * i + 2) (by omega)).1
    rw [hE2 i hi] at h
    have hqi := hq i hi
    have := h rfl hz
    rwa [show (gt (gE1 pb tb c Q i) 2).b.toNat = tb.toNat + (gt Q i).b.toNat from tn _ hqi.2.2.1] at this
  · have hqi := hq i hi
    have h := (seen_clos g (v := tb + (gt Q i).a) (by omega) (by omega) (by rw [tn _ hqi.1]; exact ht) (3 * i + 1) (by omega)).2
    rw [hE1 i hi] at h
    have := h rfl hy
    rwa [show (gt (gE1 pb tb c Q i) 1).a.toNat = pb.toNat + i from pn i] at this
  · have hqi := hq i hi
    have h := (seen_clos g (v := tb + (gt Q i).b) (by omega) (by omega) (by rw [tn _ hqi.2.2.1]; exact ht) (3 * i + 2) (by omega)).2
    rw [hE2 i hi] at h
    have := h rfl hz
    rwa [show (gt (gE1 pb tb c Q i) 2).a.toNat = pb.toNat + i from pn i] at this
  · obtain ⟨h1, h2⟩ := hEk k hk hkt
    have hr := F.rng _ h1
    have h := (seen_clos g (v := tb + k) (by omega) (by omega) (by rw [tn _ (by omega)]; exact ht) _ h1).1
    rw [h2] at h hr
    simp only [] at h hr
    refine Classical.byContradiction fun hn => ?_
    have := h trivial (by omega)
    rw [show (1 : Int).toNat = 1 from rfl, hs] at this
    cases this
  · obtain ⟨ord, so, R, _⟩ := reach_inv f g
    have ht' : gt (reachS n 0 (gE pb tb c Q P t goal) f).seen (tb + k).toNat = true := by rw [tn _ (by omega)]; exact ht
    obtain ⟨j, hj, hjv⟩ := (R.seen (tb + k) (by omega) (by omega)).1 ht'
    have hj0 : 0 < j := by
      rcases Nat.eq_zero_or_pos j with h | h
      · subst h; rw [R.hd] at hjv; omega
      · exact h
    obtain ⟨a1, a2, _⟩ := R.arc j hj0 hj
    rw [hjv] at a1 a2
    generalize gt (reachS n 0 (gE pb tb c Q P t goal) f).way (tb + ↑k).toNat = cc at a1 a2
    have hm := gt_mem a1.ix
    have bad : ∀ e : Ed, e ∈ gE pb tb c Q P t goal → e.a ≠ tb + k ∧ e.b ≠ tb + k := by
      intro e he
      rcases gE_mem he with ⟨i, hi, h⟩ | ⟨k', h1, h2, rfl⟩
      · have := hq i hi
        rcases h with rfl | rfl | rfl <;> simp only [] <;> omega
      · simp only []; omega
    have hb := bad _ hm
    unfold headE at a2
    split at a2
    · exact hb.2 a2
    · exact hb.1 a2
end Go.Proofs.Ytdicnojnkbmdlaa
end
section
set_option linter.unusedVariables false
namespace Go.Proofs.Ytdicnojnkbmdlaa
open Go Go.Am

theorem seen_least {n s t : Int} {E : List Ed} {f : List Int} (g : GOK n s t E) (C : Int → Prop) (hs : C s)
    (hc : ∀ i, i < E.length → (C (gt E i).a → gt f i < (gt E i).c → C (gt E i).b) ∧ (C (gt E i).b → 0 < gt f i → C (gt E i).a)) {v : Int} (h0 : 0 ≤ v) (h1 : v < n) (h : gt (reachS n s E f).seen v.toNat = true) : C v := by
  obtain ⟨ord, so, R, _⟩ := reach_inv f g
  have key : ∀ k, k < ord.length → C (gt ord k) := by
    intro k
    induction k using Nat.strongRecOn with
    | ind k ih =>
      intro hk
      by_cases hk0 : k = 0
      · subst hk0; rw [R.hd]; exact hs
      · obtain ⟨a1, a2, j, a3, a4⟩ := R.arc k (by omega) hk
        have hj := ih j a3 (by omega)
        rw [← a4] at hj
        rw [← a2]
        generalize gt (reachS n s E f).way (gt ord k).toNat = c at *
        have hx := hc _ a1.ix
        have hr := a1.room
        unfold tailE at hj
        unfold headE
        unfold roomI at hr
        by_cases hp : 0 < c
        · rw [if_pos hp] at hj hr ⊢
          exact hx.1 hj (by omega)
        · rw [if_neg hp] at hj hr ⊢
          exact hx.2 hj hr
  obtain ⟨k, hk, hkv⟩ := (R.seen v h0 h1).1 h
  rw [← hkv]
  exact key k hk
/-- Every edge's number is one of a pair or that of a team. -/
theorem gE_ix (pb tb : Int) (c : Nat → Int) (Q : List Pr) (P : List Int) (t goal : Int) {j : Nat} (h : j < (gE pb tb c Q P t goal).length) :
    (∃ i r, i < Q.length ∧ r < 3 ∧ j = 3 * i + r) ∨ ∃ k : Nat, k < P.length ∧ (k : Int) ≠ t ∧ j = (gEb tb P t goal (gEa pb tb c Q Q.length) k).length := by
  by_cases hj : j < 3 * Q.length
  · exact .inl ⟨j / 3, j % 3, by omega, Nat.mod_lt _ (by decide), by omega⟩
  · refine .inr ?_
    have key : ∀ N, j < (gEb tb P t goal (gEa pb tb c Q Q.length) N).length → ∃ k : Nat, k < N ∧ (k : Int) ≠ t ∧ j = (gEb tb P t goal (gEa pb tb c Q Q.length) k).length := by
      intro N
      induction N with
      | zero => intro h; rw [gEb, gEa_len] at h; omega
      | succ N ih =>
        intro h
        rw [gEb] at h
        by_cases ht : (N : Int) ≠ t
        · rw [if_pos ht, List.length_append, List.length_singleton] at h
          by_cases hl : j < (gEb tb P t goal (gEa pb tb c Q Q.length) N).length
          · obtain ⟨k, h1, h2⟩ := ih hl
            exact ⟨k, by omega, h2⟩
          · exact ⟨N, by omega, ht, by omega⟩
        · rw [if_neg ht] at h
          obtain ⟨k, h1, h2⟩ := ih h
          exact ⟨k, by omega, h2⟩
    exact key _ h
/-- Whatever is closed under the arcs that are left has the teams that can be reached. -/
theorem bf_least {pb tb n t goal : Int} {c : Nat → Int} {Q : List Pr} {P : List Int} {f : List Int} (ly : LayG pb tb n Q.length P.length) (g : GOK n 0 1 (gE pb tb c Q P t goal))
    (hq : ∀ i, i < Q.length → 0 ≤ (gt Q i).a ∧ (gt Q i).a < P.length ∧ 0 ≤ (gt Q i).b ∧ (gt Q i).b < P.length ∧ (gt Q i).a ≠ (gt Q i).b ∧ (gt Q i).a ≠ t ∧ (gt Q i).b ≠ t)
    (T V : Nat → Bool) (c1 : ∀ i, i < Q.length → gt f (3 * i) < c i → V i = true)
    (c2 : ∀ i, i < Q.length → V i = true → T (gt Q i).a.toNat = true ∧ T (gt Q i).b.toNat = true)
    (c4 : ∀ i, i < Q.length → T (gt Q i).a.toNat = true → 0 < gt f (3 * i + 1) → V i = true)
    (c5 : ∀ i, i < Q.length → T (gt Q i).b.toNat = true → 0 < gt f (3 * i + 2) → V i = true)
    (c6 : ∀ k : Nat, k < P.length → (k : Int) ≠ t → T k = true → gt f (gEb tb P t goal (gEa pb tb c Q Q.length) k).length = goal - gt P k)
    {k : Nat} (hk : k < P.length) (h : gt (reachS n 0 (gE pb tb c Q P t goal) f).seen (tb.toNat + k) = true) : T k = true := by
  obtain ⟨l1, l2, l3, l4, l5⟩ := ly
  have hlen := gE_len pb tb c Q P t goal
  have hE0 := fun i hi => gE_pair pb tb c Q P t goal i 0 hi (by omega)
  have hE1 := fun i hi => gE_pair pb tb c Q P t goal i 1 hi (by omega)
  have hE2 := fun i hi => gE_pair pb tb c Q P t goal i 2 hi (by omega)
  simp only [Nat.add_zero] at hE0
  have hEk := fun (k : Nat) (hk : k < P.length) (hkt : (k : Int) ≠ t) => gEb_at tb P t goal (gEa pb tb c Q Q.length) k hkt P.length hk
  let C : Int → Prop := fun v => v = 0 ∨ (∃ i : Nat, i < Q.length ∧ v = pb + i ∧ V i = true) ∨ ∃ k : Nat, k < P.length ∧ v = tb + k ∧ T k = true
  have fromP : ∀ i : Nat, i < Q.length → C (pb + i) → V i = true := by
    rintro i hi (h | ⟨j, h1, h2, h3⟩ | ⟨j, h1, h2, h3⟩)
    · omega
    · have : i = j := by omega
      subst this; exact h3
    · omega
  have fromT : ∀ x : Int, 0 ≤ x → x < P.length → C (tb + x) → T x.toNat = true := by
    rintro i hi hi2 (h | ⟨j, h1, h2, h3⟩ | ⟨j, h1, h2, h3⟩)
    · omega
    · omega
    · have : i.toNat = j := by omega
      rw [this]; exact h3
  have toT : ∀ x : Int, 0 ≤ x → x < P.length → T x.toNat = true → C (tb + x) := fun x h0 h1 h => .inr (.inr ⟨x.toNat, by omega, by omega, h⟩)
  have hC : C (tb + k) := by
    refine seen_least (f := f) g C (.inl rfl) (fun j hj => ?_) (by omega) (by omega) (by rw [show (tb + (k : Int)).toNat = tb.toNat + k by omega]; exact h)
    rcases gE_ix pb tb c Q P t goal hj with ⟨i, r, hi, hr, rfl⟩ | ⟨k', hk', hkt, rfl⟩
    · have q := hq i hi
      have hr3 : r = 0 ∨ r = 1 ∨ r = 2 := by omega
      rcases hr3 with rfl | rfl | rfl
      · rw [Nat.add_zero, hE0 i hi]
        exact ⟨fun _ hx => .inr (.inl ⟨i, hi, rfl, c1 i hi hx⟩), fun _ _ => .inl rfl⟩
      · rw [hE1 i hi]
        exact ⟨fun hx _ => toT _ q.1 q.2.1 (c2 i hi (fromP i hi hx)).1, fun hx h0 => .inr (.inl ⟨i, hi, rfl, c4 i hi (fromT _ q.1 q.2.1 hx) h0⟩)⟩
      · rw [hE2 i hi]
        exact ⟨fun hx _ => toT _ q.2.2.1 q.2.2.2.1 (c2 i hi (fromP i hi hx)).2, fun hx h0 => .inr (.inl ⟨i, hi, rfl, c5 i hi (fromT _ q.2.2.1 q.2.2.2.1 hx) h0⟩)⟩
    · obtain ⟨e1, e2⟩ := hEk k' hk' hkt
      rw [e2]
      refine ⟨fun hx hl => ?_, fun hx _ => ?_⟩
      · have := c6 k' hk' hkt (fromT _ (by omega) (by omega) hx)
        simp only [] at hl
        omega
      · rcases hx with h | ⟨j, h1, h2, h3⟩ | ⟨j, h1, h2, h3⟩
        · simp only [] at h; omega
        · simp only [] at h2; omega
        · simp only [] at h2; omega
  exact fromT _ (by omega) (by omega) hC

/-- By how much the points among some teams are too many. -/
def defD (P : List Int) (L : List Pr) (goal : Int) (S : Nat → Bool) : Int := inN S L L.length - sumN (fun k => if S k = true then goal - gt P k else 0) P.length
abbrev cQ (L : List Pr) (t : Int) (Q : List Pr) (i : Nat) : Int := cnlN L t (norm (gt Q i)) L.length
section
variable {L : List Pr} {Q : List Pr} {P : List Int} {goal t : Int} {x y z e : Nat → Int} {T V : Nat → Bool}
theorem sumN_sub (f g : Nat → Int) (n : Nat) : sumN (fun i => f i - g i) n = sumN f n - sumN g n := by
  have h := sumN_add (fun i => f i - g i) g n
  have e : sumN (fun i => f i - g i + g i) n = sumN f n := sumN_congr n fun i _ => by omega
  omega
def ptD (S : Nat → Bool) (Q : List Pr) (c y z : Nat → Int) (i : Nat) : Int :=
  (if within S (gt Q i) = true then c i else 0) - ((if S (gt Q i).a.toNat = true then y i else 0) + (if S (gt Q i).b.toNat = true then z i else 0))
theorem def_is (B : BF P.length Q.length Q (cQ L t Q) P goal t x y z e T V) (W : PQ L t Q) (t0 : 0 ≤ t) (S : Nat → Bool) (hS : S t.toNat = false) :
    defD P L goal S = sumN (ptD S Q (cQ L t Q) y z) Q.length - sumN (fun k => if S k = true then goal - gt P k - e k else 0) P.length := by
  have h1 : sumN (fun i => if within S (gt Q i) = true then cQ L t Q i else 0) Q.length = inN S L L.length := within_in W S t0 hS L.length (Nat.le_refl _)
  have h2 := B.sum S (fun k hk hs hkt => by rw [← hkt, Int.toNat_natCast, hs] at hS; cases hS)
  have e1 : sumN (ptD S Q (cQ L t Q) y z) Q.length = _ := sumN_sub (fun i => if within S (gt Q i) = true then cQ L t Q i else 0) (fun i => (if S (gt Q i).a.toNat = true then y i else 0) + (if S (gt Q i).b.toNat = true then z i else 0)) Q.length
  have e2 : sumN (fun k => if S k = true then goal - gt P k - e k else 0) P.length = sumN (fun k => (if S k = true then goal - gt P k else 0) - (if S k = true then e k else 0)) P.length := sumN_congr _ fun k _ => by split <;> omega
  rw [defD, ← h1, e1, e2, sumN_sub (fun k => if S k = true then goal - gt P k else 0), h2]
  omega
theorem pt_le (B : BF P.length Q.length Q (cQ L t Q) P goal t x y z e T V) (S : Nat → Bool) {i : Nat} (hi : i < Q.length) :
    ptD S Q (cQ L t Q) y z i ≤ cQ L t Q i - x i ∧ (ptD S Q (cQ L t Q) y z i = cQ L t Q i - x i → (x i < cQ L t Q i → within S (gt Q i) = true) ∧ (S (gt Q i).a.toNat = true → 0 < y i → within S (gt Q i) = true) ∧ (S (gt Q i).b.toNat = true → 0 < z i → within S (gt Q i) = true)) := by
  have h1 := B.x0 i hi
  have h2 := B.y0 i hi
  have h3 := B.z0 i hi
  have h4 := B.pc i hi
  unfold ptD within
  cases ha : S (gt Q i).a.toNat <;> cases hb : S (gt Q i).b.toNat <;> simp only [Bool.and_true, Bool.and_false, Bool.false_eq_true, if_true, if_false] <;> refine ⟨by omega, fun h => ⟨fun _ => ?_, fun _ _ => ?_, fun _ _ => ?_⟩⟩ <;> first | trivial | omega
theorem def_le (B : BF P.length Q.length Q (cQ L t Q) P goal t x y z e T V) (W : PQ L t Q) (t0 : 0 ≤ t) (S : Nat → Bool) (hS : S t.toNat = false) :
    defD P L goal S ≤ sumN (fun i => cQ L t Q i - x i) Q.length := by
  rw [def_is B W t0 S hS]
  have h1 := sumN_le (f := ptD S Q (cQ L t Q) y z) (g := fun i => cQ L t Q i - x i) Q.length fun i hi => (pt_le B S hi).1
  have h2 := sumN_nn (f := fun k => if S k = true then goal - gt P k - e k else 0) P.length fun k hk => by
    split
    · rename_i hs
      have := B.e0 k hk (fun hkt => by rw [← hkt, Int.toNat_natCast, hs] at hS; cases hS)
      omega
    · exact Int.le_refl _
  omega
theorem def_max (B : BF P.length Q.length Q (cQ L t Q) P goal t x y z e T V) (W : PQ L t Q) (t0 : 0 ≤ t) (S : Nat → Bool) (hS : S t.toNat = false) (h : sumN (fun i => cQ L t Q i - x i) Q.length ≤ defD P L goal S) :
    (∀ i, i < Q.length → (x i < cQ L t Q i → within S (gt Q i) = true) ∧ (S (gt Q i).a.toNat = true → 0 < y i → within S (gt Q i) = true) ∧ (S (gt Q i).b.toNat = true → 0 < z i → within S (gt Q i) = true)) ∧
      ∀ k : Nat, k < P.length → (k : Int) ≠ t → S k = true → e k = goal - gt P k := by
  rw [def_is B W t0 S hS] at h
  have ne : ∀ k, k < P.length → S k = true → (k : Int) ≠ t := fun k hk hs hkt => by rw [← hkt, Int.toNat_natCast, hs] at hS; cases hS
  have f2 : ∀ k, k < P.length → 0 ≤ (if S k = true then goal - gt P k - e k else 0) := fun k hk => by
    split
    · have := B.e0 k hk (ne k hk (by assumption))
      omega
    · exact Int.le_refl _
  have h1 := sumN_le (f := ptD S Q (cQ L t Q) y z) (g := fun i => cQ L t Q i - x i) Q.length fun i hi => (pt_le B S hi).1
  have h2 := sumN_nn (f := fun k => if S k = true then goal - gt P k - e k else 0) P.length f2
  refine ⟨fun i hi => (pt_le B S hi).2 ?_, fun k hk hkt hs => ?_⟩
  · refine Classical.byContradiction fun hn => ?_
    have hl := (pt_le B S hi).1
    have := sumN_lt (f := ptD S Q (cQ L t Q) y z) (g := fun i => cQ L t Q i - x i) (j := i) Q.length (fun i hi => (pt_le B S hi).1) hi (by show _ < cQ L t Q i - x i; omega)
    omega
  · refine Classical.byContradiction fun hn => ?_
    have he := B.e0 k hk hkt
    have := sumN_lt (f := fun _ => 0) (g := fun k => if S k = true then goal - gt P k - e k else 0) (j := k) P.length f2 hk (by show (0 : Int) < _; rw [if_pos hs]; omega)
    rw [sumN_zero] at this
    omega
theorem bf_t (B : BF P.length Q.length Q (cQ L t Q) P goal t x y z e T V) (t0 : 0 ≤ t) (t1 : t < P.length) : T t.toNat = false := by
  cases h : T t.toNat with
  | false => rfl
  | true => exact absurd (show ((t.toNat : Nat) : Int) = t by omega) (B.r7 t.toNat (by omega) h)
theorem def_eq (B : BF P.length Q.length Q (cQ L t Q) P goal t x y z e T V) (W : PQ L t Q) (t0 : 0 ≤ t) (t1 : t < P.length) : defD P L goal T = sumN (fun i => cQ L t Q i - x i) Q.length := by
  have hT := bf_t B t0 t1
  have h1 : sumN (fun i => if within T (gt Q i) = true then cQ L t Q i else 0) Q.length = inN T L L.length := within_in W T t0 hT L.length (Nat.le_refl _)
  rw [defD, B.tight, ← h1, ← sumN_sub]
  refine sumN_congr _ fun i hi => ?_
  by_cases hw : within T (gt Q i) = true
  · rw [if_pos hw, if_pos hw]
  · rw [if_neg hw, if_neg hw]
    have h2 := B.x0 i hi
    have h3 : ¬ x i < cQ L t Q i := fun hh => hw (B.unsat i hi hh)
    omega
/-- All comes that can come, just where no teams have too many points among them. -/
theorem full_iff (B : BF P.length Q.length Q (cQ L t Q) P goal t x y z e T V) (W : PQ L t Q) (t0 : 0 ≤ t) (t1 : t < P.length) : (∀ i, i < Q.length → x i = cQ L t Q i) ↔ ∀ S : Nat → Bool, S t.toNat = false → defD P L goal S ≤ 0 := by
  constructor
  · intro h S hS
    have h1 := def_le B W t0 S hS
    have h2 : sumN (fun i => cQ L t Q i - x i) Q.length = 0 := (sumN_congr _ fun i hi => by rw [h i hi, Int.sub_self]).trans (sumN_zero _)
    omega
  · intro h i hi
    refine Classical.byContradiction fun hn => ?_
    have h1 := h T (bf_t B t0 t1)
    rw [def_eq B W t0 t1] at h1
    have h2 : ∀ i, i < Q.length → 0 ≤ cQ L t Q i - x i := fun i hi => by have := B.x0 i hi; omega
    have := sumN_lt (f := fun _ => 0) (g := fun i => cQ L t Q i - x i) (j := i) Q.length h2 hi (by have := h2 i hi; show (0 : Int) < _; omega)
    rw [sumN_zero] at this
    omega
end
end Go.Proofs.Ytdicnojnkbmdlaa
end
section
set_option linter.unusedVariables false
namespace Go.Proofs.Ytdicnojnkbmdlaa
open Go Go.Am

/-- Teams that have the most points too many among them. -/
def IsMax (P : List Int) (L : List Pr) (goal t : Int) (S : Nat → Bool) : Prop := S t.toNat = false ∧ ∀ S' : Nat → Bool, S' t.toNat = false → defD P L goal S' ≤ defD P L goal S
open Classical in
noncomputable def inT (P : List Int) (L : List Pr) (goal t : Int) (k : Nat) : Bool := decide (∀ S : Nat → Bool, IsMax P L goal t S → S k = true)
open Classical in
noncomputable def posB (P : List Int) (L : List Pr) (goal t : Int) : Bool := decide (∀ S : Nat → Bool, S t.toNat = false → defD P L goal S ≤ 0)
theorem inT_iff (P : List Int) (L : List Pr) (goal t : Int) (k : Nat) : inT P L goal t k = true ↔ ∀ S : Nat → Bool, IsMax P L goal t S → S k = true := by
  unfold inT
  exact @decide_eq_true_iff _ (Classical.propDecidable _)
theorem posB_iff (P : List Int) (L : List Pr) (goal t : Int) : posB P L goal t = true ↔ ∀ S : Nat → Bool, S t.toNat = false → defD P L goal S ≤ 0 := by
  unfold posB
  exact @decide_eq_true_iff _ (Classical.propDecidable _)
noncomputable def setN (P : List Int) (L : List Pr) (goal t : Int) : Nat → List Int
  | 0 => []
  | u + 1 => if inT P L goal t u = true then setN P L goal t u ++ [(u : Int)] else setN P L goal t u
section
variable {L : List Pr} {Q : List Pr} {P : List Int} {goal t : Int}
theorem bf_isMax {x y z e : Nat → Int} {T V : Nat → Bool} (B : BF P.length Q.length Q (cQ L t Q) P goal t x y z e T V) (W : PQ L t Q) (t0 : 0 ≤ t) (t1 : t < P.length) : IsMax P L goal t T :=
  ⟨bf_t B t0 t1, fun S' hS' => by rw [def_eq B W t0 t1]; exact def_le B W t0 S' hS'⟩
/-- What the verdict is read from. -/
structure Cut (P : List Int) (L Q : List Pr) (goal t pb tb n : Int) (f : List Int) (seen : List Bool) : Prop where
  full : (∀ i, i < Q.length → gt f (3 * i) = cQ L t Q i) ↔ posB P L goal t = true
  set : ∀ k, k < P.length → gt seen (tb.toNat + k) = inT P L goal t k
  not : inT P L goal t t.toNat = false
  elim : posB P L goal t = false → 0 < defD P L goal (inT P L goal t) ∧ ∃ k, k < P.length ∧ inT P L goal t k = true
  bf : ∃ x z e T V, BF P.length Q.length Q (cQ L t Q) P goal t x (fun i => gt f (3 * i + 1)) z e T V ∧ ∀ i, x i = gt f (3 * i)
theorem cut_of {pb tb n : Int} {f : List Int} (ly : LayG pb tb n Q.length P.length) (t0 : 0 ≤ t) (t1 : t < P.length) (g : GOK n 0 1 (gE pb tb (cQ L t Q) Q P t goal)) (F : FlowOK n 0 1 (gE pb tb (cQ L t Q) Q P t goal) f) (hs : gt (reachS n 0 (gE pb tb (cQ L t Q) Q P t goal) f).seen 1 = false)
    (hq : ∀ i, i < Q.length → 0 ≤ (gt Q i).a ∧ (gt Q i).a < P.length ∧ 0 ≤ (gt Q i).b ∧ (gt Q i).b < P.length ∧ (gt Q i).a ≠ (gt Q i).b ∧ (gt Q i).a ≠ t ∧ (gt Q i).b ≠ t) (W : PQ L t Q) :
    Cut P L Q goal t pb tb n f (reachS n 0 (gE pb tb (cQ L t Q) Q P t goal) f).seen := by
  have B := bf_of ly t0 t1 g F hs hq
  have M := bf_isMax B W t0 t1
  have set : ∀ k, k < P.length → gt (reachS n 0 (gE pb tb (cQ L t Q) Q P t goal) f).seen (tb.toNat + k) = inT P L goal t k := by
    intro k hk
    rw [Bool.eq_iff_iff, inT_iff]
    constructor
    · intro h S hS
      have hm : sumN (fun i => cQ L t Q i - gt f (3 * i)) Q.length ≤ defD P L goal S := by
        have := hS.2 (fun k => gt (reachS n 0 (gE pb tb (cQ L t Q) Q P t goal) f).seen (tb.toNat + k)) M.1
        rwa [def_eq B W t0 t1] at this
      obtain ⟨m1, m2⟩ := def_max B W t0 S hS.1 hm
      refine bf_least ly g hq S (fun i => within S (gt Q i)) (fun i hi => (m1 i hi).1) (fun i hi hw => ?_) (fun i hi => (m1 i hi).2.1) (fun i hi => (m1 i hi).2.2) m2 hk h
      unfold within at hw
      exact Bool.and_eq_true_iff.1 hw
    · intro h
      exact h _ M
  have full : (∀ i, i < Q.length → gt f (3 * i) = cQ L t Q i) ↔ posB P L goal t = true := by
    rw [posB_iff]
    exact full_iff B W t0 t1
  refine ⟨full, set, ?_, fun hp => ?_, _, _, _, _, _, B, fun i => rfl⟩
  · rw [← set _ (by omega)]; exact bf_t B t0 t1
  · have h2 : ∃ j, j < Q.length ∧ gt f (3 * j) < cQ L t Q j := by
      refine Classical.byContradiction fun hn => ?_
      have : posB P L goal t = true := full.1 fun i hi => by
        have h1 : gt f (3 * i) ≤ cQ L t Q i := (B.x0 i hi).2
        have h3 : ¬ gt f (3 * i) < cQ L t Q i := fun hh => hn ⟨i, hi, hh⟩
        omega
      rw [hp] at this; cases this
    obtain ⟨j, hj, hjl⟩ := h2
    have eT : defD P L goal (inT P L goal t) = defD P L goal (fun k => gt (reachS n 0 (gE pb tb (cQ L t Q) Q P t goal) f).seen (tb.toNat + k)) := by
      -- the teams agree
      have e1 : sumN (fun k => if inT P L goal t k = true then goal - gt P k else 0) P.length = sumN (fun k => if gt (reachS n 0 (gE pb tb (cQ L t Q) Q P t goal) f).seen (tb.toNat + k) = true then goal - gt P k else 0) P.length := sumN_congr _ fun k hk => by rw [set k hk]
      have e2 : inN (inT P L goal t) L L.length = inN (fun k => gt (reachS n 0 (gE pb tb (cQ L t Q) Q P t goal) f).seen (tb.toNat + k)) L L.length := by
        rw [← within_in W (inT P L goal t) t0 (by rw [← set _ (by omega)]; exact bf_t B t0 t1) L.length (Nat.le_refl _), ← within_in W _ t0 (bf_t B t0 t1) L.length (Nat.le_refl _)]
        refine sumN_congr _ fun i hi => ?_
        have h := hq i hi
        have e : within (inT P L goal t) (gt Q i) = within (fun k => gt (reachS n 0 (gE pb tb (cQ L t Q) Q P t goal) f).seen (tb.toNat + k)) (gt Q i) := by
          unfold within
          rw [← set (gt Q i).a.toNat (by omega), ← set (gt Q i).b.toNat (by omega)]
        rw [e]
      rw [defD, defD, e1, e2]
    refine ⟨?_, ?_⟩
    · rw [eT, def_eq B W t0 t1]
      have h2 : ∀ i, i < Q.length → 0 ≤ cQ L t Q i - gt f (3 * i) := fun i hi => by
        have h4 : gt f (3 * i) ≤ cQ L t Q i := (B.x0 i hi).2
        omega
      have := sumN_lt (f := fun _ => 0) (g := fun i => cQ L t Q i - gt f (3 * i)) (j := j) Q.length h2 hj (by show (0 : Int) < _; omega)
      rwa [sumN_zero] at this
    · obtain ⟨_, k, hk, hkT⟩ := B.elim hj hjl
      exact ⟨k, hk, by rw [← set k hk]; exact hkT⟩
end
theorem sumN_goal (P : List Int) (goal : Int) (S : Nat → Bool) : ∀ n, sumN (fun k => if S k = true then goal - gt P k else 0) n = sumN (fun k => if S k = true then goal else 0) n - sumN (fun k => if S k = true then gt P k else 0) n
  | 0 => rfl
  | n + 1 => by
    rw [sumN, sumN, sumN, sumN_goal P goal S n]
    split <;> omega
/-- A team that cannot be first. -/
def canBe (P : List Int) (L : List Pr) (t : Int) : Prop := ∃ R : List Int, R.length = L.length ∧ resOK R ∧ ∀ k, k < P.length → gt (playN P L R L.length) k ≤ gt (playN P L R L.length) t.toNat
theorem def_no {P : List Int} {L : List Pr} (g : ROK P L) {t goal : Int} (t0 : 0 ≤ t) (hg : goal = mostN P L t L.length) (S : Nat → Bool) (h : 0 < defD P L goal S) : ¬ canBe P L t := by
  rintro ⟨R, h1, h2, h3⟩
  rw [defD, sumN_goal] at h
  obtain ⟨k, hk, hkl⟩ := elim_no g t0 hg S (by omega) h1 h2
  have := h3 k hk
  omega
/-- The edges' graph is one. -/
theorem gE_chk {pb tb n t goal : Int} {c : Nat → Int} {Q : List Pr} {P : List Int} (ly : LayG pb tb n Q.length P.length) (hn : n ≤ 64) (hQ : Q.length ≤ 40) (hP : P.length ≤ 20)
    (hq : ∀ i, i < Q.length → 0 ≤ (gt Q i).a ∧ (gt Q i).a < P.length ∧ 0 ≤ (gt Q i).b ∧ (gt Q i).b < P.length ∧ (gt Q i).a ≠ (gt Q i).b ∧ (gt Q i).a ≠ t ∧ (gt Q i).b ≠ t)
    (hc : ∀ i, i < Q.length → 0 ≤ c i ∧ c i ≤ 1073741824) (hg : ∀ k, k < P.length → 0 ≤ goal - gt P k ∧ goal - gt P k ≤ 1073741824) : gchkS n 0 1 (gE pb tb c Q P t goal) = 0 := by
  obtain ⟨l1, l2, l3, l4, l5⟩ := ly
  have hlen := gE_len pb tb c Q P t goal
  rw [gchkS, if_neg (by omega), if_neg (by omega), if_neg (by omega)]
  have key : ∀ u, u ≤ (gE pb tb c Q P t goal).length → ferr (fun i => edErr n (gt (gE pb tb c Q P t goal) i)) u = 0 := by
    intro u
    induction u with
    | zero => intro _; rfl
    | succ u ih =>
      intro hu
      refine ferr_ok (ih (by omega)) ?_
      rcases gE_mem (gt_mem (show u < (gE pb tb c Q P t goal).length by omega)) with ⟨i, hi, h⟩ | ⟨k, h1, h2, h⟩
      · have h3 := hq i hi
        have h4 := hc i hi
        rcases h with h | h | h <;> rw [h] <;> simp only [edErr] <;> rw [if_neg (by omega), if_neg (by omega)]
      · have h3 := hg k h1
        rw [h]
        simp only [edErr]
        rw [if_neg (by omega), if_neg (by omega)]
  exact key _ (Nat.le_refl _)

/-! The set, as the certificate has it. -/
section
variable {L : List Pr} {P : List Int} {goal t : Int}
def setOK (t : Int) (S : List Int) (N : Nat) : Prop := ∀ i, i < S.length → 0 ≤ gt S i ∧ gt S i < N ∧ gt S i ≠ t ∧ (0 < i → gt S (i - 1) < gt S i)
theorem set_ok (h : inT P L goal t t.toNat = false) (t0 : 0 ≤ t) : ∀ n, setOK t (setN P L goal t n) n ∧ ∀ k : Nat, k < n → ((k : Int) ∈ setN P L goal t n ↔ inT P L goal t k = true)
  | 0 => ⟨fun i hi => by simp [setN] at hi, fun k hk => by omega⟩
  | n + 1 => by
    obtain ⟨ih1, ih2⟩ := set_ok h t0 n
    rw [setN]
    by_cases hn : inT P L goal t n = true
    · rw [if_pos hn]
      have hnt : (n : Int) ≠ t := fun hh => by subst hh; rw [Int.toNat_natCast, hn] at h; cases h
      refine ⟨fun i hi => ?_, fun k hk => ?_⟩
      · rw [List.length_append, List.length_singleton] at hi
        by_cases hi2 : i < (setN P L goal t n).length
        · obtain ⟨a1, a2, a3, a4⟩ := ih1 i hi2
          rw [gt_app _ _ _ hi2]
          refine ⟨a1, by omega, a3, fun h0 => ?_⟩
          rw [gt_app _ _ _ (by omega)]
          exact a4 h0
        · have : i = (setN P L goal t n).length := by omega
          subst this
          rw [gt_last]
          refine ⟨by omega, by omega, hnt, fun h0 => ?_⟩
          rw [gt_app _ _ _ (by omega)]
          have := ih1 ((setN P L goal t n).length - 1) (by omega)
          omega
      · rw [List.mem_append, List.mem_singleton]
        by_cases hkn : k = n
        · subst hkn; exact ⟨fun _ => hn, fun _ => .inr rfl⟩
        · have h7 := ih2 k (by omega)
          exact ⟨fun hh => h7.1 (hh.resolve_right (fun h8 => hkn (Int.ofNat.inj h8))), fun hh => .inl (h7.2 hh)⟩
    · rw [if_neg hn]
      refine ⟨fun i hi => ?_, fun k hk => ?_⟩
      · obtain ⟨a1, a2, a3, a4⟩ := ih1 i hi
        exact ⟨a1, by omega, a3, a4⟩
      · by_cases hkn : k = n
        · subst hkn
          refine ⟨fun hh => ?_, fun hh => absurd hh hn⟩
          obtain ⟨i, hi, he⟩ := List.mem_iff_getElem.1 hh
          have := ih1 i hi
          rw [gt_eq _ _ hi, he] at this
          omega
        · exact ih2 k (by omega)
end
end Go.Proofs.Ytdicnojnkbmdlaa
end
section
set_option linter.unusedVariables false
namespace Go.Proofs.Ytdicnojnkbmdlaa
open Go Go.Am

/-- The pairs of the first matches. -/
structure PQN (L : List Pr) (t : Int) (Q : List Pr) (n : Nat) : Prop where
  nd : ∀ i j, i < Q.length → j < Q.length → norm (gt Q i) = norm (gt Q j) → i = j
  all : ∀ u, u < n → (gt L u).a ≠ t ∧ (gt L u).b ≠ t → ∃ i, i < Q.length ∧ norm (gt Q i) = norm (gt L u)
  src : ∀ i, i < Q.length → ∃ u, u < n ∧ ((gt L u).a ≠ t ∧ (gt L u).b ≠ t) ∧ norm (gt Q i) = norm (gt L u)
theorem PQN.to {L : List Pr} {t : Int} {Q : List Pr} (W : PQN L t Q L.length) : PQ L t Q := ⟨W.nd, W.all, W.src⟩
theorem pqn_nil (L : List Pr) (t : Int) : PQN L t [] 0 := ⟨fun i j hi => by simp at hi, fun u hu => by omega, fun i hi => by simp at hi⟩
theorem pqn_skip {L : List Pr} {t : Int} {Q : List Pr} {n : Nat} (W : PQN L t Q n) (h : ¬ ((gt L n).a ≠ t ∧ (gt L n).b ≠ t)) : PQN L t Q (n + 1) :=
  ⟨W.nd, fun u hu ho => by
    by_cases hn : u = n
    · subst hn; exact absurd ho h
    · exact W.all u (by omega) ho, fun i hi => by
    obtain ⟨u, h1, h2⟩ := W.src i hi
    exact ⟨u, by omega, h2⟩⟩
theorem pqn_old {L : List Pr} {t : Int} {Q : List Pr} {n : Nat} (W : PQN L t Q n) {i : Nat} (hi : i < Q.length) (h : norm (gt Q i) = norm (gt L n)) : PQN L t Q (n + 1) :=
  ⟨W.nd, fun u hu ho => by
    by_cases hn : u = n
    · subst hn; exact ⟨i, hi, h⟩
    · exact W.all u (by omega) ho, fun i hi => by
    obtain ⟨u, h1, h2⟩ := W.src i hi
    exact ⟨u, by omega, h2⟩⟩
theorem pqn_new {L : List Pr} {t : Int} {Q : List Pr} {n : Nat} (W : PQN L t Q n) (ho : (gt L n).a ≠ t ∧ (gt L n).b ≠ t) {m : Pr} (hm : norm m = norm (gt L n)) (h : ∀ i, i < Q.length → norm (gt Q i) ≠ norm (gt L n)) : PQN L t (Q ++ [m]) (n + 1) := by
  have cas : ∀ k, k < (Q ++ [m]).length → k < Q.length ∧ gt (Q ++ [m]) k = gt Q k ∨ k = Q.length ∧ gt (Q ++ [m]) k = m := fun k hk => by
    rw [List.length_append, List.length_singleton] at hk
    by_cases h : k < Q.length
    · exact .inl ⟨h, gt_app _ _ _ h⟩
    · have : k = Q.length := by omega
      subst this
      exact .inr ⟨rfl, gt_last _ _⟩
  refine ⟨fun i j hi hj e => ?_, fun u hu hou => ?_, fun i hi => ?_⟩
  · rcases cas i hi with ⟨h1, h2⟩ | ⟨h1, h2⟩ <;> rcases cas j hj with ⟨h3, h4⟩ | ⟨h3, h4⟩ <;> rw [h2, h4] at e
    · exact W.nd i j h1 h3 e
    · exact absurd (e.trans hm) (h i h1)
    · exact absurd (e.symm.trans hm) (h j h3)
    · omega
  · by_cases hn : u = n
    · subst hn; exact ⟨Q.length, by simp, by rw [gt_last, hm]⟩
    · obtain ⟨i, h1, h2⟩ := W.all u (by omega) hou
      exact ⟨i, by simp; omega, by rw [gt_app _ _ _ h1]; exact h2⟩
  · rcases cas i hi with ⟨h1, h2⟩ | ⟨h1, h2⟩ <;> rw [h2]
    · obtain ⟨u, h3, h4⟩ := W.src i h1
      exact ⟨u, by omega, h4⟩
    · exact ⟨n, by omega, ho, hm⟩
theorem pairs_app (O : List Pr) (m : Pr) : ∀ u, u ≤ O.length → pairsN (O ++ [m]) u = pairsN O u
  | 0, _ => rfl
  | u + 1, h => by rw [pairsN, pairsN, pairs_app O m u (by omega), gt_app _ _ _ (by omega)]
abbrev pQ (L : List Pr) (t : Int) : List Pr := pairsN (othS L t) (othS L t).length
theorem norm_norm (p : Pr) : norm (norm p) = norm p := by simp only [norm, Pr.mk.injEq]; omega
theorem pairs_norm (O : List Pr) : ∀ u p, p ∈ pairsN O u → norm p = p
  | 0, p, h => by simp [pairsN] at h
  | u + 1, p, h => by
    rw [pairsN] at h
    split at h
    · exact pairs_norm O u p h
    · rcases List.mem_append.1 h with h | h
      · exact pairs_norm O u p h
      · rw [List.mem_singleton] at h; rw [h, norm_norm]
theorem pQ_nq (L : List Pr) (t : Int) : NQ (pQ L t) := fun i hi => pairs_norm _ _ _ (gt_mem hi)
theorem pq_prog (L : List Pr) (t : Int) : ∀ u, PQN L t (pairsN (othN L t u) (othN L t u).length) u
  | 0 => pqn_nil L t
  | u + 1 => by
    have ih := pq_prog L t u
    rw [othN]
    by_cases h : (gt L u).a ≠ t ∧ (gt L u).b ≠ t
    · rw [if_pos h, List.length_append, List.length_singleton, pairsN, pairs_app _ _ _ (Nat.le_refl _), gt_last]
      by_cases hm : norm (gt L u) ∈ pairsN (othN L t u) (othN L t u).length
      · rw [if_pos hm]
        obtain ⟨i, hi, he⟩ := List.mem_iff_getElem.1 hm
        exact pqn_old ih hi (by rw [gt_eq _ _ hi, he, norm_norm])
      · rw [if_neg hm]
        refine pqn_new ih h (norm_norm _) fun i hi he => hm ?_
        rw [pairs_norm _ _ _ (gt_mem hi)] at he
        rw [← he]; exact gt_mem hi
    · rw [if_neg h]
      exact pqn_skip ih h
/-- The reference's pairs of the first matches, and twice how often each occurs. -/
def refO (L : List Pr) (t : Int) : Nat → List Pr
  | 0 => []
  | u + 1 => if (gt L u).a = t ∨ (gt L u).b = t then refO L t u else if norm (gt L u) ∈ (refO L t u).map norm then refO L t u else refO L t u ++ [gt L u]
theorem mem_norm' {l : List Pr} {p : Pr} : norm p ∈ l.map norm ↔ ∃ i, i < l.length ∧ norm (gt l i) = norm p := by
  rw [List.mem_map]
  constructor
  · rintro ⟨q, hq, he⟩
    obtain ⟨i, hi, h⟩ := List.mem_iff_getElem.1 hq
    exact ⟨i, hi, by rw [gt_eq _ _ hi, h, he]⟩
  · rintro ⟨i, hi, he⟩
    exact ⟨gt l i, by rw [gt_eq _ _ hi]; exact List.getElem_mem _, he⟩
theorem pq_ref (L : List Pr) (t : Int) : ∀ u, PQN L t (refO L t u) u
  | 0 => pqn_nil L t
  | u + 1 => by
    have ih := pq_ref L t u
    rw [refO]
    by_cases h : (gt L u).a = t ∨ (gt L u).b = t
    · rw [if_pos h]; exact pqn_skip ih (by omega)
    · rw [if_neg h]
      by_cases hm : norm (gt L u) ∈ (refO L t u).map norm
      · rw [if_pos hm]
        obtain ⟨i, hi, he⟩ := mem_norm'.1 hm
        exact pqn_old ih hi he
      · rw [if_neg hm]
        exact pqn_new ih (by omega) rfl fun i hi he => hm (mem_norm'.2 ⟨i, hi, he⟩)
theorem len_le : ∀ (l m : List Pr), (∀ i j, i < l.length → j < l.length → gt l i = gt l j → i = j) → (∀ x, x ∈ l → x ∈ m) → l.length ≤ m.length
  | [], m, _, _ => Nat.zero_le _
  | x :: r, m, hd, hs => by
    have hx := hs x (List.mem_cons_self ..)
    have ih := len_le r (m.erase x) (fun i j hi hj h => by
      have := hd (i + 1) (j + 1) (by simp; omega) (by simp; omega) h
      omega) fun y hy => by
      have hne : y ≠ x := fun hh => by
        subst hh
        obtain ⟨i, hi, he⟩ := List.mem_iff_getElem.1 hy
        have := hd 0 (i + 1) (by simp) (by simp; omega) (by show y = gt r i; rw [gt_eq _ _ hi, he])
        omega
      exact (List.mem_erase_of_ne hne).2 (hs y (List.mem_cons_of_mem _ hy))
    rw [List.length_erase_of_mem hx] at ih
    have : 0 < m.length := List.length_pos_of_mem hx
    rw [List.length_cons]; omega
theorem mem_pairs (L : List Pr) : ∀ u i, i < u → norm (gt L i) ∈ pairsN L u
  | 0, i, h => by omega
  | u + 1, i, h => by
    rw [pairsN]
    by_cases hi : i = u
    · subst hi
      split
      · assumption
      · simp
    · have := mem_pairs L u i (by omega)
      split
      · exact this
      · exact List.mem_append_left _ this
theorem pq_len {L : List Pr} {t : Int} {Q : List Pr} (W : PQ L t Q) : Q.length ≤ (pairsN L L.length).length := by
  have h := len_le (Q.map norm) (pairsN L L.length) (fun i j hi hj h => by
    rw [List.length_map] at hi hj
    refine W.nd i j hi hj ?_
    rw [gt_eq _ _ (by rw [List.length_map]; exact hi), gt_eq _ _ (by rw [List.length_map]; exact hj), List.getElem_map, List.getElem_map] at h
    rw [gt_eq _ _ hi, gt_eq _ _ hj]; exact h) fun x hx => by
    obtain ⟨q, hq, he⟩ := List.mem_map.1 hx
    obtain ⟨i, hi, h⟩ := List.mem_iff_getElem.1 hq
    obtain ⟨u, hu, _, h2⟩ := W.src i hi
    rw [gt_eq _ _ hi, h, he] at h2
    rw [h2]; exact mem_pairs L _ u hu
  rwa [List.length_map] at h
theorem pq_rng {P : List Int} {L : List Pr} (g : ROK P L) {t : Int} {Q : List Pr} (W : PQ L t Q) : ∀ i, i < Q.length → 0 ≤ (gt Q i).a ∧ (gt Q i).a < P.length ∧ 0 ≤ (gt Q i).b ∧ (gt Q i).b < P.length ∧ (gt Q i).a ≠ (gt Q i).b ∧ (gt Q i).a ≠ t ∧ (gt Q i).b ≠ t := fun i hi => by
  obtain ⟨u, hu, ho, h2⟩ := W.src i hi
  have e := g.ed u hu
  have h3 := (norm_iff _ _).2 h2
  omega
theorem cnl_rng (L : List Pr) (t : Int) (p : Pr) : ∀ u, 0 ≤ cnlN L t p u ∧ cnlN L t p u ≤ 2 * u
  | 0 => by rw [cnlN]; omega
  | u + 1 => by
    have := cnl_rng L t p u
    rw [cnlN]
    split <;> omega
theorem cnl_zero {L : List Pr} {t : Int} {Q : List Pr} {n : Nat} (W : PQN L t Q n) {p : Pr} (h : ∀ i, i < Q.length → norm (gt Q i) ≠ p) : ∀ u, u ≤ n → cnlN L t p u = 0
  | 0, _ => rfl
  | u + 1, hu => by
    rw [cnlN, cnl_zero W h u (by omega), if_neg, Int.add_zero]
    rintro ⟨h1, h2⟩
    obtain ⟨i, hi, he⟩ := W.all u (by omega) h1
    exact h i hi (he.trans h2)
/-- What a verdict is read from, for the pairs of the program and of the reference. -/
theorem cut_race {P : List Int} {L : List Pr} (g : ROK P L) {t goal : Int} (t0 : 0 ≤ t) (t1 : t < P.length) (hg : goal = mostN P L t L.length) (hp : ∀ k, k < P.length → gt P k ≤ goal) {Q : List Pr} (W : PQ L t Q) {pb tb n : Int} (ly : LayG pb tb n Q.length P.length) (hn : n = 2 + P.length + Q.length) :
    gchkS n 0 1 (gE pb tb (cQ L t Q) Q P t goal) = 0 ∧ Cut P L Q goal t pb tb n (maxF n 0 1 (gE pb tb (cQ L t Q) Q P t goal)) (reachS n 0 (gE pb tb (cQ L t Q) Q P t goal) (maxF n 0 1 (gE pb tb (cQ L t Q) Q P t goal))).seen := by
  have hl := pq_len W
  have h1 := g.pr
  have h2 := g.n20
  have h3 := g.el
  have hpt := g.pt t.toNat (by omega)
  have hm := most_rng (L := L) hpt.1 hpt.2 L.length
  have hc : gchkS n 0 1 (gE pb tb (cQ L t Q) Q P t goal) = 0 := gE_chk ly (by omega) (by omega) h2 (pq_rng g W) (fun i hi => by have := cnl_rng L t (norm (gt Q i)) L.length; show 0 ≤ cnlN L t (norm (gt Q i)) L.length ∧ cnlN L t (norm (gt Q i)) L.length ≤ 1073741824; omega) fun k hk => by have := hp k hk; have := g.pt k hk; omega
  refine ⟨hc, ?_⟩
  obtain ⟨F, hs⟩ := maxF_ok hc
  exact cut_of ly t0 t1 (gok_of hc) F hs (pq_rng g W) W
end Go.Proofs.Ytdicnojnkbmdlaa
end
section
set_option linter.unusedSimpArgs false
set_option linter.unusedVariables false
set_option maxHeartbeats 40000000
set_option maxRecDepth 4000
namespace Go.Proofs.Ytdicnojnkbmdlaa
open Go Go.Am

abbrev lc_pair_ok (a b c : AV) : Env := [(0,a),(1,b),(2,c)]
theorem pair_ok (lim : Nat) (H : Heap) (p : Pr) :
    ACall sig lim 69 [.agg (prC p)] H fun r H' => r = .agg (prC (norm p)) ∧ H' = H := by
 refine ACall_pure (fa := fa69) rfl rfl rfl rfl ?_
 have tr : ∀ a0 : AV, env0 fa69.keep [a0] = [(0,a0),(1,.any),(2,.any)] := fun a0 => rfl
 refine W_to (tr _) ?_; clear tr
 refine at_seq rfl ?_
 refine rg rfl ?_
 refine R_box rfl (by simp (disch := first | omega | (simp only [List.length_map, List.length_append, List.length_set, List.length_cons, List.length_nil]; omega)) only [go_sem, ↓reduceIte, Nat.reduceEqDiff, reduceCtorEq] <;> rfl) rfl rfl ?_
 refine R_alloc (by simp (disch := first | omega | (simp only [List.length_map, List.length_append, List.length_set, List.length_cons, List.length_nil]; omega)) only [go_sem, ↓reduceIte, Nat.reduceEqDiff, reduceCtorEq] <;> rfl) rfl (by simp only [List.map_cons, List.map_nil]; rfl) ?_
 have tr : ∀ a b c d e : AV, let l := lc_pair_ok a b c; trim ((2,e)::(1,d)::l) l = [(0,a),(1,d),(2,e)] := by intros; rfl
 refine R_nil (tr ..) ?_; clear tr
 refine then_n ?_
 refine at_seq rfl ?_
 refine rg rfl ?_
 refine Rq ?_
 refine Rq ?_
 refine Rq ?_
 refine Rq ?_
 refine Rq ?_
 refine Rq ?_
 refine Rq ?_
 refine Rq ?_
 refine Rq ?_
 refine Rq ?_
 refine Rq ?_
 refine R_store ty58 (by simp (disch := first | omega | (simp only [List.length_map, List.length_append, List.length_set, List.length_cons, List.length_nil]; omega)) only [go_sem, ↓reduceIte, Nat.reduceEqDiff, reduceCtorEq] <;> rfl) (by simp (disch := first | omega | (simp only [List.length_map, List.length_append, List.length_set, List.length_cons, List.length_nil]; omega)) only [go_sem, ↓reduceIte, Nat.reduceEqDiff, reduceCtorEq] <;> rfl) (by simp (disch := first | omega | (simp only [List.length_map, List.length_append, List.length_set, List.length_cons, List.length_nil]; omega)) only [go_sem, ↓reduceIte, Nat.reduceEqDiff, reduceCtorEq] <;> rfl) (by simp) (by rfl) (by simp (disch := first | omega | (simp only [List.length_map, List.length_append, List.length_set, List.length_cons, List.length_nil]; omega)) only [go_sem, ↓reduceIte, Nat.reduceEqDiff, reduceCtorEq] <;> rfl) ?_
 have tr : ∀ a b c d e f g h i j k m n o : AV, let l := lc_pair_ok a b c; trim ((13,o)::(12,n)::(11,m)::(10,k)::(9,j)::(8,i)::(7,h)::(6,g)::(5,f)::(4,e)::(3,d)::l) l = [(0,a),(1,b),(2,c)] := by intros; rfl
 refine R_nil (tr ..) ?_; clear tr
 refine then_n ?_
 refine at_ret rfl ?_
 refine fin_pure (rs := [.cell 2 58]) rfl (by simp only [go_sem, ↓reduceIte, Nat.reduceEqDiff]; rfl) (by simp only [go_sem, ↓reduceIte, Nat.reduceEqDiff]; rfl) ?_
 exact ⟨rfl, rfl⟩

abbrev lc_same_ok (a b c d e : AV) : Env := [(0,a),(1,b),(2,c),(3,d),(4,e)]
theorem same_ok (lim : Nat) (H : Heap) (p q : Pr) :
    ACall sig lim 74 [.agg (prC p), .agg (prC q)] H fun r H' => r = .v (.bool (decide (norm p = norm q))) ∧ H' = H := by
 refine ACall_pure (fa := fa74) rfl rfl rfl rfl ?_
 have tr : ∀ a0 a1 : AV, env0 fa74.keep [a0, a1] = [(0,a0),(1,a1),(2,.any),(3,.any),(4,.any)] := fun a0 a1 => rfl
 refine W_to (tr _ _) ?_; clear tr
 refine at_seq rfl ?_
 refine rg rfl ?_
 refine R_box rfl (by simp (disch := first | omega | (simp only [List.length_map, List.length_append, List.length_set, List.length_cons, List.length_nil]; omega)) only [go_sem, ↓reduceIte, Nat.reduceEqDiff, reduceCtorEq] <;> rfl) rfl rfl ?_
 refine R_box rfl (by simp (disch := first | omega | (simp only [List.length_map, List.length_append, List.length_set, List.length_cons, List.length_nil]; omega)) only [go_sem, ↓reduceIte, Nat.reduceEqDiff, reduceCtorEq] <;> rfl) rfl rfl ?_
 refine Rq ?_
 have tr : ∀ a b c d e f g h : AV, let l := lc_same_ok a b c d e; trim ((4,h)::(3,g)::(2,f)::l) l = [(0,a),(1,b),(2,f),(3,g),(4,h)] := by intros; rfl
 refine R_nil (tr ..) ?_; clear tr
 refine then_n ?_
 refine at_seq rfl ?_
 refine rg rfl ?_
 refine Rq ?_
 refine Rq ?_
 refine Rq ?_
 refine Rq ?_
 refine Rq ?_
 refine Rq ?_
 refine Rp_split (fun h1 => ?_) (fun h1 => ?_)
 ·
  try simp only [decide_eq_true_eq, decide_eq_false_iff_not, Bool.not_eq_true', Bool.not_eq_false', beq_iff_eq, beq_eq_false_iff_ne, ne_eq] at h1
  refine Ry ?_
  refine Rq ?_
  refine Ry ?_
  refine Rq ?_
  refine Ry ?_
  refine Rq ?_
  refine Ry ?_
  refine Rq ?_
  refine Ry ?_
  refine Rq ?_
  refine Rq ?_
  refine Rq ?_
  refine Rp_split (fun h2 => ?_) (fun h2 => ?_)
  ·
   try simp only [decide_eq_true_eq, decide_eq_false_iff_not, Bool.not_eq_true', Bool.not_eq_false', beq_iff_eq, beq_eq_false_iff_ne, ne_eq] at h2
   refine Rn ?_
   refine Rn ?_
   refine Rn ?_
   refine Rn ?_
   refine Rn ?_
   refine Rn ?_
   refine Ru ?_
   refine Ru ?_
   refine Ru ?_
   refine Ru ?_
   refine Ru ?_
   refine Rn ?_
   refine Rq ?_
   refine Rq ?_
   have tr : ∀ a b c d e f g h i j k m n o p q r s t u v w x y z A B C D E F G : AV, let l := lc_same_ok a b c d e; trim ((4,G)::(30,F)::(29,E)::(28,D)::(27,C)::(26,B)::(25,A)::(24,z)::(23,y)::(22,x)::(21,w)::(20,v)::(19,u)::(18,t)::(17,s)::(16,r)::(15,q)::(14,p)::(13,o)::(12,n)::(11,m)::(10,k)::(9,j)::(8,i)::(7,h)::(6,g)::(5,f)::l) l = [(0,a),(1,b),(2,c),(3,d),(4,G)] := by intros; rfl
   refine R_nil (tr ..) ?_; clear tr
   refine then_n ?_
   refine at_ret rfl ?_
   refine fpure ?_
   refine ⟨?_, rfl⟩
   have hn := norm_iff p q
   first | (rw [decide_eq_true (hn.1 (by omega))]; done) | (rw [decide_eq_false (fun hh => by have := hn.2 hh; omega)]; done) | (congr 2; rw [Bool.eq_iff_iff]; simp only [beq_iff_eq, decide_eq_true_eq, ← hn]; omega)
  ·
   try simp only [decide_eq_true_eq, decide_eq_false_iff_not, Bool.not_eq_true', Bool.not_eq_false', beq_iff_eq, beq_eq_false_iff_ne, ne_eq] at h2
   refine Ry ?_
   refine Rq ?_
   refine Ry ?_
   refine Rq ?_
   refine Ry ?_
   refine Rq ?_
   refine Ry ?_
   refine Rq ?_
   refine Ry ?_
   refine Rq ?_
   refine Ry ?_
   refine Rq ?_
   refine Rp_split (fun h3 => ?_) (fun h3 => ?_)
   ·
    try simp only [decide_eq_true_eq, decide_eq_false_iff_not, Bool.not_eq_true', Bool.not_eq_false', beq_iff_eq, beq_eq_false_iff_ne, ne_eq] at h3
    refine Ry ?_
    refine Rq ?_
    refine Ry ?_
    refine Rq ?_
    refine Ry ?_
    refine Rq ?_
    refine Ry ?_
    refine Rq ?_
    refine Ry ?_
    refine Rq ?_
    refine Ry ?_
    refine Rq ?_
    refine Rq ?_
    refine Rq ?_
    have tr : ∀ a b c d e f g h i j k m n o p q r s t u v w x y z A B C D E F G : AV, let l := lc_same_ok a b c d e; trim ((4,G)::(30,F)::(29,E)::(28,D)::(27,C)::(26,B)::(25,A)::(24,z)::(23,y)::(22,x)::(21,w)::(20,v)::(19,u)::(18,t)::(17,s)::(16,r)::(15,q)::(14,p)::(13,o)::(12,n)::(11,m)::(10,k)::(9,j)::(8,i)::(7,h)::(6,g)::(5,f)::l) l = [(0,a),(1,b),(2,c),(3,d),(4,G)] := by intros; rfl
    refine R_nil (tr ..) ?_; clear tr
    refine then_n ?_
    refine at_ret rfl ?_
    refine fpure ?_
    refine ⟨?_, rfl⟩
    have hn := norm_iff p q
    first | (rw [decide_eq_true (hn.1 (by omega))]; done) | (rw [decide_eq_false (fun hh => by have := hn.2 hh; omega)]; done) | (congr 2; rw [Bool.eq_iff_iff]; simp only [beq_iff_eq, decide_eq_true_eq, ← hn]; omega)
   ·
    try simp only [decide_eq_true_eq, decide_eq_false_iff_not, Bool.not_eq_true', Bool.not_eq_false', beq_iff_eq, beq_eq_false_iff_ne, ne_eq] at h3
    refine Rn ?_
    refine Rn ?_
    refine Rn ?_
    refine Rn ?_
    refine Rn ?_
    refine Ry ?_
    refine Rq ?_
    refine Rq ?_
    refine Rq ?_
    have tr : ∀ a b c d e f g h i j k m n o p q r s t u v w x y z A B C D E F G : AV, let l := lc_same_ok a b c d e; trim ((4,G)::(30,F)::(29,E)::(28,D)::(27,C)::(26,B)::(25,A)::(24,z)::(23,y)::(22,x)::(21,w)::(20,v)::(19,u)::(18,t)::(17,s)::(16,r)::(15,q)::(14,p)::(13,o)::(12,n)::(11,m)::(10,k)::(9,j)::(8,i)::(7,h)::(6,g)::(5,f)::l) l = [(0,a),(1,b),(2,c),(3,d),(4,G)] := by intros; rfl
    refine R_nil (tr ..) ?_; clear tr
    refine then_n ?_
    refine at_ret rfl ?_
    refine fpure ?_
    refine ⟨?_, rfl⟩
    have hn := norm_iff p q
    first | (rw [decide_eq_true (hn.1 (by omega))]; done) | (rw [decide_eq_false (fun hh => by have := hn.2 hh; omega)]; done) | (congr 2; rw [Bool.eq_iff_iff]; simp only [beq_iff_eq, decide_eq_true_eq, ← hn]; omega)
 ·
  try simp only [decide_eq_true_eq, decide_eq_false_iff_not, Bool.not_eq_true', Bool.not_eq_false', beq_iff_eq, beq_eq_false_iff_ne, ne_eq] at h1
  refine Rn ?_
  refine Rn ?_
  refine Rn ?_
  refine Rn ?_
  refine Rn ?_
  refine Rq ?_
  refine Rq ?_
  refine Ry ?_
  refine Rq ?_
  refine Ry ?_
  refine Rq ?_
  refine Ry ?_
  refine Rq ?_
  refine Ry ?_
  refine Rq ?_
  refine Ry ?_
  refine Rq ?_
  refine Ry ?_
  refine Rq ?_
  refine Rp_split (fun h4 => ?_) (fun h4 => ?_)
  ·
   try simp only [decide_eq_true_eq, decide_eq_false_iff_not, Bool.not_eq_true', Bool.not_eq_false', beq_iff_eq, beq_eq_false_iff_ne, ne_eq] at h4
   refine Ry ?_
   refine Rq ?_
   refine Ry ?_
   refine Rq ?_
   refine Ry ?_
   refine Rq ?_
   refine Ry ?_
   refine Rq ?_
   refine Ry ?_
   refine Rq ?_
   refine Ry ?_
   refine Rq ?_
   refine Rq ?_
   refine Rq ?_
   have tr : ∀ a b c d e f g h i j k m n o p q r s t u v w x y z A B C D E F G : AV, let l := lc_same_ok a b c d e; trim ((4,G)::(30,F)::(29,E)::(28,D)::(27,C)::(26,B)::(25,A)::(24,z)::(23,y)::(22,x)::(21,w)::(20,v)::(19,u)::(18,t)::(17,s)::(16,r)::(15,q)::(14,p)::(13,o)::(12,n)::(11,m)::(10,k)::(9,j)::(8,i)::(7,h)::(6,g)::(5,f)::l) l = [(0,a),(1,b),(2,c),(3,d),(4,G)] := by intros; rfl
   refine R_nil (tr ..) ?_; clear tr
   refine then_n ?_
   refine at_ret rfl ?_
   refine fpure ?_
   refine ⟨?_, rfl⟩
   have hn := norm_iff p q
   first | (rw [decide_eq_true (hn.1 (by omega))]; done) | (rw [decide_eq_false (fun hh => by have := hn.2 hh; omega)]; done) | (congr 2; rw [Bool.eq_iff_iff]; simp only [beq_iff_eq, decide_eq_true_eq, ← hn]; omega)
  ·
   try simp only [decide_eq_true_eq, decide_eq_false_iff_not, Bool.not_eq_true', Bool.not_eq_false', beq_iff_eq, beq_eq_false_iff_ne, ne_eq] at h4
   refine Rn ?_
   refine Rn ?_
   refine Rn ?_
   refine Rn ?_
   refine Rn ?_
   refine Ry ?_
   refine Rq ?_
   refine Rq ?_
   refine Rq ?_
   have tr : ∀ a b c d e f g h i j k m n o p q r s t u v w x y z A B C D E F G : AV, let l := lc_same_ok a b c d e; trim ((4,G)::(30,F)::(29,E)::(28,D)::(27,C)::(26,B)::(25,A)::(24,z)::(23,y)::(22,x)::(21,w)::(20,v)::(19,u)::(18,t)::(17,s)::(16,r)::(15,q)::(14,p)::(13,o)::(12,n)::(11,m)::(10,k)::(9,j)::(8,i)::(7,h)::(6,g)::(5,f)::l) l = [(0,a),(1,b),(2,c),(3,d),(4,G)] := by intros; rfl
   refine R_nil (tr ..) ?_; clear tr
   refine then_n ?_
   refine at_ret rfl ?_
   refine fpure ?_
   refine ⟨?_, rfl⟩
   have hn := norm_iff p q
   first | (rw [decide_eq_true (hn.1 (by omega))]; done) | (rw [decide_eq_false (fun hh => by have := hn.2 hh; omega)]; done) | (congr 2; rw [Bool.eq_iff_iff]; simp only [beq_iff_eq, decide_eq_true_eq, ← hn]; omega)

abbrev lc_index_ok (a b c d e f g h i : AV) : Env := [(0,a),(1,b),(3,c),(4,d),(5,e),(7,f),(8,g),(9,h),(16,i)]
theorem index_ok (lim : Nat) (H : Heap) (b : Nat) (m : List Pr) (p : Pr) (qb : hget H b = some (flatP m)) (hm : m.length ≤ 1000) :
    ACall sig lim 71 [.own 2 b 0 m.length, .agg (prC p)] H fun r H' => (∃ k : Int, r = AV.i k ∧ ((0 ≤ k ∧ k < m.length ∧ gt m k.toNat = p) ∨ (k = -1 ∧ p ∉ m))) ∧ H' = H := by
 have lb := hget_lt qb
 refine ACall_pure (fa := fa71) rfl rfl rfl rfl ?_
 have tr : ∀ a0 a1 : AV, env0 fa71.keep [a0, a1] = [(0,a0),(1,a1),(3,.any),(4,.any),(5,.any),(7,.any),(8,.any),(9,.any),(16,.any)] := fun a0 a1 => rfl
 refine W_to (tr _ _) ?_; clear tr
 refine at_seq rfl ?_
 refine rg rfl ?_
 refine R_box rfl (by simp (disch := first | omega | (simp only [List.length_map, List.length_append, List.length_set, List.length_cons, List.length_nil]; omega)) only [go_sem, ↓reduceIte, Nat.reduceEqDiff, reduceCtorEq, qb] <;> rfl) rfl rfl ?_
 refine Rq ?_
 have tr : ∀ a b c d e f g h i j k : AV, let l := lc_index_ok a b c d e f g h i; trim ((4,k)::(3,j)::l) l = [(0,a),(1,b),(3,j),(4,k),(5,e),(7,f),(8,g),(9,h),(16,i)] := by intros; rfl
 refine R_nil (tr ..) ?_; clear tr
 refine then_n ?_
 refine at_seq rfl ?_
 refine at_seq rfl ?_
 refine rg rfl ?_
 refine Rq ?_
 refine Rq ?_
 refine Rq ?_
 have tr : ∀ a b c d e f g h i j k m : AV, let l := lc_index_ok a b c d e f g h i; trim ((8,m)::(7,k)::(6,j)::l) l = [(0,a),(1,b),(3,c),(4,d),(5,e),(7,k),(8,m),(9,h),(16,i)] := by intros; rfl
 refine R_nil (tr ..) ?_; clear tr
 refine then_n ?_
 refine at_block rfl ?_
 refine loop_n rfl (fun mm kv H' => ∃ u : Nat, ∃ x4 x5 x9 x16 : AV, (kv = [(4, x4), (5, x5), (8, AV.i u), (9, x9), (16, x16)]) ∧ (mm = m.length - u) ∧ (H' = H ++ [some (prC p)]) ∧ (u ≤ m.length) ∧ (∀ i, i < u → gt m i ≠ p)) ⟨0, _, _, _, _, rfl, rfl, rfl, by omega, by intro i hi; omega⟩ (by rfl) ?_
 rintro mm kv H' ⟨u, x4, x5, x9, x16, rfl, rfl, rfl, hu, hq⟩
 have tr : ∀ a b c d e f g h i j k m n o : AV, upd [(0,a),(1,b),(3,c),(4,d),(5,e),(7,f),(8,g),(9,h),(16,i)] [(4,j),(5,k),(8,m),(9,n),(16,o)] = [(0,a),(1,b),(3,c),(4,j),(5,k),(7,f),(8,m),(9,n),(16,o)] := by intros; rfl
 refine W_to (tr ..) ?_; clear tr
 refine at_seq rfl ?_
 refine rg rfl ?_
 refine Rq ?_
 have tr : ∀ a b c d e f g h i j : AV, let l := lc_index_ok a b c d e f g h i; trim ((9,j)::l) l = [(0,a),(1,b),(3,c),(4,d),(5,e),(7,f),(8,g),(9,j),(16,i)] := by intros; rfl
 refine R_nil (tr ..) ?_; clear tr
 refine then_n ?_
 refine at_seq rfl ?_
 refine cdd (fun h1 => ?_) (fun h1 => ?_)
 ·
  try simp only [decide_eq_true_eq, decide_eq_false_iff_not, Bool.not_eq_true', Bool.not_eq_false', beq_iff_eq, beq_eq_false_iff_ne, ne_eq] at h1
  refine at_skip rfl ?_
  refine then_n ?_
  refine at_seq rfl ?_
  refine at_block rfl ?_
  refine at_seq rfl ?_
  refine rg rfl ?_
  refine Rq ?_
  refine Rq ?_
  have tr : ∀ a b c d e f g h i j k : AV, let l := lc_index_ok a b c d e f g h i; trim ((5,k)::(10,j)::l) l = [(0,a),(1,b),(3,c),(4,d),(5,k),(7,f),(8,g),(9,h),(16,i)] := by intros; rfl
  refine R_nil (tr ..) ?_; clear tr
  refine then_n ?_
  refine at_seq rfl ?_
  refine rd rfl rfl ?_
  refine Q_q rfl (by simp (disch := first | omega | (simp only [List.length_map, List.length_append, List.length_set, List.length_cons, List.length_nil]; omega)) only [go_sem, ↓reduceIte, Nat.reduceEqDiff, reduceCtorEq, qb] <;> rfl) ?_
  refine Qq ?_
  refine Qq ?_
  refine Qq ?_
  refine Q_q rfl (by simp (disch := first | omega | (simp only [List.length_map, List.length_append, List.length_set, List.length_cons, List.length_nil]; omega)) only [go_sem, ↓reduceIte, Nat.reduceEqDiff, reduceCtorEq, qb] <;> rfl) ?_
  refine Qq ?_
  refine Q_nil ?_
  have tr : ∀ a b c d e f g h i j k m n o p : AV, let l := lc_index_ok a b c d e f g h i; trim ((16,p)::(15,o)::(14,n)::(13,m)::(12,k)::(11,j)::l) l = [(0,a),(1,b),(3,c),(4,d),(5,e),(7,f),(8,g),(9,h),(16,p)] := by intros; rfl
  refine R_nil (tr ..) ?_; clear tr
  refine then_n ?_
  refine cdd (fun h2 => ?_) (fun h2 => ?_)
  ·
   try simp only [decide_eq_true_eq, decide_eq_false_iff_not, Bool.not_eq_true', Bool.not_eq_false', beq_iff_eq, beq_eq_false_iff_ne, ne_eq] at h2
   refine at_seq rfl ?_
   refine rg rfl ?_
   refine Rq ?_
   refine Rq ?_
   have tr : ∀ a b c d e f g h i j k : AV, let l := lc_index_ok a b c d e f g h i; trim ((4,k)::(17,j)::l) l = [(0,a),(1,b),(3,c),(4,k),(5,e),(7,f),(8,g),(9,h),(16,i)] := by intros; rfl
   refine R_nil (tr ..) ?_; clear tr
   refine then_n ?_
   refine at_ret rfl ?_
   refine blk_r ?_
   refine then_r ?_
   refine then_r ?_
   refine blk_r ?_
   refine then_r ?_
   refine fpure ?_
   refine ⟨⟨_, rfl, .inl ⟨by omega, by omega, ?_⟩⟩, rfl⟩
   rw [Int.toNat_natCast]
   simp_all
  ·
   try simp only [decide_eq_true_eq, decide_eq_false_iff_not, Bool.not_eq_true', Bool.not_eq_false', beq_iff_eq, beq_eq_false_iff_ne, ne_eq] at h2
   refine at_skip rfl ?_
   refine blk_n ?_
   refine then_n ?_
   refine rg rfl ?_
   refine Rq ?_
   refine Rq ?_
   have tr : ∀ a b c d e f g h i j k : AV, let l := lc_index_ok a b c d e f g h i; trim ((8,k)::(18,j)::l) l = [(0,a),(1,b),(3,c),(4,d),(5,e),(7,f),(8,k),(9,h),(16,i)] := by intros; rfl
   refine R_nil (tr ..) ?_; clear tr
   refine then_n ?_
   exact ⟨_, _, ⟨u + 1, _, _, _, _, rfl, rfl, rfl, by omega, by exact all_step hq (fun hh => by simp_all)⟩, by rfl, by omega⟩
 ·
  try simp only [decide_eq_true_eq, decide_eq_false_iff_not, Bool.not_eq_true', Bool.not_eq_false', beq_iff_eq, beq_eq_false_iff_ne, ne_eq] at h1
  refine at_exit rfl ?_
  refine then_x ?_
  refine then_x ?_
  refine blk_x ?_
  refine then_n ?_
  refine at_seq rfl ?_
  refine rg rfl ?_
  refine Rq ?_
  have tr : ∀ a b c d e f g h i j : AV, let l := lc_index_ok a b c d e f g h i; trim ((4,j)::l) l = [(0,a),(1,b),(3,c),(4,j),(5,e),(7,f),(8,g),(9,h),(16,i)] := by intros; rfl
  refine R_nil (tr ..) ?_; clear tr
  refine then_n ?_
  refine at_ret rfl ?_
  refine fpure ?_
  refine ⟨⟨_, rfl, .inr ⟨rfl, fun hh => ?_⟩⟩, rfl⟩
  obtain ⟨i, hi, he⟩ := List.mem_iff_getElem.1 hh
  exact hq i (by omega) (by rw [gt_eq _ _ hi]; exact he)

abbrev lc_index_nil (a b c d e f g h i : AV) : Env := [(0,a),(1,b),(3,c),(4,d),(5,e),(7,f),(8,g),(9,h),(16,i)]
theorem index_nil (lim : Nat) (H : Heap) (p : Pr) :
    ACall sig lim 71 [nilP, .agg (prC p)] H fun r H' => (∃ k : Int, r = AV.i k ∧ k = -1) ∧ H' = H := by
 refine ACall_pure (fa := fa71) rfl rfl rfl rfl ?_
 have tr : ∀ a0 a1 : AV, env0 fa71.keep [a0, a1] = [(0,a0),(1,a1),(3,.any),(4,.any),(5,.any),(7,.any),(8,.any),(9,.any),(16,.any)] := fun a0 a1 => rfl
 refine W_to (tr _ _) ?_; clear tr
 refine at_seq rfl ?_
 refine rg rfl ?_
 refine R_box rfl (by simp (disch := first | omega | (simp only [List.length_map, List.length_append, List.length_set, List.length_cons, List.length_nil]; omega)) only [go_sem, ↓reduceIte, Nat.reduceEqDiff, reduceCtorEq] <;> rfl) rfl rfl ?_
 refine Rq ?_
 have tr : ∀ a b c d e f g h i j k : AV, let l := lc_index_nil a b c d e f g h i; trim ((4,k)::(3,j)::l) l = [(0,a),(1,b),(3,j),(4,k),(5,e),(7,f),(8,g),(9,h),(16,i)] := by intros; rfl
 refine R_nil (tr ..) ?_; clear tr
 refine then_n ?_
 refine at_seq rfl ?_
 refine at_seq rfl ?_
 refine rg rfl ?_
 refine Rq ?_
 refine Rq ?_
 refine Rq ?_
 have tr : ∀ a b c d e f g h i j k m : AV, let l := lc_index_nil a b c d e f g h i; trim ((8,m)::(7,k)::(6,j)::l) l = [(0,a),(1,b),(3,c),(4,d),(5,e),(7,k),(8,m),(9,h),(16,i)] := by intros; rfl
 refine R_nil (tr ..) ?_; clear tr
 refine then_n ?_
 refine at_block rfl ?_
 refine loop_n rfl (fun mm kv H' => ∃ u : Nat, ∃ x4 x5 x9 x16 : AV, (kv = [(4, x4), (5, x5), (8, AV.i u), (9, x9), (16, x16)]) ∧ (mm = 0) ∧ (H' = H ++ [some (prC p)]) ∧ (u = 0)) ⟨0, _, _, _, _, rfl, rfl, rfl, by rfl⟩ (by rfl) ?_
 rintro mm kv H' ⟨u, x4, x5, x9, x16, rfl, rfl, rfl, hu⟩
 have tr : ∀ a b c d e f g h i j k m n o : AV, upd [(0,a),(1,b),(3,c),(4,d),(5,e),(7,f),(8,g),(9,h),(16,i)] [(4,j),(5,k),(8,m),(9,n),(16,o)] = [(0,a),(1,b),(3,c),(4,j),(5,k),(7,f),(8,m),(9,n),(16,o)] := by intros; rfl
 refine W_to (tr ..) ?_; clear tr
 refine at_seq rfl ?_
 refine rg rfl ?_
 refine Rq ?_
 have tr : ∀ a b c d e f g h i j : AV, let l := lc_index_nil a b c d e f g h i; trim ((9,j)::l) l = [(0,a),(1,b),(3,c),(4,d),(5,e),(7,f),(8,g),(9,j),(16,i)] := by intros; rfl
 refine R_nil (tr ..) ?_; clear tr
 refine then_n ?_
 refine at_seq rfl ?_
 refine cdd (fun h1 => ?_) (fun h1 => ?_)
 ·
  try simp only [decide_eq_true_eq, decide_eq_false_iff_not, Bool.not_eq_true', Bool.not_eq_false', beq_iff_eq, beq_eq_false_iff_ne, ne_eq] at h1
  exfalso; omega
 ·
  try simp only [decide_eq_true_eq, decide_eq_false_iff_not, Bool.not_eq_true', Bool.not_eq_false', beq_iff_eq, beq_eq_false_iff_ne, ne_eq] at h1
  refine at_exit rfl ?_
  refine then_x ?_
  refine then_x ?_
  refine blk_x ?_
  refine then_n ?_
  refine at_seq rfl ?_
  refine rg rfl ?_
  refine Rq ?_
  have tr : ∀ a b c d e f g h i j : AV, let l := lc_index_nil a b c d e f g h i; trim ((4,j)::l) l = [(0,a),(1,b),(3,c),(4,j),(5,e),(7,f),(8,g),(9,h),(16,i)] := by intros; rfl
  refine R_nil (tr ..) ?_; clear tr
  refine then_n ?_
  refine at_ret rfl ?_
  refine fpure ?_
  exact ⟨⟨_, rfl, rfl⟩, rfl⟩

end Go.Proofs.Ytdicnojnkbmdlaa
end
section
set_option linter.unusedVariables false
namespace Go.Proofs.Ytdicnojnkbmdlaa
open Go Go.Am
/-- Two lists as they are gathered: nothing yet, or a block each. -/
def OutPN (lo : Nat) (H : Heap) (o1 o2 : AV) (l : List Pr) (N : List Int) : Prop :=
  (l = [] ∧ N = [] ∧ o1 = nilP ∧ o2 = nilP) ∨ (l ≠ [] ∧ N.length = l.length ∧ ∃ b1 b2, o1 = .own 2 b1 0 l.length ∧ o2 = .own 1 b2 0 l.length ∧ lo ≤ b1 ∧ lo ≤ b2 ∧ b1 ≠ b2 ∧ hget H b1 = some (flatP l) ∧ hget H b2 = some (N.map AV.i))
theorem OutPN.mono {lo : Nat} {H H' : Heap} {o1 o2 : AV} {l : List Pr} {N : List Int} (h : OutPN lo H o1 o2 l N) (hh : ∀ b, lo ≤ b → ∀ k, hget H b = some k → hget H' b = some k) : OutPN lo H' o1 o2 l N := by
  rcases h with h | ⟨h0, h1, b1, b2, h2, h3, h4, h5, h6, h7, h8⟩
  · exact .inl h
  · exact .inr ⟨h0, h1, b1, b2, h2, h3, h4, h5, h6, hh _ h4 _ h7, hh _ h5 _ h8⟩
theorem OutPN.len {lo : Nat} {H : Heap} {o1 o2 : AV} {l : List Pr} {N : List Int} (h : OutPN lo H o1 o2 l N) : lenV (tyOf Try.prog 41) o1 = some (AV.i (l.length : Nat)) := by
  rcases h with ⟨rfl, _, rfl, _⟩ | ⟨h0, h1, b1, b2, rfl, _⟩
  · simp only [lenV, ty41, kOf, Option.map_some]; rfl
  · simp only [lenV, ty41, kOf, Option.map_some]
theorem bs40' (lim : Nat) (H : Heap) (x : Operand) (ev : Operand → AV) (v : Int) (h : ev x = AV.i v) :
    effV Try.prog lim (.buildSlice 40 1 #[(0, x)]) ev H = some (.own 1 H.length 0 1, H ++ [some [AV.i v]]) := by
  simp only [effV, tk40, ty3]
  rw [if_pos ⟨rfl, by decide, by decide⟩]
  simp only [List.map_cons, List.map_nil, h]
  rfl
/-- The first append: the pairs. -/
theorem pn_append1 {lim lo : Nat} {H : Heap} {o1 o2 : AV} {l : List Pr} {N : List Int} {c : Pr} {b' : Nat} (h : OutPN lo H o1 o2 l N) (hc : hget H b' = some (prC c)) (hl : lim ≤ lo) (hlo : lo ≤ H.length) (hw : l.length ≤ 100000) :
    ∃ b, lo ≤ b ∧ (∀ b2, o2 = .own 1 b2 0 l.length → b ≠ b2) ∧ ∃ H', appendV Try.prog lim H 41 o1 (.own 2 b' 0 1) = some (.own 2 H.length 0 (l.length + 1), H') ∧ MGrew H b H' (flatP (l ++ [c])) := by
  rcases h with ⟨rfl, rfl, rfl, rfl⟩ | ⟨h0, h1, b1, b2, rfl, rfl, h4, h5, h6, h7, h8⟩
  · obtain ⟨b, q1, _, q3⟩ := outP_append (lim := lim) (lo := lo) (hi := 0) (H := H) (o := nilP) (w := []) (.inl ⟨rfl, rfl⟩) (fun b hb => by cases hb) hc hl hlo (by simp)
    exact ⟨b, q1, fun b2 hb => (by cases hb), q3⟩
  · refine ⟨b1, h4, fun b2' hb => by cases hb; exact h6, _, ?_, MGrew.of _ _ _⟩
    simp only [appendV, tk41, ty58, srcCells, hc, h7]
    rw [if_pos (by simp)]
    simp only [List.length_cons, List.length_nil]
    rw [if_pos ⟨trivial, by decide, rfl⟩]
    simp only [List.drop_zero, flatP_len]
    rw [if_pos ⟨by omega, trivial, by omega, by omega, by omega⟩]
    rw [List.take_of_length_le (by rw [flatP_len]; omega), flatP_app]
    rfl
/-- The numbers, while the pairs are one ahead. -/
def OutN (lo : Nat) (H : Heap) (o2 : AV) (n : Nat) (N : List Int) : Prop := (n = 0 ∧ N = [] ∧ o2 = nilP) ∨ (N.length = n ∧ ∃ b2, o2 = .own 1 b2 0 n ∧ lo ≤ b2 ∧ hget H b2 = some (N.map AV.i))
theorem OutPN.num {lo : Nat} {H : Heap} {o1 o2 : AV} {l : List Pr} {N : List Int} (h : OutPN lo H o1 o2 l N) : OutN lo H o2 l.length N := by
  rcases h with ⟨rfl, rfl, rfl, rfl⟩ | ⟨h0, h1, b1, b2, rfl, rfl, h4, h5, h6, h7, h8⟩
  · exact .inl ⟨rfl, rfl, rfl⟩
  · exact .inr ⟨h1, b2, rfl, h5, h8⟩
theorem OutN.keep {lo n : Nat} {H H' : Heap} {o2 : AV} {N : List Int} (h : OutN lo H o2 n N) (hh : ∀ b2 k, o2 = .own 1 b2 0 n → hget H b2 = some k → hget H' b2 = some k) : OutN lo H' o2 n N := by
  rcases h with h | ⟨h1, b2, h2, h3, h4⟩
  · exact .inl h
  · exact .inr ⟨h1, b2, h2, h3, hh _ _ h2 h4⟩
theorem pn_append2 {lim lo n p : Nat} {H : Heap} {o2 : AV} {N : List Int} {v : Int} {b' : Nat} (h : OutN lo H o2 n N) (hp : ∀ b2, o2 = .own 1 b2 0 n → p ≠ b2) (hpl : p < H.length) (hc : hget H b' = some [AV.i v]) (hl : lim ≤ lo) (hlo : lo ≤ H.length) (hw : n ≤ 100000) :
    ∃ b, lo ≤ b ∧ p ≠ b ∧ ∃ H', appendV Try.prog lim H 40 o2 (.own 1 b' 0 1) = some (.own 1 H.length 0 (n + 1), H') ∧ MGrew H b H' ((N ++ [v]).map AV.i) := by
  rcases h with ⟨rfl, rfl, rfl⟩ | ⟨h1, b2, rfl, h3, h4⟩
  · refine ⟨H.length, hlo, by omega, _, ?_, MGrew.ofNew _ (MNew.of _ _)⟩
    simp only [appendV, tk40, ty3, srcCells, hc]
    rw [if_pos (by simp)]
    simp only [List.length_cons, List.length_nil]
    rw [if_pos ⟨trivial, by decide, rfl⟩]
    rw [if_pos ⟨by omega, by omega⟩]
    rfl
  · refine ⟨b2, h3, hp b2 rfl, _, ?_, MGrew.of _ _ _⟩
    simp only [appendV, tk40, ty3, srcCells, hc, h4]
    rw [if_pos (by simp)]
    simp only [List.length_cons, List.length_nil]
    rw [if_pos ⟨trivial, by decide, rfl⟩]
    simp only [List.drop_zero, List.length_map, Nat.mul_one]
    rw [if_pos ⟨by omega, trivial, by omega, by omega, by omega⟩]
    rw [List.take_of_length_le (by simp; omega), List.map_append]
    rfl
def refA (L : List Pr) : AV := if refN L L.length = [] then nilP else prsAV (refN L L.length)
theorem refA_len (L : List Pr) : lenV (tyOf Try.prog 41) (refA L) = some (AV.i ((pairsN L L.length).length : Nat)) := by
  rw [← ref_len]
  unfold refA
  split
  · rename_i h; rw [h]; simp only [lenV, ty41, kOf, Option.map_some]; rfl
  · simp only [lenV, ty41, kOf, Option.map_some]
theorem OutPN.frz {H : Heap} {base d : Nat} {o1 o2 : AV} {l : List Pr} {N : List Int} (h : OutPN base H o1 o2 l N) : Go.Am.frz H base (d + 2) o1 = (if l = [] then nilP else prsAV l) ∧ Go.Am.frz H base (d + 2) o2 = (if N = [] then nilP else intsAV N) := by
  rcases h with ⟨rfl, rfl, rfl, rfl⟩ | ⟨h0, h1, b1, b2, rfl, rfl, h4, h5, h6, h7, h8⟩
  · exact ⟨rfl, rfl⟩
  · have hN : N ≠ [] := fun hh => by subst hh; exact h0 (List.length_eq_zero_iff.1 h1.symm)
    rw [frz_own (by omega) h7, List.drop_zero, frz_prs, frz_own (by omega) h8, List.drop_zero, frz_ints, if_neg h0, if_neg hN]
    exact ⟨rfl, by show AV.sl l.length _ = AV.sl N.length _; rw [h1]⟩
theorem OutPN.lo {lo lo' : Nat} {H : Heap} {o1 o2 : AV} {l : List Pr} {N : List Int} (h : OutPN lo H o1 o2 l N) (hl : lo' ≤ lo) : OutPN lo' H o1 o2 l N := by
  rcases h with h | ⟨h0, h1, b1, b2, h2, h3, h4, h5, h6⟩
  · exact .inl h
  · exact .inr ⟨h0, h1, b1, b2, h2, h3, by omega, by omega, h6⟩
theorem pn_new {lo p m b3 : Nat} {H H' : Heap} {o2 : AV} {L : List Pr} {N : List Int} {u : Nat} (hmn : ¬ norm (gt L u) ∈ (refN L u).map norm) (qq : hget H' p = some (flatP (refN L u ++ [gt L u]))) (qz : hget H' m = some ((N ++ [1]).map AV.i)) (hN : OutN lo H o2 (refN L u).length N) (hp : p ≠ b3) (hlo : lo ≤ p) (hlm : lo ≤ m) {k1 k2 : Nat} (e1 : k1 = (refN L u).length + 1) (e2 : k2 = (refN L u).length + 1) (hpm : p ≠ m := by omega) :
    OutPN lo H' (.own 2 p 0 k1) (.own 1 m 0 k2) (refN L (u + 1)) (N ++ [1]) := by
  subst e1 e2
  rw [refN, if_neg hmn]
  have hl : N.length = (refN L u).length := by
    rcases hN with ⟨h1, h2, _⟩ | ⟨h1, _⟩
    · rw [h2, h1]; rfl
    · exact h1
  exact .inr ⟨by simp, by simp [hl], p, m, by simp, by simp, hlo, hlm, hpm, qq, qz⟩
theorem pn_old {lo : Nat} {H : Heap} {o1 o2 : AV} {L : List Pr} {N : List Int} {u : Nat} (h : OutPN lo H o1 o2 (refN L u) N) (hn : norm (gt L u) ∈ (refN L u).map norm) : OutPN lo H o1 o2 (refN L (u + 1)) N := by
  rw [refN, if_pos hn]; exact h
theorem mem_norm {l : List Pr} {p : Pr} : norm p ∈ l.map norm ↔ ∃ i, i < l.length ∧ norm (gt l i) = norm p := by
  rw [List.mem_map]
  constructor
  · rintro ⟨q, hq, he⟩
    obtain ⟨i, hi, h⟩ := List.mem_iff_getElem.1 hq
    exact ⟨i, hi, by rw [gt_eq _ _ hi, h, he]⟩
  · rintro ⟨i, hi, he⟩
    exact ⟨gt l i, by rw [gt_eq _ _ hi]; exact List.getElem_mem _, he⟩
theorem gt_app' {α : Type} [Inhabited α] (l : List α) (x : α) (i : Nat) : gt (l ++ [x]) i = if i < l.length then gt l i else if i = l.length then x else default := by
  simp only [gt, List.getD_eq_getElem?_getD, List.getElem?_append]
  by_cases h : i < l.length
  · simp [h]
  · rw [if_neg h, if_neg h]
    by_cases h2 : i = l.length
    · simp [h2]
    · rw [if_neg h2, List.getElem?_eq_none (by simp; omega)]; rfl
end Go.Proofs.Ytdicnojnkbmdlaa
end
section
set_option linter.unusedVariables false
namespace Go.Proofs.Ytdicnojnkbmdlaa
open Go Go.Am

theorem bld66 (x y z : Int) : buildV Try.prog 66 [(0, AV.i x), (1, AV.i y), (2, AV.i z)] = some (.agg [AV.i x, AV.i y, AV.i z]) := by
  simp only [buildV, ty66, places, ty3, ty2]
  rfl
theorem bld24 (x y z : Int) : buildV Try.prog 24 [(0, AV.i x), (1, AV.i y), (2, AV.i z)] = some (.agg [AV.i x, AV.i y, AV.i z, .v (.slice none 0 0)]) := by
  simp only [buildV, ty24, places, ty3, ty22]
  rfl
theorem bld46 : buildV Try.prog 46 [] = some (.agg [.v (.bool false), .v (.slice none 0 0), .v (.slice none 0 0)]) := by
  simp only [buildV, ty46, places, ty4, ty40]
  rfl
theorem bld46s (n : Nat) (l : List AV) : buildV Try.prog 46 [(1, .sl n l)] = some (.agg [.v (.bool false), .sl n l, .v (.slice none 0 0)]) := by
  simp only [buildV, ty46, places, ty4, ty40]
  rfl
theorem bld46o (z b o n : Nat) : buildV Try.prog 46 [(1, .own z b o n)] = some (.agg [.v (.bool false), .own z b o n, .v (.slice none 0 0)]) := by
  simp only [buildV, ty46, places, ty4, ty40]
  rfl
theorem bld46n (a b : Nat) : buildV Try.prog 46 [(1, .v (.slice none a b))] = some (.agg [.v (.bool false), .v (.slice none a b), .v (.slice none 0 0)]) := by
  simp only [buildV, ty46, places, ty4, ty40]
  rfl
theorem bld46rs (t : Bool) (n : Nat) (l : List AV) : buildV Try.prog 46 [(0, .v (.bool t)), (2, .sl n l)] = some (.agg [.v (.bool t), .v (.slice none 0 0), .sl n l]) := by
  simp only [buildV, ty46, places, ty4, ty40]
  rfl
theorem bld46rn (t : Bool) (a b : Nat) : buildV Try.prog 46 [(0, .v (.bool t)), (2, .v (.slice none a b))] = some (.agg [.v (.bool t), .v (.slice none 0 0), .v (.slice none a b)]) := by
  simp only [buildV, ty46, places, ty4, ty40]
  rfl
attribute [go_sem] bld66 bld24 bld46 bld46s bld46o bld46n bld46rs bld46rn

theorem flatE_app (w X : List Ed) : flatE (w ++ X) = flatE w ++ flatE X := by
  unfold flatE
  rw [List.map_append, List.flatten_append]
theorem frz_eds (H : Heap) (b d : Nat) (l : List Ed) : (flatE l).map (frz H b (d + 1)) = flatE l := by
  unfold flatE
  rw [List.map_flatten, List.map_map]
  congr 1
/-- Edges as they are gathered: none yet, or a block. -/
def OutE (lo : Nat) (H : Heap) (o : AV) (w : List Ed) : Prop := (w = [] ∧ o = nilP) ∨ (w ≠ [] ∧ ∃ b, o = .own 3 b 0 w.length ∧ lo ≤ b ∧ hget H b = some (flatE w))
theorem OutE.mono {lo : Nat} {H H' : Heap} {o : AV} {w : List Ed} (h : OutE lo H o w) (hh : ∀ b, lo ≤ b → ∀ k, hget H b = some k → hget H' b = some k) : OutE lo H' o w := by
  rcases h with h | ⟨h0, b, h1, h2, h3⟩
  · exact .inl h
  · exact .inr ⟨h0, b, h1, h2, hh b h2 _ h3⟩
theorem OutE.lt {lo b : Nat} {H : Heap} {o : AV} {w : List Ed} (h : OutE lo H o w) (ho : o = .own 3 b 0 w.length) : b < H.length := by
  rcases h with ⟨_, h⟩ | ⟨_, b', h1, _, h3⟩
  · rw [h] at ho; cases ho
  · rw [h1] at ho; cases ho; exact hget_lt h3
theorem outE_append {lim lo hi m : Nat} {H : Heap} {o : AV} {w X : List Ed} {b' : Nat} (h : OutE lo H o w) (hob : ∀ b, o = .own 3 b 0 w.length → b < hi) (hc : hget H b' = some (flatE X)) (hm : m = X.length) (hX : X.length ≤ 10) (hl : lim ≤ lo) (hlo : lo ≤ H.length) (hw : w.length ≤ 100000) :
    ∃ b, lo ≤ b ∧ (b < hi ∨ b = H.length) ∧ ∃ H', appendV Try.prog lim H 22 o (.own 3 b' 0 m) = some (.own 3 H.length 0 (w.length + m), H') ∧ MGrew H b H' (flatE (w ++ X)) := by
  subst hm
  have hfl : (flatE X).length = X.length * 3 := flat_len X
  have hall : (List.take (X.length * 3) (flatE X)).all storable = true := by
    rw [List.take_of_length_le (by omega)]
    clear hfl hc hX
    induction X with
    | nil => rfl
    | cons x l ih =>
      have e : flatE (x :: l) = edC x ++ flatE l := rfl
      rw [e, List.all_append, ih]; rfl
  rcases h with ⟨rfl, rfl⟩ | ⟨h0, b, rfl, h2, h3⟩
  · refine ⟨H.length, hlo, .inr rfl, _, ?_, MGrew.ofNew _ (MNew.of _ _)⟩
    simp only [appendV, tk22, ty66, srcCells, hc]
    rw [if_pos (by omega)]
    simp only [List.drop_zero]
    rw [if_pos ⟨rfl, by decide, hall⟩]
    rw [if_pos ⟨by omega, by omega⟩]
    rw [List.take_of_length_le (by omega)]
    simp
  · refine ⟨b, h2, .inl (hob b rfl), _, ?_, MGrew.of _ _ _⟩
    simp only [appendV, tk22, ty66, srcCells, hc, h3]
    rw [if_pos (by omega)]
    simp only [List.drop_zero]
    rw [if_pos ⟨rfl, by decide, hall⟩]
    simp only [flat_len]
    rw [if_pos ⟨by omega, trivial, by omega, by omega, by omega⟩]
    rw [List.take_of_length_le (by rw [flat_len]; omega), List.take_of_length_le (by rw [flat_len]; omega), flatE_app]
theorem bs22_1 (lim : Nat) (H : Heap) (x : Operand) (ev : Operand → AV) (c : Ed) (h : ev x = .agg (edC c)) :
    effV Try.prog lim (.buildSlice 22 1 #[(0, x)]) ev H = some (.own 3 H.length 0 1, H ++ [some (flatE [c])]) := by
  simp only [effV, tk22, ty66]
  rw [if_pos ⟨rfl, by decide, by decide⟩]
  simp only [List.map_cons, List.map_nil, h]
  rfl
theorem bs22_3 (lim : Nat) (H : Heap) (x y z : Operand) (ev : Operand → AV) (c d e : Ed) (h : ev x = .agg (edC c)) (h2 : ev y = .agg (edC d)) (h3 : ev z = .agg (edC e)) :
    effV Try.prog lim (.buildSlice 22 3 #[(0, x), (1, y), (2, z)]) ev H = some (.own 3 H.length 0 3, H ++ [some (flatE [c, d, e])]) := by
  simp only [effV, tk22, ty66]
  rw [if_pos ⟨rfl, by decide, by decide⟩]
  simp only [List.map_cons, List.map_nil, h, h2, h3]
  rfl
theorem OutE.new {lo b : Nat} {H H' : Heap} {w X : List Ed} {m : Nat} (g : MGrew H b H' (flatE (w ++ X))) (hlo : lo ≤ H.length) (hX : X ≠ []) (hm : m = w.length + X.length) : OutE lo H' (.own 3 H.length 0 m) (w ++ X) := by
  subst hm
  exact .inr ⟨by simp [hX], H.length, by simp, hlo, g.new⟩
/-- Numbers as they are gathered: none yet, or a block. -/
def OutI (lo : Nat) (H : Heap) (o : AV) (w : List Int) : Prop := (w = [] ∧ o = nilP) ∨ (w ≠ [] ∧ ∃ b, o = .own 1 b 0 w.length ∧ lo ≤ b ∧ hget H b = some (w.map AV.i))
theorem OutI.mono {lo : Nat} {H H' : Heap} {o : AV} {w : List Int} (h : OutI lo H o w) (hh : ∀ b, lo ≤ b → ∀ k, hget H b = some k → hget H' b = some k) : OutI lo H' o w := by
  rcases h with h | ⟨h0, b, h1, h2, h3⟩
  · exact .inl h
  · exact .inr ⟨h0, b, h1, h2, hh b h2 _ h3⟩
theorem OutI.lt {lo b : Nat} {H : Heap} {o : AV} {w : List Int} (h : OutI lo H o w) (ho : o = .own 1 b 0 w.length) : b < H.length := by
  rcases h with ⟨_, h⟩ | ⟨_, b', h1, _, h3⟩
  · rw [h] at ho; cases ho
  · rw [h1] at ho; cases ho; exact hget_lt h3
theorem outI_append {lim lo hi : Nat} {H : Heap} {o : AV} {w : List Int} {v : Int} {b' : Nat} (h : OutI lo H o w) (hob : ∀ b, o = .own 1 b 0 w.length → b < hi) (hc : hget H b' = some [AV.i v]) (hl : lim ≤ lo) (hlo : lo ≤ H.length) (hw : w.length ≤ 100000) :
    ∃ b, lo ≤ b ∧ (b < hi ∨ b = H.length) ∧ ∃ H', appendV Try.prog lim H 40 o (.own 1 b' 0 1) = some (.own 1 H.length 0 (w.length + 1), H') ∧ MGrew H b H' ((w ++ [v]).map AV.i) := by
  rcases h with ⟨rfl, rfl⟩ | ⟨h0, b, rfl, h2, h3⟩
  · refine ⟨H.length, hlo, .inr rfl, _, ?_, MGrew.ofNew _ (MNew.of _ _)⟩
    simp only [appendV, tk40, ty3, srcCells, hc]
    rw [if_pos (by simp)]
    simp only [List.length_cons, List.length_nil]
    rw [if_pos ⟨trivial, by decide, rfl⟩]
    rw [if_pos ⟨by omega, by omega⟩]
    rfl
  · refine ⟨b, h2, .inl (hob b rfl), _, ?_, MGrew.of _ _ _⟩
    simp only [appendV, tk40, ty3, srcCells, hc, h3]
    rw [if_pos (by simp)]
    simp only [List.length_cons, List.length_nil]
    rw [if_pos ⟨trivial, by decide, rfl⟩]
    simp only [List.drop_zero, List.length_map, Nat.mul_one]
    rw [if_pos ⟨by omega, trivial, by omega, by omega, by omega⟩]
    rw [List.take_of_length_le (by simp)]
    simp [List.map_append]
theorem OutI.new {lo b : Nat} {H H' : Heap} {w : List Int} {v : Int} {m : Nat} (g : MGrew H b H' ((w ++ [v]).map AV.i)) (hlo : lo ≤ H.length) (hm : m = w.length + 1) : OutI lo H' (.own 1 H.length 0 m) (w ++ [v]) := by
  subst hm
  exact .inr ⟨by simp, H.length, by simp, hlo, g.new⟩
def outA (w : List Int) : AV := if w = [] then nilP else intsAV w
theorem OutI.frz {H : Heap} {base d : Nat} {o : AV} {w : List Int} (h : OutI base H o w) : Go.Am.frz H base (d + 2) o = outA w := by
  unfold outA
  rcases h with ⟨rfl, rfl⟩ | ⟨h0, b, rfl, h2, h3⟩
  · rfl
  · rw [frz_own (by omega) h3, List.drop_zero, frz_ints, if_neg h0]
theorem OutI.lo {lo lo' : Nat} {H : Heap} {o : AV} {w : List Int} (h : OutI lo H o w) (hl : lo' ≤ lo) : OutI lo' H o w := by
  rcases h with h | ⟨h0, b, h1, h2, h3⟩
  · exact .inl h
  · exact .inr ⟨h0, b, h1, by omega, h3⟩
theorem OutE.frz {H : Heap} {base d lo : Nat} {o : AV} {w : List Ed} (h : OutE lo H o w) (hl : base ≤ lo) (hw : w ≠ []) : Go.Am.frz H base (d + 2) o = edgesAV w := by
  rcases h with ⟨rfl, rfl⟩ | ⟨h0, b, rfl, h2, h3⟩
  · exact absurd rfl hw
  · rw [frz_own (by omega) h3, List.drop_zero, frz_eds]
theorem outA_len (w : List Int) : lenV (tyOf Try.prog 40) (outA w) = some (AV.i (w.length : Nat)) := by
  unfold outA
  split
  · rename_i h; rw [h]; simp only [lenV, ty40, kOf, Option.map_some]; rfl
  · simp only [lenV, ty40, kOf, Option.map_some]
theorem pairsA_at {L : List Pr} (h : 0 < (pairsN L L.length).length) : pairsA L = prsAV (pairsN L L.length) := by
  unfold pairsA
  rw [if_neg (fun hh => by rw [hh] at h; simp at h)]
end Go.Proofs.Ytdicnojnkbmdlaa
end
section
set_option linter.unusedVariables false
namespace Go.Proofs.Ytdicnojnkbmdlaa
open Go Go.Am
def refB (L : List Pr) (t : Int) : AV := if refO L t L.length = [] then nilP else prsAV (refO L t L.length)
theorem refB_len (L : List Pr) (t : Int) : lenV (tyOf Try.prog 41) (refB L t) = some (AV.i ((refO L t L.length).length : Nat)) := by
  unfold refB
  split
  · rename_i h; rw [h]; simp only [lenV, ty41, kOf, Option.map_some]; rfl
  · simp only [lenV, ty41, kOf, Option.map_some]
theorem refB_at {L : List Pr} {t : Int} (h : 0 < (refO L t L.length).length) : refB L t = prsAV (refO L t L.length) := by
  unfold refB
  rw [if_neg (fun hh => by rw [hh] at h; simp at h)]
theorem outA_at {w : List Int} (h : 0 < w.length) : outA w = intsAV w := by
  unfold outA
  rw [if_neg (fun hh => by rw [hh] at h; simp at h)]
theorem refO_len (L : List Pr) (t : Int) : ∀ u, (refO L t u).length ≤ u
  | 0 => Nat.le_refl _
  | u + 1 => by
    have := refO_len L t u
    rw [refO]
    split
    · omega
    split
    · omega
    · simp; omega
def NumO (L : List Pr) (t : Int) (u : Nat) (N : List Int) : Prop := N.length = (refO L t u).length ∧ ∀ i, i < (refO L t u).length → 2 * gt N i = cnlN L t (norm (gt (refO L t u) i)) u
theorem cnl_skip {L : List Pr} {t : Int} {u : Nat} (h : (gt L u).a = t ∨ (gt L u).b = t) (p : Pr) : cnlN L t p (u + 1) = cnlN L t p u := by
  rw [cnlN, if_neg (by omega), Int.add_zero]
theorem numO_skip {L : List Pr} {t : Int} {u : Nat} {N : List Int} (h : (gt L u).a = t ∨ (gt L u).b = t) (hN : NumO L t u N) : NumO L t (u + 1) N := by
  unfold NumO
  rw [refO, if_pos h]
  exact ⟨hN.1, fun i hi => by rw [cnl_skip h]; exact hN.2 i hi⟩
theorem numO_old {L : List Pr} {t : Int} {u : Nat} {N : List Int} (h : ¬ ((gt L u).a = t ∨ (gt L u).b = t)) (hl : N.length = (refO L t u).length) (hN : ∀ i, i < (refO L t u).length → 2 * gt N i = cnlN L t (norm (gt (refO L t u) i)) (u + 1)) (hm : norm (gt L u) ∈ (refO L t u).map norm) : NumO L t (u + 1) N := by
  unfold NumO
  rw [refO, if_neg h, if_pos hm]
  exact ⟨hl, hN⟩
theorem numO_new {L : List Pr} {t : Int} {u : Nat} {N : List Int} (h : ¬ ((gt L u).a = t ∨ (gt L u).b = t)) (hm : ¬ norm (gt L u) ∈ (refO L t u).map norm) (hl : N.length = (refO L t u).length) (hN : ∀ i, i < (refO L t u).length → 2 * gt N i = cnlN L t (norm (gt (refO L t u) i)) (u + 1)) : NumO L t (u + 1) (N ++ [1]) := by
  unfold NumO
  rw [refO, if_neg h, if_neg hm]
  refine ⟨by simp [hl], fun i hi => ?_⟩
  rw [List.length_append, List.length_singleton] at hi
  by_cases hi2 : i < (refO L t u).length
  · rw [gt_app _ _ _ (by omega), gt_app _ _ _ hi2]; exact hN i hi2
  · have : i = (refO L t u).length := by omega
    subst this
    rw [gt_last, ← hl, gt_last, cnlN, cnl_zero (pq_ref L t u) (fun j hj he => hm (mem_norm'.2 ⟨j, hj, he⟩)) u (Nat.le_refl _), if_pos ⟨by omega, rfl⟩]
    rfl
theorem num_hit {L : List Pr} {t : Int} {u w : Nat} {N : List Int} (h : ¬ ((gt L u).a = t ∨ (gt L u).b = t)) (he : norm (gt (refO L t u) w) = norm (gt L u)) (hl : N.length = (refO L t u).length) (hw : w < (refO L t u).length)
    (hN : ∀ i, i < (refO L t u).length → 2 * gt N i = if i < w then cnlN L t (norm (gt (refO L t u) i)) (u + 1) else cnlN L t (norm (gt (refO L t u) i)) u) :
    ∀ i, i < (refO L t u).length → 2 * gt (N.set w (gt N w + 1)) i = if i < w + 1 then cnlN L t (norm (gt (refO L t u) i)) (u + 1) else cnlN L t (norm (gt (refO L t u) i)) u := fun i hi => by
  have h1 := hN i hi
  rw [gt_set _ _ _ _ (by omega)]
  by_cases hi2 : w = i
  · subst hi2
    rw [if_neg (by omega)] at h1
    rw [if_pos rfl, if_pos (by omega), cnlN, if_pos ⟨by omega, he.symm⟩]
    omega
  · rw [if_neg hi2, h1]
    by_cases hi3 : i < w
    · rw [if_pos hi3, if_pos (by omega)]
    · rw [if_neg hi3, if_neg (by omega)]
theorem num_miss {L : List Pr} {t : Int} {u w : Nat} {N : List Int} (he : ¬ norm (gt (refO L t u) w) = norm (gt L u)) 
    (hN : ∀ i, i < (refO L t u).length → 2 * gt N i = if i < w then cnlN L t (norm (gt (refO L t u) i)) (u + 1) else cnlN L t (norm (gt (refO L t u) i)) u) :
    ∀ i, i < (refO L t u).length → 2 * gt N i = if i < w + 1 then cnlN L t (norm (gt (refO L t u) i)) (u + 1) else cnlN L t (norm (gt (refO L t u) i)) u := fun i hi => by
  have h1 := hN i hi
  rw [h1]
  by_cases hi2 : w = i
  · subst hi2
    rw [if_neg (by omega), if_pos (by omega), cnlN, if_neg (fun hh => he hh.2.symm), Int.add_zero]
  · by_cases hi3 : i < w
    · rw [if_pos hi3, if_pos (by omega)]
    · rw [if_neg hi3, if_neg (by omega)]
theorem pn_newO {lo p m b3 : Nat} {H H' : Heap} {o2 : AV} {L : List Pr} {t : Int} {N : List Int} {u : Nat} (h : ¬ ((gt L u).a = t ∨ (gt L u).b = t)) (hmn : ¬ norm (gt L u) ∈ (refO L t u).map norm) (qq : hget H' p = some (flatP (refO L t u ++ [gt L u]))) (qz : hget H' m = some ((N ++ [1]).map AV.i)) (hN : OutN lo H o2 (refO L t u).length N) (hp : p ≠ b3) (hlo : lo ≤ p) (hlm : lo ≤ m) {k1 k2 : Nat} (e1 : k1 = (refO L t u).length + 1) (e2 : k2 = (refO L t u).length + 1) (hpm : p ≠ m := by omega) :
    OutPN lo H' (.own 2 p 0 k1) (.own 1 m 0 k2) (refO L t (u + 1)) (N ++ [1]) := by
  subst e1 e2
  rw [refO, if_neg h, if_neg hmn]
  have hl : N.length = (refO L t u).length := by
    rcases hN with ⟨h1, h2, _⟩ | ⟨h1, _⟩
    · rw [h2, h1]; rfl
    · exact h1
  exact .inr ⟨by simp, by simp [hl], p, m, by simp, by simp, hlo, hlm, hpm, qq, qz⟩
theorem pn_oldO {lo : Nat} {H : Heap} {o1 o2 : AV} {L : List Pr} {t : Int} {N : List Int} {u : Nat} (h0 : ¬ ((gt L u).a = t ∨ (gt L u).b = t)) (h : OutPN lo H o1 o2 (refO L t u) N) (hn : norm (gt L u) ∈ (refO L t u).map norm) : OutPN lo H o1 o2 (refO L t (u + 1)) N := by
  rw [refO, if_neg h0, if_pos hn]; exact h
theorem pn_skipO {lo : Nat} {H : Heap} {o1 o2 : AV} {L : List Pr} {t : Int} {N : List Int} {u : Nat} (h0 : (gt L u).a = t ∨ (gt L u).b = t) (h : OutPN lo H o1 o2 (refO L t u) N) : OutPN lo H o1 o2 (refO L t (u + 1)) N := by
  rw [refO, if_pos h0]; exact h
end Go.Proofs.Ytdicnojnkbmdlaa
end
section
set_option linter.unusedVariables false
namespace Go.Proofs.Ytdicnojnkbmdlaa
open Go Go.Am
/-- Matches that lie below some block. -/
def AtP (K : Nat) (H : Heap) (o : AV) (w : List Pr) : Prop := (w = [] ∧ o = nilP) ∨ (w ≠ [] ∧ ∃ b, o = .own 2 b 0 w.length ∧ b < K ∧ hget H b = some (flatP w))
theorem AtP.mono {K : Nat} {H H' : Heap} {o : AV} {w : List Pr} (h : AtP K H o w) (hh : ∀ b, b < K → ∀ k, hget H b = some k → hget H' b = some k) : AtP K H' o w := by
  rcases h with h | ⟨h0, b, h1, h2, h3⟩
  · exact .inl h
  · exact .inr ⟨h0, b, h1, h2, hh b h2 _ h3⟩
theorem AtP.of {lo K : Nat} {H : Heap} {o : AV} {w : List Pr} (h : OutP lo H o w) (hK : H.length ≤ K) : AtP K H o w := by
  rcases h with h | ⟨h0, b, h1, h2, h3⟩
  · exact .inl h
  · exact .inr ⟨h0, b, h1, by have := hget_lt h3; omega, h3⟩
theorem AtP.len {K : Nat} {H : Heap} {o : AV} {w : List Pr} (h : AtP K H o w) : lenV (tyOf Try.prog 41) o = some (AV.i (w.length : Nat)) := by
  rcases h with ⟨rfl, rfl⟩ | ⟨h0, b, rfl, _⟩
  · simp only [lenV, ty41, kOf, Option.map_some]; rfl
  · simp only [lenV, ty41, kOf, Option.map_some]
theorem frz_pairsA (H : Heap) (b d : Nat) (L : List Pr) : frz H b (d + 2) (pairsA L) = pairsA L := by
  unfold pairsA
  split
  · rfl
  · exact congrArg (AV.sl _) (frz_prs H b d _)
theorem frz_refB (H : Heap) (b d : Nat) (L : List Pr) (t : Int) : frz H b (d + 2) (refB L t) = refB L t := by
  unfold refB
  split
  · rfl
  · exact congrArg (AV.sl _) (frz_prs H b d _)
theorem frz_outA (H : Heap) (b d : Nat) (w : List Int) : frz H b (d + 2) (outA w) = outA w := by
  unfold outA
  split
  · rfl
  · exact congrArg (AV.sl _) (frz_ints H b d _)
theorem gE_ne (pb tb : Int) (c : Nat → Int) (Q : List Pr) {P : List Int} {t : Int} (goal : Int) (h : 2 ≤ P.length) : gE pb tb c Q P t goal ≠ [] := by
  intro hh
  by_cases ht : t = 0
  · have := (gEb_at tb P t goal (gEa pb tb c Q Q.length) 1 (by omega) P.length (by omega)).1
    rw [gE] at hh; rw [hh] at this; simp at this
  · have := (gEb_at tb P t goal (gEa pb tb c Q Q.length) 0 (by omega) P.length (by omega)).1
    rw [gE] at hh; rw [hh] at this; simp at this
theorem oth_in {L : List Pr} {t : Int} {u : Nat} (h : (gt L u).a ≠ t ∧ (gt L u).b ≠ t) : othN L t (u + 1) = othN L t u ++ [gt L u] := by rw [othN, if_pos h]
theorem oth_out {L : List Pr} {t : Int} {u : Nat} (h : ¬ ((gt L u).a ≠ t ∧ (gt L u).b ≠ t)) : othN L t (u + 1) = othN L t u := by rw [othN, if_neg h]
theorem oth_new {lo b : Nat} {H H' : Heap} {L : List Pr} {t : Int} {u m : Nat} (g : MGrew H b H' (flatP (othN L t u ++ [gt L u]))) (hlo : lo ≤ H.length) (h : (gt L u).a ≠ t ∧ (gt L u).b ≠ t) (hm : m = (othN L t u).length + 1) : OutP lo H' (.own 2 H.length 0 m) (othN L t (u + 1)) := by
  subst hm
  rw [oth_in h]
  exact .inr ⟨by simp, H.length, by simp, hlo, g.new⟩
theorem oth_old {lo : Nat} {H : Heap} {o : AV} {L : List Pr} {t : Int} {u : Nat} (hO : OutP lo H o (othN L t u)) (h : ¬ ((gt L u).a ≠ t ∧ (gt L u).b ≠ t)) : OutP lo H o (othN L t (u + 1)) := by
  rw [oth_out h]; exact hO
theorem cnt_hit {O : List Pr} {p : Pr} {w : Nat} {c : Int} (hc : c = cntN O p w) (h : norm (gt O w) = p) : c + 2 = cntN O p (w + 1) := by rw [cntN, if_pos h, hc]
theorem cnt_miss {O : List Pr} {p : Pr} {w : Nat} {c : Int} (hc : c = cntN O p w) (h : ¬ norm (gt O w) = p) : c = cntN O p (w + 1) := by rw [cntN, if_neg h, hc, Int.add_zero]
theorem cnt_all {L : List Pr} {t : Int} {i : Nat} (hi : i < (pQ L t).length) : cntN (othS L t) (gt (pQ L t) i) (othS L t).length = cQ L t (pQ L t) i := by
  rw [cnt_oth, cQ, pQ_nq L t i hi]
/-- Edges that are read and written as a graph's last part. -/
theorem outE_a {lo b : Nat} {H H' : Heap} {pb tb : Int} {c : Nat → Int} {Q : List Pr} {i m : Nat} (g : MGrew H b H' (flatE (gEa pb tb c Q i ++ gE1 pb tb c Q i))) (hlo : lo ≤ H.length) (hm : m = (gEa pb tb c Q i).length + 3) : OutE lo H' (.own 3 H.length 0 m) (gEa pb tb c Q (i + 1)) :=
  OutE.new g hlo (by simp [gE1]) (by rw [hm]; rfl)
theorem outE_b {lo b : Nat} {H H' : Heap} {tb t goal : Int} {P : List Int} {A : List Ed} {k m : Nat} (g : MGrew H b H' (flatE (gEb tb P t goal A k ++ [⟨tb + k, 1, goal - gt P k⟩]))) (hlo : lo ≤ H.length) (hk : (k : Int) ≠ t) (hm : m = (gEb tb P t goal A k).length + 1) : OutE lo H' (.own 3 H.length 0 m) (gEb tb P t goal A (k + 1)) := by
  rw [gEb, if_pos hk]
  exact OutE.new g hlo (by simp) (by rw [hm]; rfl)
theorem outE_k {lo : Nat} {H : Heap} {o : AV} {tb t goal : Int} {P : List Int} {A : List Ed} {k : Nat} (h : OutE lo H o (gEb tb P t goal A k)) (hk : ¬ (k : Int) ≠ t) : OutE lo H o (gEb tb P t goal A (k + 1)) := by
  rw [gEb, if_neg hk]; exact h
end Go.Proofs.Ytdicnojnkbmdlaa
end
section
set_option linter.unusedVariables false
namespace Go.Proofs.Ytdicnojnkbmdlaa
open Go Go.Am
theorem ms40n (lim : Nat) (H : Heap) (n : Nat) (x y : Operand) (ev : Operand → AV) (hn : n ≤ 1000000) (h : ev x = AV.i n) (h' : ev y = AV.i n) :
    effV Try.prog lim (.makeSlice 40 x y) ev H = some (.own 1 H.length 0 n, H ++ [some ((List.replicate n (0 : Int)).map AV.i)]) := by
  have := ms40 lim H n x y ev (by omega) (by omega) h h'
  rwa [Int.toNat_natCast] at this
/-- What the first team of each pair gets, as it is read. -/
def yN (f : List Int) (q : Nat) : Nat → List Int
  | 0 => List.replicate q 0
  | u + 1 => (yN f q u).set u (gt f (3 * u + 1))
theorem yN_len (f : List Int) (q : Nat) : ∀ u, (yN f q u).length = q
  | 0 => by simp [yN]
  | u + 1 => by rw [yN, List.length_set, yN_len f q u]
theorem yN_gt (f : List Int) (q : Nat) : ∀ u, u ≤ q → ∀ i, gt (yN f q u) i = if i < u then gt f (3 * i + 1) else 0
  | 0, _, i => by rw [yN, gt_rep, if_neg (by omega)]
  | u + 1, h, i => by
    rw [yN, gt_set _ _ _ _ (by rw [yN_len]; omega), yN_gt f q u (by omega)]
    by_cases hi : u = i
    · subst hi; rw [if_pos rfl, if_pos (by omega)]
    · rw [if_neg hi]
      by_cases h2 : i < u
      · rw [if_pos h2, if_pos (by omega)]
      · rw [if_neg h2, if_neg (by omega)]
theorem gtn_out {l : List Int} {i : Nat} (h : l.length ≤ i) : gt l i = 0 := by
  simp only [gt, List.getD_eq_getElem?_getD, List.getElem?_eq_none h]; rfl
section
variable {Q : List Pr} {t : Int} {L : List Pr} {Y : List Int} {u : Nat}
theorem res_a (ha : (gt L u).a = t) : resN Q t L Y (u + 1) = ((resN Q t L Y u).1, (resN Q t L Y u).2.set u 2) := by rw [resN, res1, if_pos ha]
theorem res_b (ha : (gt L u).a ≠ t) (hb : (gt L u).b = t) : resN Q t L Y (u + 1) = resN Q t L Y u := by rw [resN, res1, if_neg ha, if_pos hb]
theorem res_c (ha : (gt L u).a ≠ t) (hb : (gt L u).b ≠ t) {j : Nat} (hj : idxP Q (norm (gt L u)) = j) : resN Q t L Y (u + 1) = ((resN Q t L Y u).1.set j (gt (resN Q t L Y u).1 j - min (gt (resN Q t L Y u).1 j) 2), (resN Q t L Y u).2.set u (if (gt L u).a ≠ (gt Q j).a then 2 - min (gt (resN Q t L Y u).1 j) 2 else min (gt (resN Q t L Y u).1 j) 2)) := by
  rw [resN, res1, if_neg ha, if_neg hb, hj]
theorem idx_is (W : PQ L t Q) (hQ : NQ Q) (hu : u < L.length) (ha : (gt L u).a ≠ t) (hb : (gt L u).b ≠ t) {k : Int} (hk : (0 ≤ k ∧ k < Q.length ∧ gt Q k.toNat = norm (gt L u)) ∨ (k = -1 ∧ norm (gt L u) ∉ Q)) :
    ∃ j : Nat, k = j ∧ j < Q.length ∧ gt Q j = norm (gt L u) ∧ idxP Q (norm (gt L u)) = j := by
  obtain ⟨j0, hj0, hn0⟩ := W.all u hu ⟨ha, hb⟩
  have hmem : norm (gt L u) ∈ Q := by rw [← hn0, hQ j0 hj0]; exact gt_mem hj0
  obtain ⟨hi, hin⟩ := idxP_at hmem
  rcases hk with ⟨h1, h2, h3⟩ | ⟨_, h⟩
  · refine ⟨k.toNat, by omega, by omega, h3, ?_⟩
    exact W.nd _ _ hi (by omega) (by rw [hin, h3])
  · exact absurd hmem h
end
theorem idxA_ok {lim : Nat} {H : Heap} {L : List Pr} {t : Int} {p : Pr} {K : AV → Heap → Prop} (h : ACall sig lim 71 [prsAV (pQ L t), .agg (prC p)] H K) (h0 : 0 < (pQ L t).length) : ACall sig lim 71 [pairsA (othN L t L.length), .agg (prC p)] H K := by
  rw [pairsA_at h0]; exact h
theorem outI_append' {lim lo : Nat} {H : Heap} {o : AV} {w : List Int} {v : Int} {b' : Nat} (h : OutI lo H o w) (hc : hget H b' = some [AV.i v]) (hl : lim ≤ lo) (hlo : lo ≤ H.length) (hw : w.length ≤ 100000) :
    ∃ b, lo ≤ b ∧ (o = .own 1 b 0 w.length ∨ b = H.length) ∧ ∃ H', appendV Try.prog lim H 40 o (.own 1 b' 0 1) = some (.own 1 H.length 0 (w.length + 1), H') ∧ MGrew H b H' ((w ++ [v]).map AV.i) := by
  rcases h with h | ⟨h0, b, rfl, h2, h3⟩
  · obtain ⟨b, h1, h2, h3⟩ := outI_append (lim := lim) (hi := 0) (.inl h) (fun b hb => by rw [h.2] at hb; cases hb) hc hl hlo hw
    exact ⟨b, h1, .inr (by omega), h3⟩
  · obtain ⟨b', h1, h4, h5⟩ := outI_append (lim := lim) (hi := b + 1) (.inr ⟨h0, b, rfl, h2, h3⟩) (fun b' hb => by cases hb; omega) hc hl hlo hw
    refine ⟨b, h2, .inl rfl, _, ?_, MGrew.of _ _ _⟩
    simp only [appendV, tk40, ty3, srcCells, hc, h3]
    rw [if_pos (by simp)]
    simp only [List.length_cons, List.length_nil]
    rw [if_pos ⟨trivial, by decide, rfl⟩]
    simp only [List.drop_zero, List.length_map, Nat.mul_one]
    rw [if_pos ⟨by omega, trivial, by omega, by omega, by omega⟩]
    rw [List.take_of_length_le (by simp)]
    simp [List.map_append]
theorem flatP0 (l : List Pr) (u : Nat) (h : u < l.length) : (flatP l)[u * 2]? = some (AV.i (gt l u).a) := flatP_get l u 0 h (by omega)
/-- What has been given of a flow. -/
def GivOK (f : List Int) (q : Nat) (D : List Int) : Prop := D.length = q ∧ ∀ i, i < q → 0 ≤ gt D i ∧ gt D i ≤ gt f (3 * i + 1)
theorem giv_step {f : List Int} {q : Nat} {D : List Int} (h : GivOK f q D) {w : Nat} (hw : w < q) : GivOK f q (D.set w (gt D w + min 2 (gt f (3 * w + 1) - gt D w))) := by
  refine ⟨by rw [List.length_set]; exact h.1, fun i hi => ?_⟩
  have h1 := h.2 i hi
  have h2 := h.1
  rw [gt_set _ _ _ _ (by omega)]
  split
  · rename_i he; subst he; omega
  · exact h1
end Go.Proofs.Ytdicnojnkbmdlaa
end
section
set_option linter.unusedVariables false
namespace Go.Proofs.Ytdicnojnkbmdlaa
open Go Go.Am
theorem index_any (lim lo : Nat) (H : Heap) (o : AV) (m : List Pr) (p : Pr) (hO : OutP lo H o m) (hm : m.length ≤ 1000) :
    ACall sig lim 71 [o, .agg (prC p)] H fun r H' => (∃ k : Int, r = AV.i k ∧ ((0 ≤ k ∧ k < m.length ∧ gt m k.toNat = p) ∨ (k = -1 ∧ p ∉ m))) ∧ H' = H := by
  rcases hO with ⟨rfl, rfl⟩ | ⟨h0, b, rfl, h2, h3⟩
  · refine ACall_mono (index_nil lim H p) ?_
    rintro r H' ⟨⟨k, rfl, rfl⟩, rfl⟩
    exact ⟨⟨_, rfl, .inr ⟨rfl, by simp⟩⟩, rfl⟩
  · exact index_ok lim H b m p h3 hm
end Go.Proofs.Ytdicnojnkbmdlaa
end
section
set_option linter.unusedSimpArgs false
set_option linter.unusedVariables false
set_option maxHeartbeats 40000000
set_option maxRecDepth 4000
namespace Go.Proofs.Ytdicnojnkbmdlaa
open Go Go.Am

abbrev lc_contains_ok (a b c d : AV) : Env := [(0,a),(1,b),(3,c),(4,d)]
theorem contains_ok (lim lo : Nat) (H : Heap) (o : AV) (m : List Pr) (p : Pr) (hO : OutP lo H o m) (hm : m.length ≤ 1000) :
    ACall sig lim 70 [o, .agg (prC p)] H fun r H' => r = .v (.bool (decide (p ∈ m))) ∧ H' = H := by
 refine ACall_pure (fa := fa70) rfl rfl rfl rfl ?_
 have tr : ∀ a0 a1 : AV, env0 fa70.keep [a0, a1] = [(0,a0),(1,a1),(3,.any),(4,.any)] := fun a0 a1 => rfl
 refine W_to (tr _ _) ?_; clear tr
 refine at_seq rfl ?_
 refine rg rfl ?_
 refine R_box rfl (by simp (disch := first | omega | (simp only [List.length_map, List.length_append, List.length_set, List.length_cons, List.length_nil]; omega)) only [go_sem, ↓reduceIte, Nat.reduceEqDiff, reduceCtorEq] <;> rfl) rfl rfl ?_
 refine Rq ?_
 have tr : ∀ a b c d e f : AV, let l := lc_contains_ok a b c d; trim ((4,f)::(3,e)::l) l = [(0,a),(1,b),(3,e),(4,f)] := by intros; rfl
 refine R_nil (tr ..) ?_; clear tr
 refine then_n ?_
 refine at_seq rfl ?_
 refine rg rfl ?_
 refine Rq ?_
 refine Rq ?_
 refine Rcall ?_
 refine ACall_mono (index_any _ lo _ o m p (hO.mono fun b _ k hk => by rw [hget_low _ _ _ (hget_lt hk)]; exact hk) hm) ?_
 rintro r H6 ⟨⟨k, rfl, hk⟩, rfl⟩
 refine Rq ?_
 refine Rq ?_
 have tr : ∀ a b c d e f g h i : AV, let l := lc_contains_ok a b c d; trim ((4,i)::(8,h)::(7,g)::(6,f)::(5,e)::l) l = [(0,a),(1,b),(3,c),(4,i)] := by intros; rfl
 refine R_nil (tr ..) ?_; clear tr
 refine then_n ?_
 refine at_ret rfl ?_
 refine fpure ?_
 refine ⟨?_, rfl⟩
 congr 2
 rw [decide_eq_decide]
 rcases hk with ⟨h1, h2, h3⟩ | ⟨h1, h2⟩
 · exact ⟨fun _ => by rw [← h3, gt_eq _ _ (by omega)]; exact List.getElem_mem _, fun _ => h1⟩
 · exact ⟨fun hh => by omega, fun hh => absurd hh h2⟩

end Go.Proofs.Ytdicnojnkbmdlaa
end
