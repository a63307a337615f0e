/-
  Matches laid on days, the most urgent one first: no day takes more than it has room for, and where one comes too late a window of days has more matches than room. Plain proofs.
-/
import Derived.Test.YtkjgmpjnhfmecaaP
set_option linter.unusedVariables false
set_option linter.unusedSimpArgs false
namespace Go.Proofs.Ytkjgmpjnhfmecaa
open Go Go.Am
/-- The job that a day takes next. -/
def nx (J : List Jb) (D : List Int) (day : Int) : Nat → Int
  | 0 => -1
  | u + 1 => if (gt D u < 0 ∧ (gt J u).f ≤ day) ∧ (nx J D day u < 0 ∨ (gt J u).t < (gt J (nx J D day u).toNat).t) then u else nx J D day u
theorem nx_box (J : List Jb) (D : List Int) (day : Int) : ∀ u, -1 ≤ nx J D day u ∧ nx J D day u < u
  | 0 => ⟨Int.le_refl _, by simp [nx]⟩
  | u + 1 => by
    have := nx_box J D day u
    rw [nx]
    split <;> omega
theorem nx_ok (J : List Jb) (D : List Int) (day : Int) : ∀ u, (nx J D day u = -1 ∧ ∀ i, i < u → ¬ (gt D i < 0 ∧ (gt J i).f ≤ day)) ∨
    ∃ k : Nat, k < u ∧ nx J D day u = k ∧ (gt D k < 0 ∧ (gt J k).f ≤ day) ∧ ∀ i, i < u → (gt D i < 0 ∧ (gt J i).f ≤ day) → (gt J k).t ≤ (gt J i).t
  | 0 => .inl ⟨rfl, fun i hi => by omega⟩
  | u + 1 => by
    have ih := nx_ok J D day u
    rw [nx]
    by_cases h : (gt D u < 0 ∧ (gt J u).f ≤ day) ∧ (nx J D day u < 0 ∨ (gt J u).t < (gt J (nx J D day u).toNat).t)
    · rw [if_pos h]
      refine .inr ⟨u, by omega, rfl, h.1, fun i hi hc => ?_⟩
      by_cases e : i = u
      · rw [e]; exact Int.le_refl _
      · rcases ih with ⟨h1, h2⟩ | ⟨b, h1, h2, h3, h4⟩
        · exact absurd hc (h2 i (by omega))
        · have h5 := h4 i (by omega) hc
          rcases h.2 with h6 | h6
          · omega
          · rw [h2, Int.toNat_natCast] at h6; omega
    · rw [if_neg h]
      rcases ih with ⟨h1, h2⟩ | ⟨b, h1, h2, h3, h4⟩
      · refine .inl ⟨h1, fun i hi hc => ?_⟩
        by_cases e : i = u
        · subst e; exact h ⟨hc, .inl (by omega)⟩
        · exact h2 i (by omega) hc
      · refine .inr ⟨b, by omega, h2, h3, fun i hi hc => ?_⟩
        by_cases e : i = u
        · subst e
          apply Int.not_lt.1
          intro hh
          exact h ⟨hc, .inr (by rw [h2, Int.toNat_natCast]; exact hh)⟩
        · exact h4 i (by omega) hc
theorem nx_T {J : List Jb} {D : List Int} {day n : Int} {u : Nat} (hn : n = nx J D day u) (h1 : gt D u < 0) (h2 : (gt J u).f ≤ day) (h3 : n < 0 ∨ (gt J u).t < (gt J n.toNat).t) : (u : Int) = nx J D day (u + 1) := by
  subst hn; rw [nx, if_pos ⟨⟨h1, h2⟩, h3⟩]
theorem nx_F {J : List Jb} {D : List Int} {day n : Int} {u : Nat} (hn : n = nx J D day u) (h : ¬ (gt D u < 0 ∧ (gt J u).f ≤ day ∧ (n < 0 ∨ (gt J u).t < (gt J n.toNat).t))) : n = nx J D day (u + 1) := by
  subst hn; rw [nx, if_neg fun hh => h ⟨hh.1.1, hh.1.2, hh.2⟩]
def st1 (J : List Jb) (D : List Int) (day : Int) : List Int := if nx J D day J.length < 0 then D else D.set (nx J D day J.length).toNat day
def dys (J : List Jb) (cs : List Int) (first : Int) : Nat → List Int
  | 0 => List.replicate J.length (-1)
  | u + 1 => if gt cs u = 0 then dys J cs first u else st1 J (dys J cs first u) (first + u)
theorem dys_len (J : List Jb) (cs : List Int) (first : Int) : ∀ u, (dys J cs first u).length = J.length
  | 0 => by simp [dys]
  | u + 1 => by
    have := dys_len J cs first u
    rw [dys]
    split
    · exact this
    · rw [st1]; split
      · exact this
      · rw [List.length_set]; exact this
/-- How many numbers below n have p. -/
def ct (p : Nat → Prop) [DecidablePred p] : Nat → Int
  | 0 => 0
  | n + 1 => ct p n + if p n then 1 else 0
theorem ct_nn (p : Nat → Prop) [DecidablePred p] : ∀ n, 0 ≤ ct p n ∧ ct p n ≤ n
  | 0 => ⟨Int.le_refl _, by simp [ct]⟩
  | n + 1 => by have := ct_nn p n; rw [ct]; split <;> omega
theorem ct_congr {p q : Nat → Prop} [DecidablePred p] [DecidablePred q] : ∀ {n : Nat}, (∀ i, i < n → (p i ↔ q i)) → ct p n = ct q n
  | 0, _ => rfl
  | n + 1, h => by
    have h1 := h n (by omega)
    rw [ct, ct, ct_congr fun i hi => h i (by omega)]
    by_cases hp : p n
    · rw [if_pos hp, if_pos (h1.1 hp)]
    · rw [if_neg hp, if_neg fun hq => hp (h1.2 hq)]
theorem ct_zero {p : Nat → Prop} [DecidablePred p] : ∀ {n : Nat}, (∀ i, i < n → ¬ p i) → ct p n = 0
  | 0, _ => rfl
  | n + 1, h => by rw [ct, ct_zero fun i hi => h i (by omega), if_neg (h n (by omega))]; rfl
theorem ct_mono {p q : Nat → Prop} [DecidablePred p] [DecidablePred q] : ∀ {n : Nat}, (∀ i, i < n → p i → q i) → ct p n ≤ ct q n
  | 0, _ => Int.le_refl _
  | n + 1, h => by
    have := ct_mono (n := n) fun i hi => h i (by omega)
    rw [ct, ct]
    by_cases hp : p n
    · rw [if_pos hp, if_pos (h n (by omega) hp)]; omega
    · rw [if_neg hp]; split <;> omega
/-- One more, at k. -/
theorem ct_more {p q : Nat → Prop} [DecidablePred p] [DecidablePred q] {k : Nat} (hk : ¬ p k) (hq : q k) : ∀ {n : Nat}, (∀ i, i < n → i ≠ k → (p i ↔ q i)) → ct q n = ct p n + if k < n then 1 else 0
  | 0, _ => by simp [ct]
  | n + 1, h => by
    have ih := ct_more hk hq (n := n) fun i hi hne => h i (by omega) hne
    rw [ct, ct, ih]
    by_cases e : n = k
    · subst e
      rw [if_pos hq, if_neg hk, if_neg (by omega), if_pos (by omega)]
    · have h1 := h n (by omega) e
      by_cases hp : p n
      · rw [if_pos hp, if_pos (h1.1 hp)]
        by_cases h2 : k < n
        · rw [if_pos h2, if_pos (by omega)]
        · rw [if_neg h2, if_neg (by omega)]; omega
      · rw [if_neg hp, if_neg fun hq2 => hp (h1.2 hq2)]
        by_cases h2 : k < n
        · rw [if_pos h2, if_pos (by omega)]; omega
        · rw [if_neg h2, if_neg (by omega)]
theorem ct_more_le {p q : Nat → Prop} [DecidablePred p] [DecidablePred q] {k n : Nat} (hk : ¬ p k) (hq : q k) (hkn : k < n) (h : ∀ i, i < n → p i → q i) : ct p n + 1 ≤ ct q n := by
  have h1 : ct (fun i => p i ∨ i = k) n = ct p n + if k < n then 1 else 0 := ct_more (p := p) (q := fun i => p i ∨ i = k) hk (.inr rfl) fun i _ hne => ⟨.inl, fun hh => hh.resolve_right hne⟩
  rw [if_pos hkn] at h1
  rw [← h1]
  exact ct_mono fun i hi hh => by
    rcases hh with hh | rfl
    · exact h i hi hh
    · exact hq
/-- The room of the days of a window. -/
def rm (cs : List Int) (first a b : Int) : Nat → Int
  | 0 => 0
  | u + 1 => rm cs first a b u + if a ≤ first + u ∧ first + u ≤ b then gt cs u else 0
theorem rm_mono {cs : List Int} {first a a' b : Int} (h01 : ∀ i, i < cs.length → gt cs i = 0 ∨ gt cs i = 1) (h : a ≤ a') : ∀ u, u ≤ cs.length → rm cs first a' b u ≤ rm cs first a b u
  | 0, _ => Int.le_refl _
  | u + 1, hu => by
    have ih := rm_mono (first := first) (b := b) h01 h u (by omega)
    have := h01 u (by omega)
    rw [rm, rm]
    by_cases h1 : a' ≤ first + u ∧ first + u ≤ b
    · rw [if_pos h1, if_pos ⟨by omega, h1.2⟩]; omega
    · rw [if_neg h1]; split <;> omega
theorem rm_box {cs : List Int} {first a b : Int} (h01 : ∀ i, i < cs.length → gt cs i = 0 ∨ gt cs i = 1) : ∀ u, u ≤ cs.length → 0 ≤ rm cs first a b u ∧ rm cs first a b u ≤ u
  | 0, _ => ⟨Int.le_refl _, by simp [rm]⟩
  | u + 1, hu => by
    have ih := rm_box h01 (first := first) (a := a) (b := b) u (by omega)
    have := h01 u (by omega)
    rw [rm]
    split <;> omega
theorem rm_none {cs : List Int} {first a b : Int} : ∀ u : Nat, first + u ≤ a → rm cs first a b u = 0
  | 0, _ => rfl
  | u + 1, h => by rw [rm, rm_none u (by omega), if_neg (by omega)]; rfl
structure Inv (J : List Jb) (cs : List Int) (first : Int) (u : Nat) (D : List Int) : Prop where
  len : D.length = J.length
  day : ∀ j, j < J.length → gt D j = -1 ∨ (first ≤ gt D j ∧ gt D j < first + u ∧ (gt J j).f ≤ gt D j)
  cap : ∀ c : Nat, c < u → ct (fun j => gt D j = first + c) J.length ≤ gt cs c
  hall : ∀ b : Int, first - 1 ≤ b → ∃ t0 : Int, first - 1 ≤ t0 ∧ t0 < first + u ∧ t0 ≤ b ∧
    (∀ j, j < J.length → (gt J j).t ≤ b → (gt D j < 0 ∨ t0 < gt D j) → t0 < (gt J j).f) ∧
    ct (fun j => (gt J j).t ≤ b ∧ t0 < gt D j ∧ gt D j ≤ b) J.length = rm cs first (t0 + 1) b u
theorem inv_step {J : List Jb} {cs : List Int} {first : Int} {u : Nat} {D : List Int} (hf : 0 ≤ first) (h01 : gt cs u = 0 ∨ gt cs u = 1) (v : Inv J cs first u D) :
    Inv J cs first (u + 1) (if gt cs u = 0 then D else st1 J D (first + u)) := by
  have dayLt : ∀ j, j < J.length → gt D j < first + u := fun j hj => by
    rcases v.day j hj with h | h <;> omega
  by_cases h0 : gt cs u = 0
  · rw [if_pos h0]
    refine ⟨v.len, fun j hj => ?_, fun c hc => ?_, fun b hb => ?_⟩
    · rcases v.day j hj with h | h
      · exact .inl h
      · exact .inr ⟨h.1, by omega, h.2.2⟩
    · by_cases hc2 : c < u
      · exact v.cap c hc2
      · have : c = u := by omega
        subst this
        rw [h0, ct_zero fun j hj he => by have := dayLt j hj; omega]
        exact Int.le_refl _
    · obtain ⟨t0, h1, h2, h3, h4, h5⟩ := v.hall b hb
      exact ⟨t0, h1, by omega, h3, h4, by rw [rm, h0, h5]; split <;> omega⟩
  · have h1c : gt cs u = 1 := by omega
    rw [if_neg h0, st1]
    rcases nx_ok J D (first + u) J.length with ⟨k1, k2⟩ | ⟨k, k1, k2, k3, k4⟩
    · rw [if_pos (by omega)]
      refine ⟨v.len, fun j hj => ?_, fun c hc => ?_, fun b hb => ?_⟩
      · rcases v.day j hj with h | h
        · exact .inl h
        · exact .inr ⟨h.1, by omega, h.2.2⟩
      · by_cases hc2 : c < u
        · exact v.cap c hc2
        · have : c = u := by omega
          subst this
          rw [h1c, ct_zero fun j hj he => by have := dayLt j hj; omega]
          omega
      · by_cases hb2 : first + u ≤ b
        · refine ⟨first + u, by omega, by omega, hb2, fun j hj ht hd => ?_, ?_⟩
          · have h5 := dayLt j hj
            have h6 := k2 j hj
            rcases hd with hd | hd
            · omega
            · omega
          · rw [rm, rm_none u (by omega), if_neg (by omega), ct_zero fun j hj he => by have := dayLt j hj; omega]; rfl
        · obtain ⟨t0, h1, h2, h3, h4, h5⟩ := v.hall b hb
          exact ⟨t0, h1, by omega, h3, h4, by rw [rm, if_neg (by omega), h5]; omega⟩
    · rw [if_neg (by omega), k2, Int.toNat_natCast]
      have hkl : k < D.length := by rw [v.len]; exact k1
      have gk : ∀ j, gt (D.set k (first + u)) j = if k = j then first + u else gt D j := fun j => gt_set _ _ _ _ hkl
      have gkk : gt (D.set k (first + u)) k = first + u := by rw [gk, if_pos rfl]
      have gkn : ∀ j, j ≠ k → gt (D.set k (first + u)) j = gt D j := fun j hj => by rw [gk, if_neg (Ne.symm hj)]
      refine ⟨by rw [List.length_set]; exact v.len, fun j hj => ?_, fun c hc => ?_, fun b hb => ?_⟩
      · by_cases e : j = k
        · subst e; rw [gkk]; exact .inr ⟨by omega, by omega, k3.2⟩
        · rw [gkn j e]
          rcases v.day j hj with h | h
          · exact .inl h
          · exact .inr ⟨h.1, by omega, h.2.2⟩
      · by_cases hc2 : c < u
        · refine Int.le_trans (ct_mono fun j hj he => ?_) (v.cap c hc2)
          by_cases e : j = k
          · subst e; rw [gkk] at he; omega
          · rw [gkn j e] at he; exact he
        · have : c = u := by omega
          subst this
          have h6 : ct (fun j => gt (D.set k (first + c)) j = first + c) J.length = ct (fun j => gt D j = first + c) J.length + if k < J.length then 1 else 0 :=
            ct_more (by omega) gkk fun i hi hne => by rw [gkn i hne]
          rw [h6, ct_zero fun j hj he => by have := dayLt j hj; omega, h1c]
          split <;> omega
      · obtain ⟨t0, h1, h2, h3, h4, h5⟩ := v.hall b hb
        by_cases hb2 : first + u ≤ b
        · by_cases htk : (gt J k).t ≤ b
          · refine ⟨t0, h1, by omega, h3, fun j hj ht hd => ?_, ?_⟩
            · by_cases e : j = k
              · subst e; exact h4 j hj ht (.inl k3.1)
              · rw [gkn j e] at hd; exact h4 j hj ht hd
            · have h6 := ct_more (p := fun j => (gt J j).t ≤ b ∧ t0 < gt D j ∧ gt D j ≤ b) (q := fun j => (gt J j).t ≤ b ∧ t0 < gt (D.set k (first + u)) j ∧ gt (D.set k (first + u)) j ≤ b) (k := k) (n := J.length)
                (fun hh => by omega) ⟨htk, by rw [gkk]; omega, by rw [gkk]; exact hb2⟩ (fun i hi hne => by rw [gkn i hne])
              rw [h6, h5, if_pos k1, rm, if_pos ⟨by omega, hb2⟩, h1c]
          · refine ⟨first + u, by omega, by omega, hb2, fun j hj ht hd => ?_, ?_⟩
            · have hjk : j ≠ k := fun e => htk (e ▸ ht)
              rw [gkn j hjk] at hd
              have h6 := dayLt j hj
              rcases hd with hd | hd
              · apply Int.not_le.1
                intro hle
                have := k4 j hj ⟨hd, hle⟩
                omega
              · omega
            · rw [rm, rm_none u (by omega), if_neg (by omega)]
              rw [ct_zero fun j hj he => ?_]
              · rfl
              · by_cases e : j = k
                · subst e; rw [gkk] at he; omega
                · rw [gkn j e] at he; have := dayLt j hj; omega
        · refine ⟨t0, h1, by omega, h3, fun j hj ht hd => ?_, ?_⟩
          · by_cases e : j = k
            · subst e; exact h4 j hj ht (.inl k3.1)
            · rw [gkn j e] at hd; exact h4 j hj ht hd
          · rw [rm, if_neg (by omega), ← Int.add_zero (rm cs first (t0 + 1) b u), ← h5]
            rw [Int.add_zero, Int.add_zero]
            refine ct_congr fun j hj => ?_
            by_cases e : j = k
            · subst e
              rw [gkk]
              constructor
              · intro hh; omega
              · intro hh; omega
            · rw [gkn j e]
theorem inv_run {J : List Jb} {cs : List Int} {first : Int} (hf : 0 ≤ first) (h01 : ∀ i, i < cs.length → gt cs i = 0 ∨ gt cs i = 1) (hJ : ∀ j, j < J.length → first ≤ (gt J j).f) : ∀ u, u ≤ cs.length → Inv J cs first u (dys J cs first u)
  | 0, _ => by
    have hr : ∀ j, j < J.length → gt (dys J cs first 0) j = -1 := fun j hj => by
      rw [dys, gt_eq _ _ (by simpa using hj), List.getElem_replicate]
    refine ⟨dys_len _ _ _ 0, fun j hj => .inl (hr j hj), fun c hc => by omega, fun b hb => ⟨first - 1, Int.le_refl _, by omega, hb, fun j hj ht hd => by have := hJ j hj; omega, ?_⟩⟩
    rw [rm]
    exact ct_zero fun j hj he => by rw [hr j hj] at he; omega
  | u + 1, hu => by
    have := inv_step hf (h01 u (by omega)) (inv_run hf h01 hJ u (by omega))
    rw [dys]
    exact this
/-- How many jobs lie in a window. -/
def ins (J : List Jb) (a b : Int) : Int := ct (fun j => a ≤ (gt J j).f ∧ (gt J j).t ≤ b) J.length
def viol (J : List Jb) (cs : List Int) (first a b : Int) : Prop := a ≤ b ∧ rm cs first a b cs.length < ins J a b
theorem ex_min {J : List Jb} {p : Nat → Prop} [DecidablePred p] : ∀ {n i : Nat}, i < n → p i → ∃ k, k < n ∧ p k ∧ ∀ j, j < n → p j → (gt J k).f ≤ (gt J j).f
  | 0, i, hi, _ => by omega
  | n + 1, i, hi, hp => by
    by_cases hh : ∃ i, i < n ∧ p i
    · obtain ⟨i', h1, h2⟩ := hh
      obtain ⟨k, k1, k2, k3⟩ := ex_min (J := J) h1 h2
      by_cases hn : p n ∧ (gt J n).f < (gt J k).f
      · refine ⟨n, by omega, hn.1, fun j hj hpj => ?_⟩
        by_cases e : j = n
        · rw [e]; exact Int.le_refl _
        · have := k3 j (by omega) hpj; omega
      · refine ⟨k, by omega, k2, fun j hj hpj => ?_⟩
        by_cases e : j = n
        · subst e
          apply Int.not_lt.1
          intro hlt
          exact hn ⟨hpj, hlt⟩
        · exact k3 j (by omega) hpj
    · have e : i = n := by
        apply Classical.byContradiction
        intro hne
        exact hh ⟨i, by omega, hp⟩
      subst e
      refine ⟨i, by omega, hp, fun j hj hpj => ?_⟩
      by_cases e : j = i
      · rw [e]; exact Int.le_refl _
      · exact absurd ⟨j, by omega, hpj⟩ hh
/-- Where one job comes too late, a window of the days of two jobs has too little room. -/
theorem late {J : List Jb} {cs : List Int} {first : Int} (hf : 0 ≤ first) (h01 : ∀ i, i < cs.length → gt cs i = 0 ∨ gt cs i = 1) (hJ : ∀ j, j < J.length → first ≤ (gt J j).f ∧ (gt J j).f ≤ (gt J j).t) {i : Nat} (hi : i < J.length)
    (hl : gt (dys J cs first cs.length) i < 0 ∨ (gt J i).t < gt (dys J cs first cs.length) i) : ∃ x y, x < J.length ∧ y < J.length ∧ viol J cs first (gt J x).f (gt J y).t := by
  have v := inv_run hf h01 (fun j hj => (hJ j hj).1) cs.length (Nat.le_refl _)
  have hb := hJ i hi
  obtain ⟨t0, h1, h2, h3, h4, h5⟩ := v.hall (gt J i).t (by omega)
  have hit : t0 < (gt J i).f := h4 i hi (Int.le_refl _) (by rcases hl with h | h <;> omega)
  obtain ⟨k, k1, k2, k3⟩ := ex_min (J := J) (p := fun j => (gt J j).t ≤ (gt J i).t ∧ t0 < (gt J j).f) hi ⟨Int.le_refl _, hit⟩
  have hki := k3 i hi ⟨Int.le_refl _, hit⟩
  refine ⟨k, i, k1, hi, by omega, ?_⟩
  have h6 : rm cs first (gt J k).f (gt J i).t cs.length ≤ rm cs first (t0 + 1) (gt J i).t cs.length := rm_mono h01 (by omega) _ (Nat.le_refl _)
  have h7 := ct_more_le (p := fun j => (gt J j).t ≤ (gt J i).t ∧ t0 < gt (dys J cs first cs.length) j ∧ gt (dys J cs first cs.length) j ≤ (gt J i).t) (q := fun j => (gt J k).f ≤ (gt J j).f ∧ (gt J j).t ≤ (gt J i).t) (k := i) (n := J.length)
    (fun hh => by rcases hl with h | h <;> omega) ⟨hki, Int.le_refl _⟩ hi (fun j hj hh => ⟨k3 j hj ⟨hh.1, h4 j hj hh.1 (.inr hh.2.1)⟩, hh.1⟩)
  rw [h5] at h7
  unfold ins
  omega
end Go.Proofs.Ytkjgmpjnhfmecaa
