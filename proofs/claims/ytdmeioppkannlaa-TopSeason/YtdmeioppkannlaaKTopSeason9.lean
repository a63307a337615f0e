/-
  Texts of TopSeason, part 10 of 16. TopSeason: chapters 49, 51 to 53 at this program. Turned by program from built texts (season.py).
-/
import Derived.Test.YtdmeioppkannlaaKTopSeason8
import Derived.KernelRfl
import Derived.Test.YtdmeioppkannlaaKTopSeason7
import Derived.Test.YtdmeioppkannlaaKTopSeason5
section
set_option linter.unusedVariables false
namespace Go.Proofs.Ytdmeioppkannlaa
open Go Go.Am
/-- The points after one match. -/
def step1 (P : List Int) (m : Pr) (x : Int) : List Int := (P.set m.a.toNat (gt P m.a.toNat + x)).set m.b.toNat (gt (P.set m.a.toNat (gt P m.a.toNat + x)) m.b.toNat + (2 - x))
theorem step1_len (P : List Int) (m : Pr) (x : Int) : (step1 P m x).length = P.length := by simp [step1]
theorem play_cons (P : List Int) (m : Pr) (L : List Pr) (x : Int) (R : List Int) : ∀ u, playN P (m :: L) (x :: R) (u + 1) = playN (step1 P m x) L R u
  | 0 => rfl
  | u + 1 => by
    rw [playN, play_cons P m L x R u, playN]
    rfl
def allBe (P : List Int) (L : List Pr) (t : Int) : Prop := ∀ R : List Int, R.length = L.length → resOK R → ∀ k, k < P.length → gt (playN P L R L.length) k ≤ gt (playN P L R L.length) t.toNat
theorem can_nil {P : List Int} {t : Int} : canBe P [] t ↔ ∀ k, k < P.length → gt P k ≤ gt P t.toNat := by
  constructor
  · rintro ⟨R, _, _, h⟩; exact h
  · intro h; exact ⟨[], rfl, fun i hi => by simp at hi, h⟩
theorem all_nil {P : List Int} {t : Int} : allBe P [] t ↔ ∀ k, k < P.length → gt P k ≤ gt P t.toNat := by
  constructor
  · intro h; exact h [] rfl fun i hi => by simp at hi
  · intro h R _ _; exact h
theorem res_cons {x : Int} {R : List Int} (h : resOK (x :: R)) : (0 ≤ x ∧ x ≤ 2) ∧ resOK R := ⟨h 0 (by simp), fun i hi => h (i + 1) (by simp; omega)⟩
theorem res_cons' {x : Int} {R : List Int} (h1 : 0 ≤ x ∧ x ≤ 2) (h : resOK R) : resOK (x :: R) := fun i hi => by
  cases i with
  | zero => exact h1
  | succ i => exact h i (by simp at hi; omega)
theorem can_cons {P : List Int} {m : Pr} {L : List Pr} {t : Int} : canBe P (m :: L) t ↔ ∃ x : Nat, x < 3 ∧ canBe (step1 P m x) L t := by
  constructor
  · rintro ⟨R, h1, h2, h3⟩
    cases R with
    | nil => simp at h1
    | cons x R =>
      have h4 := res_cons h2
      refine ⟨x.toNat, by omega, R, by simpa using h1, h4.2, fun k hk => ?_⟩
      rw [step1_len] at hk
      have := h3 k hk
      rw [show (m :: L).length = L.length + 1 from rfl, play_cons] at this
      rwa [show ((x.toNat : Nat) : Int) = x by omega]
  · rintro ⟨x, hx, R, h1, h2, h3⟩
    refine ⟨(x : Int) :: R, by simp [h1], res_cons' (by omega) h2, fun k hk => ?_⟩
    rw [show (m :: L).length = L.length + 1 from rfl, play_cons]
    exact h3 k (by rw [step1_len]; exact hk)
theorem all_cons {P : List Int} {m : Pr} {L : List Pr} {t : Int} : allBe P (m :: L) t ↔ ∀ x : Nat, x < 3 → allBe (step1 P m x) L t := by
  constructor
  · intro h x hx R h1 h2 k hk
    have := h ((x : Int) :: R) (by simp [h1]) (res_cons' (by omega) h2) k (by rw [step1_len] at hk; exact hk)
    rwa [show (m :: L).length = L.length + 1 from rfl, play_cons] at this
  · intro h R h1 h2 k hk
    cases R with
    | nil => simp at h1
    | cons x R =>
      have h4 := res_cons h2
      have := h x.toNat (by omega) R (by simpa using h1) h4.2 k (by rw [step1_len]; exact hk)
      rw [show (m :: L).length = L.length + 1 from rfl, play_cons]
      rwa [show ((x.toNat : Nat) : Int) = x by omega] at this
theorem pass_iff {P : List Int} {L : List Pr} {t : Int} : ∀ n, passN P L t n = -1 ↔ ∀ k : Nat, k < n → (k : Int) ≠ t → mostN P L k L.length ≤ gt P t.toNat
  | 0 => ⟨fun _ k hk => by omega, fun _ => rfl⟩
  | n + 1 => by
    have ih := pass_iff (P := P) (L := L) (t := t) n
    rw [passN]
    by_cases h : passN P L t n = -1
    · rw [if_neg (fun hh => hh h)]
      by_cases h2 : (n : Int) ≠ t ∧ gt P t.toNat < mostN P L n L.length
      · rw [if_pos h2]
        exact ⟨fun hh => by omega, fun hh => by have := hh n (by omega) h2.1; omega⟩
      · rw [if_neg h2]
        refine ⟨fun _ k hk hkt => ?_, fun _ => rfl⟩
        by_cases hkn : k = n
        · subst hkn; have : ¬ gt P t.toNat < mostN P L k L.length := fun hh => h2 ⟨hkt, hh⟩; omega
        · exact ih.1 h k (by omega) hkt
    · rw [if_pos h]
      exact ⟨fun hh => absurd hh h, fun hh => absurd (ih.2 fun k hk hkt => hh k (by omega) hkt) h⟩
/-- One team wins all its matches, another one loses all its other ones. -/
def winR (k t : Int) (L : List Pr) : List Int := L.map fun m => if m.a = k then 2 else if m.b = k then 0 else if m.a = t then 0 else 2
theorem winR_gt {k t : Int} {L : List Pr} {u : Nat} (h : u < L.length) : gt (winR k t L) u = if (gt L u).a = k then 2 else if (gt L u).b = k then 0 else if (gt L u).a = t then 0 else 2 := by
  rw [gt_eq _ _ (by simpa [winR] using h), gt_eq _ _ h]
  simp [winR]
theorem win_k {P : List Int} {L : List Pr} (g : ROK P L) {k : Nat} {t : Int} : ∀ u, u ≤ L.length → gt (playN P L (winR k t L) u) k = mostN P L k u
  | 0, _ => by rw [playN, mostN]; rfl
  | u + 1, h => by
    have ih := win_k g (k := k) (t := t) u (by omega)
    have e := g.ed u (by omega)
    rw [play_step g _ (by omega), ih, mostN, winR_gt (by omega)]
    by_cases ha : (gt L u).a = k <;> by_cases hb : (gt L u).b = k
    · omega
    · rw [if_pos ha, if_pos ha, if_neg hb, if_pos (.inl ha)]; omega
    · rw [if_neg ha, if_neg ha, if_pos hb, if_pos hb, if_pos (.inr hb)]; omega
    · rw [if_neg ha, if_neg hb, if_neg (by omega)]; omega
theorem win_t {P : List Int} {L : List Pr} (g : ROK P L) {k : Nat} {t : Int} (t0 : 0 ≤ t) (hkt : (k : Int) ≠ t) : ∀ u, u ≤ L.length → gt (playN P L (winR k t L) u) t.toNat = gt P t.toNat
  | 0, _ => rfl
  | u + 1, h => by
    have ih := win_t g t0 hkt u (by omega)
    have e := g.ed u (by omega)
    rw [play_step g _ (by omega), ih, winR_gt (by omega)]
    repeat' split
    all_goals omega
theorem play_most {P : List Int} {L : List Pr} (g : ROK P L) {R : List Int} (hl : R.length = L.length) (hr : resOK R) (k : Nat) : ∀ u, u ≤ L.length → gt (playN P L R u) k ≤ mostN P L k u := fun u hu => by
  have := play_goal g hl hr (t := (k : Int)) (by omega) u hu
  rwa [Int.toNat_natCast] at this
/-- A team is through, exactly if it is first with all results. -/
theorem thru_all {P : List Int} {L : List Pr} {t : Int} (g : ROK P L) (t0 : 0 ≤ t) (t1 : t < P.length) : passN P L t P.length = -1 ↔ allBe P L t := by
  rw [pass_iff]
  constructor
  · intro h R h1 h2 k hk
    by_cases hkt : (k : Int) = t
    · rw [show k = t.toNat by omega]; exact Int.le_refl _
    · have a := play_most g h1 h2 k L.length (Nat.le_refl _)
      have b := play_up g h1 h2 t.toNat L.length (Nat.le_refl _)
      have c := h k hk hkt
      omega
  · intro h k hk hkt
    have a := h (winR k t L) (by simp [winR]) (fun i hi => by
      rw [winR_gt (by simpa [winR] using hi)]
      split
      · omega
      split
      · omega
      split <;> omega) k hk
    rw [win_k g L.length (Nat.le_refl _), win_t g t0 hkt L.length (Nat.le_refl _)] at a
    exact a
open Classical in
noncomputable def canB (P : List Int) (L : List Pr) (t : Int) : Bool := decide (canBe P L t)
open Classical in
noncomputable def allB (P : List Int) (L : List Pr) (t : Int) : Bool := decide (allBe P L t)
theorem canB_iff (P : List Int) (L : List Pr) (t : Int) : canB P L t = true ↔ canBe P L t := by
  unfold canB
  exact @decide_eq_true_iff _ (Classical.propDecidable _)
theorem allB_iff (P : List Int) (L : List Pr) (t : Int) : allB P L t = true ↔ allBe P L t := by
  unfold allB
  exact @decide_eq_true_iff _ (Classical.propDecidable _)
end Go.Proofs.Ytdmeioppkannlaa
end
section
set_option linter.unusedVariables false
set_option linter.unusedSimpArgs false
namespace Go.Proofs.Ytdmeioppkannlaa
open Go Go.Am

def wiW (W : List Int) (j : Nat) : Int := if j < W.length then gt W j % 3 else 0
theorem wiW_rng (W : List Int) (j : Nat) : 0 ≤ wiW W j ∧ wiW W j ≤ 2 := by unfold wiW; split <;> omega
def plA (Q : List Pr) (W : List Int) (j : Nat) : Pl := ⟨(gt Q j).a, (gt Q j).b, 0, 0, 0, 0, wiW W j, false⟩
def plN (Q : List Pr) (W : List Int) (i : Nat) : List Pl := (List.range i).map (plA Q W)
def xW (W : List Int) (j : Nat) : Int := if wiW W j = 0 then 1 else if wiW W j = 1 then 2 else 0
theorem xW_rng (W : List Int) (j : Nat) : 0 ≤ xW W j ∧ xW W j ≤ 2 := by unfold xW; split <;> (try split) <;> omega
theorem plN_len (Q : List Pr) (W : List Int) (i : Nat) : (plN Q W i).length = i := by simp [plN]
theorem plN_succ (Q : List Pr) (W : List Int) (i : Nat) : plN Q W (i + 1) = plN Q W i ++ [plA Q W i] := by simp [plN, List.range_succ]
/-- Matches of n teams, at most fifteen. -/
structure SQ (n : Int) (Q : List Pr) : Prop where
  n2 : 2 ≤ n
  n6 : n ≤ 6
  l1 : 0 < Q.length
  l15 : Q.length ≤ 15
  ed : ∀ i, i < Q.length → 0 ≤ (gt Q i).a ∧ (gt Q i).a < n ∧ 0 ≤ (gt Q i).b ∧ (gt Q i).b < n ∧ (gt Q i).a ≠ (gt Q i).b
section
variable {n : Int} {Q : List Pr} {W : List Int} {i : Nat}
theorem plE_ok (S : SQ n Q) {j : Nat} (hj : j < Q.length) : plE n (plA Q W j) = 0 := by
  have h1 := S.ed j hj
  have h2 := wiW_rng W j
  exact plE_0 (by simp only [plA]; omega) (by simp only [plA]; omega) (by simp only [plA]; omega) (fun h => by simp [plA] at h)
theorem ch_ok (S : SQ n Q) (hi : i ≤ Q.length) : chS n (plN Q W i) = 0 := by
  have h2 := S.n2
  have h6 := S.n6
  have hl := S.l15
  refine chS_all.2 ⟨by omega, by rw [plN_len]; omega, fun p hp => ?_⟩
  obtain ⟨j, hj, rfl⟩ := List.mem_map.1 hp
  rw [List.mem_range] at hj
  exact plE_ok S (by omega)
theorem std_step (t : Int) : stdS (plN Q W (i + 1)) t = upS t (stdS (plN Q W i) t) (plA Q W i) := by
  rw [plN_succ, stdS, List.foldl_append]; rfl
theorem upS_pt (t : Int) (s : St) (p : Pl) : (upS t s p).pt = if p.aw = t then (if p.wi = 0 then s.pt + 1 else if p.wi = 2 then s.pt + 2 else s.pt) else if p.ho = t then (if p.wi = 0 then s.pt + 1 else if p.wi = 1 then s.pt + 2 else s.pt) else s.pt := by
  unfold upS
  split
  · rfl
  · split <;> rfl
theorem std_pt (S : SQ n Q) (hi : i < Q.length) (t : Int) : (stdS (plN Q W (i + 1)) t).pt = (stdS (plN Q W i) t).pt + (if (gt Q i).b = t then 2 - xW W i else if (gt Q i).a = t then xW W i else 0) := by
  have h1 := S.ed i hi
  have h2 := wiW_rng W i
  rw [std_step, upS_pt]
  show (if (gt Q i).b = t then (if wiW W i = 0 then _ + 1 else if wiW W i = 2 then _ + 2 else _) else if (gt Q i).a = t then (if wiW W i = 0 then _ + 1 else if wiW W i = 1 then _ + 2 else _) else _) = _
  unfold xW
  repeat' split
  all_goals omega
theorem row_std {l : List Pl} (h : chS n l = 0) {u : Nat} (hu : u < (tabS n l).length) : gz (tabS n l) u = stdS l (gz (tabS n l) u).tm := by
  obtain ⟨_, h4, hpl⟩ := chS_z h
  have hm : gz (tabS n l) u ∈ stds n.toNat l := by
    rw [tabS_y h] at hu ⊢
    exact (tbS_perm (tab_ok h).1).mem_iff.1 (by rw [gz_get hu]; exact List.getElem_mem _)
  obtain ⟨t, ht, he⟩ := List.mem_map.1 hm
  have hs := stdS_inv hpl t l.length (Nat.le_refl _)
  rw [List.take_length] at hs
  rw [← he, hs.1]
theorem row_ex {l : List Pl} (h : chS n l = 0) {t : Nat} (ht : t < n.toNat) : ∃ j, j < (tabS n l).length ∧ (gz (tabS n l) j).tm = t := by
  obtain ⟨_, h4, hpl⟩ := chS_z h
  have hs := stdS_inv hpl t l.length (Nat.le_refl _)
  rw [List.take_length] at hs
  have hm : stdS l t ∈ tabS n l := by
    rw [tabS_y h]
    exact (tbS_perm (tab_ok h).1).mem_iff.2 (List.mem_map.2 ⟨t, List.mem_range.2 ht, rfl⟩)
  obtain ⟨j, hj, he⟩ := List.mem_iff_getElem.1 hm
  exact ⟨j, hj, by rw [gz_get hj, he, hs.1]⟩
theorem pts_gt {l : List Pl} (h : chS n l = 0) : ∀ u, u ≤ (tabS n l).length → ∀ t : Nat, t < n.toNat → gt (ptsN n.toNat (tabS n l) u) t = (stdS l t).pt ∨ ∀ j, j < u → (gz (tabS n l) j).tm ≠ t
  | 0, _, t, ht => .inr fun j hj => by omega
  | u + 1, hu, t, ht => by
    have hr := (tab_row rfl h).2.2 u (by omega)
    have hs := row_std h (u := u) (by omega)
    rw [ptsN, gt_set _ _ _ _ (by rw [pts_len]; omega)]
    by_cases hk : (gz (tabS n l) u).tm.toNat = t
    · left
      rw [show (gz (tabS n l) u).tm = (t : Int) by omega] at hs
      rw [if_pos hk, hs]
    · rw [if_neg hk]
      rcases pts_gt h u (by omega) t ht with h1 | h1
      · exact .inl h1
      · refine .inr fun j hj => ?_
        by_cases hju : j = u
        · subst hju; omega
        · exact h1 j (by omega)
theorem ofP_len (n : Int) (l : List Pl) : (ofP n l).length = n.toNat := pts_len _ _ _
theorem ofP_gt {l : List Pl} (h : chS n l = 0) {t : Nat} (ht : t < n.toNat) : gt (ofP n l) t = (stdS l t).pt := by
  rcases pts_gt h _ (Nat.le_refl _) t ht with h1 | h1
  · exact h1
  · obtain ⟨j, hj, he⟩ := row_ex h ht
    exact absurd he (h1 j hj)
theorem ofP_step (S : SQ n Q) (hi : i < Q.length) : ofP n (plN Q W (i + 1)) = step1 (ofP n (plN Q W i)) (gt Q i) (xW W i) := by
  have h1 := S.ed i hi
  have c1 := ch_ok S (W := W) (i := i + 1) hi
  have c0 := ch_ok S (W := W) (i := i) (by omega)
  refine ext_gt (by rw [ofP_len, step1_len, ofP_len]) fun t ht => ?_
  rw [ofP_len] at ht
  rw [ofP_gt c1 ht, std_pt S hi, ← ofP_gt c0 ht]
  unfold step1
  rw [gt_set _ _ _ _ (by rw [List.length_set, ofP_len]; omega), gt_set _ _ _ _ (by rw [ofP_len]; omega), gt_set _ _ _ _ (by rw [ofP_len]; omega)]
  by_cases hb : (gt Q i).b = (t : Int)
  · have hb' : (gt Q i).b.toNat = t := by omega
    have hab : ¬ (gt Q i).a.toNat = (gt Q i).b.toNat := by omega
    rw [if_pos hb, if_pos hb', if_neg hab, hb']
  · have hb' : ¬ (gt Q i).b.toNat = t := by omega
    rw [if_neg hb, if_neg hb']
    by_cases ha : (gt Q i).a = (t : Int)
    · have ha' : (gt Q i).a.toNat = t := by omega
      rw [if_pos ha, if_pos ha', ha']
    · have ha' : ¬ (gt Q i).a.toNat = t := by omega
      rw [if_neg ha, if_neg ha']; omega
theorem pts_rng (S : SQ n Q) (hi : i ≤ Q.length) {t : Nat} (ht : t < n.toNat) : 0 ≤ gt (ofP n (plN Q W i)) t ∧ gt (ofP n (plN Q W i)) t ≤ 800 := by
  have c0 := ch_ok S (W := W) (i := i) hi
  obtain ⟨_, h4, hpl⟩ := chS_z c0
  have hl := S.l15
  rw [ofP_gt c0 ht]
  have hs := stdS_inv hpl t _ (Nat.le_refl _)
  rw [List.take_length, plN_len] at hs
  unfold StI at hs
  omega
theorem drop_gt' {j : Nat} : gt (Q.drop i) j = gt Q (i + j) := by simp [gt]
theorem rchk_ok (S : SQ n Q) (hi : i ≤ Q.length) : rchkS (ofP n (plN Q W i)) (Q.drop i) = 0 := by
  have h2 := S.n2
  have h6 := S.n6
  have hl := S.l15
  have hp := pairs_len (Q.drop i) (Q.drop i).length
  rw [List.length_drop] at hp
  unfold rchkS
  rw [ofP_len, if_neg (by omega), if_neg, if_neg (by rw [List.length_drop]; omega), if_neg, if_neg (by rw [List.length_drop]; omega)]
  · intro hh
    refine hh (ferr_zero _ fun j hj => ?_)
    rw [List.length_drop] at hj
    have he := S.ed (i + j) (by omega)
    rw [drop_gt']
    exact if_neg (by omega)
  · intro hh
    refine hh (ferr_zero _ fun j hj => ?_)
    have := pts_rng S (W := W) hi hj
    exact if_neg (by omega)
theorem of_ok (S : SQ n Q) (hi : i ≤ Q.length) : ofE n (plN Q W i) (Q.drop i) = 0 ∧ ofA n (plN Q W i) (Q.drop i) = .agg (raceC (ofP n (plN Q W i)) (Q.drop i)) :=
  of_3 rfl (ch_ok S hi) (rchk_ok S hi)
theorem drop_cons (hi : i < Q.length) : Q.drop i = gt Q i :: Q.drop (i + 1) := by
  rw [List.drop_eq_getElem_cons hi, gt_eq _ _ hi]
theorem can_back (S : SQ n Q) (hi : i < Q.length) {t : Int} (h : canBe (ofP n (plN Q W (i + 1))) (Q.drop (i + 1)) t) : canBe (ofP n (plN Q W i)) (Q.drop i) t := by
  have hx := xW_rng W i
  rw [drop_cons hi, can_cons]
  refine ⟨(xW W i).toNat, by omega, ?_⟩
  rw [show ((xW W i).toNat : Int) = xW W i by omega, ← ofP_step S hi]
  exact h
theorem all_fwd (S : SQ n Q) (hi : i < Q.length) {t : Int} (h : allBe (ofP n (plN Q W i)) (Q.drop i) t) : allBe (ofP n (plN Q W (i + 1))) (Q.drop (i + 1)) t := by
  have hx := xW_rng W i
  rw [drop_cons hi, all_cons] at h
  have := h (xW W i).toNat (by omega)
  rwa [show ((xW W i).toNat : Int) = xW W i by omega, ← ofP_step S hi] at this
/-- What is known of the teams ahead of a round of questions. -/
def Inv (n : Int) (Q : List Pr) (W : List Int) (i : Nat) (Bo Bt : List Bool) : Prop :=
  Bo.length = n.toNat ∧ Bt.length = n.toNat ∧ ∀ t : Nat, t < n.toNat → (gt Bo t = true → ¬ canBe (ofP n (plN Q W i)) (Q.drop i) t) ∧ (gt Bt t = true → allBe (ofP n (plN Q W i)) (Q.drop i) t)
/-- What is known of them after s questions. -/
def Inv2 (n : Int) (Q : List Pr) (W : List Int) (i s : Nat) (Bo Bt : List Bool) : Prop :=
  Bo.length = n.toNat ∧ Bt.length = n.toNat ∧ ∀ t : Nat, t < n.toNat → (t < s → gt Bo t = !canB (ofP n (plN Q W i)) (Q.drop i) t ∧ gt Bt t = allB (ofP n (plN Q W i)) (Q.drop i) t) ∧
    (s ≤ t → (gt Bo t = true → ¬ canBe (ofP n (plN Q W i)) (Q.drop i) t) ∧ (gt Bt t = true → allBe (ofP n (plN Q W i)) (Q.drop i) t))
theorem gt_repF (N t : Nat) : gt (List.replicate N false) t = false := by
  simp only [gt, List.getD_eq_getElem?_getD, List.getElem?_replicate]
  split <;> rfl
theorem inv_0 : Inv n Q W 0 (List.replicate n.toNat false) (List.replicate n.toNat false) :=
  ⟨by simp, by simp, fun t ht => ⟨fun h => (by rw [gt_repF] at h; cases h), fun h => (by rw [gt_repF] at h; cases h)⟩⟩
theorem inv_start {Bo Bt : List Bool} (h : Inv n Q W i Bo Bt) : Inv2 n Q W i 0 Bo Bt :=
  ⟨h.1, h.2.1, fun t ht => ⟨fun h0 => by omega, fun _ => h.2.2 t ht⟩⟩
theorem inv2_step {s : Nat} {Bo Bt : List Bool} (h : Inv2 n Q W i s Bo Bt) (hs : s < n.toNat) :
    Inv2 n Q W i (s + 1) (Bo.set s (!canB (ofP n (plN Q W i)) (Q.drop i) s)) (Bt.set s (allB (ofP n (plN Q W i)) (Q.drop i) s)) := by
  refine ⟨by rw [List.length_set]; exact h.1, by rw [List.length_set]; exact h.2.1, fun t ht => ?_⟩
  rw [gt_set _ _ _ _ (by rw [h.1]; exact hs), gt_set _ _ _ _ (by rw [h.2.1]; exact hs)]
  have h3 := h.2.2 t ht
  by_cases e : s = t
  · subst e
    rw [if_pos rfl, if_pos rfl]
    exact ⟨fun _ => ⟨rfl, rfl⟩, fun h0 => by omega⟩
  · rw [if_neg e, if_neg e]
    exact ⟨fun h0 => h3.1 (by omega), fun h0 => h3.2 (by omega)⟩
theorem inv_next (S : SQ n Q) {s : Nat} {Bo Bt : List Bool} (h : Inv2 n Q W i s Bo Bt) (hs : n.toNat ≤ s) (hi : i < Q.length) : Inv n Q W (i + 1) Bo Bt := by
  refine ⟨h.1, h.2.1, fun t ht => ?_⟩
  obtain ⟨h1, h2⟩ := (h.2.2 t ht).1 (by omega)
  refine ⟨fun hb hc => ?_, fun hb => ?_⟩
  · rw [h1, (canB_iff _ _ _).2 (can_back S hi hc)] at hb
    cases hb
  · rw [h2, allB_iff] at hb
    exact all_fwd S hi hb
theorem inv_pt {s : Nat} {Bo Bt : List Bool} (h : Inv2 n Q W i s Bo Bt) (hs : s < n.toNat) : (gt Bo s = true → canB (ofP n (plN Q W i)) (Q.drop i) s = false) ∧ (gt Bt s = true → allB (ofP n (plN Q W i)) (Q.drop i) s = true) := by
  obtain ⟨h1, h2⟩ := (h.2.2 s hs).2 (Nat.le_refl _)
  refine ⟨fun hb => ?_, fun hb => (allB_iff _ _ _).2 (h2 hb)⟩
  have := h1 hb
  rw [← canB_iff] at this
  simpa using this
/-- At the end: who stands first in the table. -/
theorem fin_row (S : SQ n Q) {s : Nat} {Bo Bt : List Bool} (h : Inv2 n Q W Q.length s Bo Bt) (hs : n.toNat ≤ s) {j : Nat} (hj : j < (tabS n (plN Q W Q.length)).length) :
    (0 ≤ (gz (tabS n (plN Q W Q.length)) j).tm ∧ (gz (tabS n (plN Q W Q.length)) j).tm < n) ∧
    decide ((gz (tabS n (plN Q W Q.length)) j).pt = (gz (tabS n (plN Q W Q.length)) 0).pt) = !gt Bo (gz (tabS n (plN Q W Q.length)) j).tm.toNat ∧
    decide ((gz (tabS n (plN Q W Q.length)) j).pt = (gz (tabS n (plN Q W Q.length)) 0).pt) = gt Bt (gz (tabS n (plN Q W Q.length)) j).tm.toNat := by
  have c0 := ch_ok S (W := W) (i := Q.length) (Nat.le_refl _)
  have h2 := S.n2
  obtain ⟨hz0, hzl, hzt⟩ := tab_row rfl c0
  have hjt := hzt j hj
  have hpt : ∀ u, u < (tabS n (plN Q W Q.length)).length → (gz (tabS n (plN Q W Q.length)) u).pt = gt (ofP n (plN Q W Q.length)) (gz (tabS n (plN Q W Q.length)) u).tm.toNat := by
    intro u hu
    have ht := hzt u hu
    rw [ofP_gt c0 (by omega), show (((gz (tabS n (plN Q W Q.length)) u).tm.toNat : Nat) : Int) = (gz (tabS n (plN Q W Q.length)) u).tm by omega, ← row_std c0 hu]
  have htop : ∀ u, u < (tabS n (plN Q W Q.length)).length → (gz (tabS n (plN Q W Q.length)) u).pt ≤ (gz (tabS n (plN Q W Q.length)) 0).pt := by
    intro u hu
    by_cases hu0 : u = 0
    · subst hu0; exact Int.le_refl _
    have hsr := sortL_sorted (toO (stds n.toNat (plN Q W Q.length)))
    have hl : (sortL (toO (stds n.toNat (plN Q W Q.length)))).length = (tabS n (plN Q W Q.length)).length := by rw [tabS_y c0, tbS, List.length_map]
    have e : ∀ k, (hk : k < (sortL (toO (stds n.toNat (plN Q W Q.length)))).length) → gz (tabS n (plN Q W Q.length)) k = ((sortL (toO (stds n.toNat (plN Q W Q.length))))[k]).1 := by
      intro k hk
      rw [gz_get (by omega)]
      simp [tabS_y c0, tbS]
    have h2 := List.pairwise_iff_getElem.mp hsr 0 u (by omega) (by omega) (by omega)
    unfold cmO at h2
    rw [← e 0 (by omega), ← e u (by omega), cmS_le] at h2
    omega
  have hfirst : canBe (ofP n (plN Q W Q.length)) [] (gz (tabS n (plN Q W Q.length)) j).tm ↔ (gz (tabS n (plN Q W Q.length)) j).pt = (gz (tabS n (plN Q W Q.length)) 0).pt := by
    rw [can_nil, ← hpt j hj, ofP_len]
    constructor
    · intro hh
      have h0 := hzt 0 (by omega)
      have := hh (gz (tabS n (plN Q W Q.length)) 0).tm.toNat (by omega)
      rw [← hpt 0 (by omega)] at this
      have := htop j hj
      omega
    · intro hh t ht
      obtain ⟨u, hu, he⟩ := row_ex c0 ht
      have h3 := htop u hu
      rw [hpt u hu, he, Int.toNat_natCast] at h3
      omega
  obtain ⟨h3, h4⟩ := (h.2.2 (gz (tabS n (plN Q W Q.length)) j).tm.toNat (by omega)).1 (by omega)
  rw [show (((gz (tabS n (plN Q W Q.length)) j).tm.toNat : Nat) : Int) = (gz (tabS n (plN Q W Q.length)) j).tm by omega, List.drop_length] at h3 h4
  refine ⟨hjt, ?_, ?_⟩
  · rw [h3, Bool.not_not, Bool.eq_iff_iff, decide_eq_true_eq, canB_iff, hfirst]
  · rw [h4, Bool.eq_iff_iff, decide_eq_true_eq, allB_iff, ← hfirst, all_nil, can_nil]
end
end Go.Proofs.Ytdmeioppkannlaa
end
section
set_option linter.unusedVariables false
set_option linter.unusedSimpArgs false
namespace Go.Proofs.Ytdmeioppkannlaa
open Go Go.Am

structure Fx where
  (r h a : Int)
instance : Inhabited Fx := ⟨⟨0, 0, 0⟩⟩
abbrev fxC (x : Fx) : List AV := [AV.i x.r, AV.i x.h, AV.i x.a]
def flatF (l : List Fx) : List AV := (l.map fxC).flatten
abbrev fxsAV (l : List Fx) : AV := .sl l.length (flatF l)
theorem flatF_len (l : List Fx) : (flatF l).length = l.length * 3 := by
  induction l with
  | nil => rfl
  | cons s l ih => unfold flatF at ih ⊢; rw [List.map_cons, List.flatten_cons, List.length_append, ih]; simp; omega
theorem flatF_get : ∀ (l : List Fx) (u k : Nat), u < l.length → k < 3 → (flatF l)[u * 3 + k]? = (fxC (gt l u))[k]?
  | [], u, k, h, _ => by simp at h
  | s :: l, 0, k, _, hk => by
    unfold flatF
    rw [List.map_cons, List.flatten_cons, Nat.zero_mul, Nat.zero_add, List.getElem?_append_left (by simpa using hk)]
    rfl
  | s :: l, u + 1, k, h, hk => by
    have ih := flatF_get l u k (by simpa using h) hk
    unfold flatF at ih ⊢
    rw [List.map_cons, List.flatten_cons, List.getElem?_append_right (by simp; omega)]
    rw [show (u + 1) * 3 + k - (fxC s).length = u * 3 + k by simp; omega, ih]
    rfl
theorem ld_fx (l : List Fx) (u : Nat) (h : u < l.length) : partL { size := 3, bytes := 24, agg := true, k := TyK.struct [(0, 3), (1, 3), (2, 3)], zero := some [.int .i64 0, .int .i64 0, .int .i64 0] } (flatF l) (u * 3) = some (.agg (fxC (gt l u))) := by
  rw [pl30 _ _ (by rw [flatF_len]; omega)]
  exact congrArg (fun c => some (AV.agg c)) (cut_of rfl fun k hk => flatF_get l u k h hk)
def prF (f : Fx) : Pr := ⟨f.h, f.a⟩
theorem gt_prF {R : List Fx} {u : Nat} (h : u < R.length) : gt (R.map prF) u = prF (gt R u) := by
  rw [gt_eq _ _ (by rw [List.length_map]; exact h), gt_eq _ _ h, List.getElem_map]
theorem take_next {Q : List Pr} {u : Nat} (h : u < Q.length) : Q.take (u + 1) = Q.take u ++ [gt Q u] := by
  rw [List.take_add_one, List.getElem?_eq_getElem h, gt_eq _ _ h]; rfl
theorem outT_new {b u m : Nat} {H H' : Heap} {Q : List Pr} {c : Pr} (g : MGrew H b H' (flatQ (Q.take u ++ [c]))) (hc : c = gt Q u) (hu : u < Q.length) (hm : m = (Q.take u).length + 1) : OutP 0 H' (.own 2 H.length 0 m) (Q.take (u + 1)) := by
  subst hc hm
  rw [take_next hu]
  exact .inr ⟨by simp, H.length, by simp, Nat.zero_le _, g.new⟩
theorem outT_end {u : Nat} {H : Heap} {o : AV} {Q : List Pr} (h : OutP 0 H o (Q.take u)) (hu : Q.length ≤ u) (h0 : 0 < Q.length) : ∃ b, o = .own 2 b 0 Q.length ∧ hget H b = some (flatQ Q) := by
  rw [List.take_of_length_le hu] at h
  rcases h with ⟨h1, _⟩ | ⟨_, b, h1, _, h3⟩
  · subst h1; simp at h0
  · exact ⟨b, h1, h3⟩
theorem slO (b i n : Nat) (h : i ≤ n) : sliceV Try.prog 28 (.own 2 b 0 n) (some (AV.i (i : Int))) none = some (.own 2 b (i * 2) (n - i)) := by
  simp only [sliceV, tk28, ty31, bound]
  rw [if_pos ⟨trivial, by omega, by omega, by omega⟩]
  simp
abbrev wsAV (W : List Int) : AV := .sl W.length (W.map fun x => .v (.int .u8 x))
theorem ws_at (W : List Int) (i : Nat) (h : i < W.length) : (W.map fun x => AV.v (.int .u8 x))[i]? = some (.v (.int .u8 (gt W i))) := by
  rw [List.getElem?_map, List.getElem?_eq_getElem h, gt_eq _ _ h]; rfl
theorem bldP (x y : Int) : buildV Try.prog 46 [(0, AV.i x), (1, AV.i y)] = some (.agg (plC ⟨x, y, 0, 0, 0, 0, 0, false⟩)) := by kernel_rfl
theorem pr_at0 (Q : List Pr) (i : Nat) (h : i < Q.length) : (flatQ Q)[i * 2]? = some (AV.i (gt Q i).a) := flatQ_get Q i 0 h (by omega)
theorem pr_at1 (Q : List Pr) (i : Nat) (h : i < Q.length) : (flatQ Q)[i * 2 + 1]? = some (AV.i (gt Q i).b) := flatQ_get Q i 1 h (by omega)
theorem OutL.but {base n : Nat} {H H' : Heap} {o : AV} {ls : List Pl} (h : OutL base H o ls n) (hk : ∀ b k, base ≤ b → hget H b = some k → hget H' b = hget H b) : OutL base H' o ls n := by
  rcases h with h | ⟨b, h1, h2, h3, h4⟩
  · exact .inl h
  · exact .inr ⟨b, h1, h2, (hk b _ h2 h3).trans h3, h4⟩
theorem apL2 {base lim n b2 : Nat} {H : Heap} {o : AV} {ls : List Pl} {p : Pl} (h : OutL base H o ls n) (hb : lim ≤ base) (hB : base ≤ H.length) (h2 : hget H b2 = some (plC p)) (hn : n ≤ 1000) : ∃ b, base ≤ b ∧ ∃ H', appendV Try.prog lim H 32 o (.own 8 b2 0 1) = some (.own 8 H.length 0 (n + 1), H') ∧ MGrew H b H' (flatP (ls ++ [p])) := by
  have hs : srcCells H 8 (.own 8 b2 0 1) = some (1, plC p) := by simp only [srcCells, h2]; rfl
  rcases h with ⟨h1, h3, h4⟩ | ⟨b, h1, h3, h4, h5, h6⟩
  · subst h1 h3 h4
    refine ⟨H.length, hB, _, ?_, MGrew.ofNew _ (MNew.of _ _)⟩
    simp only [appendV, tk32, ty46, hs]
    rw [if_pos ⟨rfl, by decide, rfl⟩, if_pos ⟨by omega, by omega⟩]
    rfl
  · subst h1
    refine ⟨b, h3, hset H b none ++ [some (flatP (ls ++ [p]))], ?_, MGrew.of _ _ _⟩
    simp only [appendV, tk32, ty46, hs]
    rw [if_pos ⟨rfl, by decide, rfl⟩]
    simp only [h4]
    rw [if_pos ⟨by omega, trivial, by rw [flatP_len]; omega, by omega, by omega⟩, flatP_app, List.drop_zero, List.take_of_length_le (by rw [flatP_len]; omega)]
    rfl
theorem st_pt0 (zs : List St) (h : 0 < zs.length) : (flatZ zs)[5]? = some (AV.i (gz zs 0).pt) := by
  have := flatZ_get zs 0 5 h (by omega)
  rw [Nat.zero_mul, Nat.zero_add] at this
  rw [this]; rfl
theorem win_t' {Q : List Pr} {W : List Int} {i : Nat} (h : i < W.length) : plC ⟨(gt Q i).a, (gt Q i).b, 0, 0, 0, 0, gt W i % 3, false⟩ = plC (plA Q W i) := by
  unfold plA wiW; rw [if_pos h]
theorem win_f' {Q : List Pr} {W : List Int} {i : Nat} (h : ¬ i < W.length) : plC ⟨(gt Q i).a, (gt Q i).b, 0, 0, 0, 0, 0, false⟩ = plC (plA Q W i) := by
  unfold plA wiW; rw [if_neg h]
attribute [go_sem] ld_fx bldP
end Go.Proofs.Ytdmeioppkannlaa
end
section
set_option linter.unusedVariables false
set_option maxRecDepth 100000
namespace Go.Proofs.Ytdmeioppkannlaa
open Go Go.Am
theorem awakeS (lim : Nat) (H : Heap) : acall sig 200 lim 4 [] H = some (.v (.bool true), H) := by kernel_rfl
def rob2 : List Fx := [⟨0, 0, 1⟩]
theorem rounds2 (lim : Nat) : acall sig 200 lim 5 [AV.i 2, .v (.bool false)] [] = some (.tup [fxsAV rob2, AV.i 0], []) := by kernel_rfl
theorem rob2_ok : SQ 2 (rob2.map prF) := ⟨by decide, by decide, by decide, by decide, by decide⟩
def rob3 : List Fx := [⟨0, 1, 2⟩, ⟨1, 2, 0⟩, ⟨2, 0, 1⟩]
theorem rounds3 (lim : Nat) : acall sig 200 lim 5 [AV.i 3, .v (.bool false)] [] = some (.tup [fxsAV rob3, AV.i 0], []) := by kernel_rfl
theorem rob3_ok : SQ 3 (rob3.map prF) := ⟨by decide, by decide, by decide, by decide, by decide⟩
def rob4 : List Fx := [⟨0, 0, 3⟩, ⟨0, 1, 2⟩, ⟨1, 3, 1⟩, ⟨1, 2, 0⟩, ⟨2, 2, 3⟩, ⟨2, 0, 1⟩]
theorem rounds4 (lim : Nat) : acall sig 200 lim 5 [AV.i 4, .v (.bool false)] [] = some (.tup [fxsAV rob4, AV.i 0], []) := by kernel_rfl
theorem rob4_ok : SQ 4 (rob4.map prF) := ⟨by decide, by decide, by decide, by decide, by decide⟩
def rob5 : List Fx := [⟨0, 1, 4⟩, ⟨0, 3, 2⟩, ⟨1, 2, 0⟩, ⟨1, 4, 3⟩, ⟨2, 3, 1⟩, ⟨2, 0, 4⟩, ⟨3, 4, 2⟩, ⟨3, 1, 0⟩, ⟨4, 0, 3⟩, ⟨4, 2, 1⟩]
theorem rounds5 (lim : Nat) : acall sig 200 lim 5 [AV.i 5, .v (.bool false)] [] = some (.tup [fxsAV rob5, AV.i 0], []) := by kernel_rfl
theorem rob5_ok : SQ 5 (rob5.map prF) := ⟨by decide, by decide, by decide, by decide, by decide⟩
def rob6 : List Fx := [⟨0, 0, 5⟩, ⟨0, 1, 4⟩, ⟨0, 3, 2⟩, ⟨1, 5, 1⟩, ⟨1, 2, 0⟩, ⟨1, 4, 3⟩, ⟨2, 2, 5⟩, ⟨2, 3, 1⟩, ⟨2, 0, 4⟩, ⟨3, 5, 3⟩, ⟨3, 4, 2⟩, ⟨3, 1, 0⟩, ⟨4, 4, 5⟩, ⟨4, 0, 3⟩, ⟨4, 2, 1⟩]
theorem rounds6 (lim : Nat) : acall sig 200 lim 5 [AV.i 6, .v (.bool false)] [] = some (.tup [fxsAV rob6, AV.i 0], []) := by kernel_rfl
theorem rob6_ok : SQ 6 (rob6.map prF) := ⟨by decide, by decide, by decide, by decide, by decide⟩
theorem rounds_all (n : Nat) (h : 2 ≤ n ∧ n ≤ 6) : ∃ R : List Fx, (∀ lim : Nat, acall sig 200 lim 5 [AV.i (n : Nat), .v (.bool false)] [] = some (.tup [fxsAV R, AV.i 0], [])) ∧ SQ (n : Nat) (R.map prF) := by
  obtain rfl | rfl | rfl | rfl | rfl : n = 2 ∨ n = 3 ∨ n = 4 ∨ n = 5 ∨ n = 6 := by omega
  · exact ⟨rob2, rounds2, rob2_ok⟩
  · exact ⟨rob3, rounds3, rob3_ok⟩
  · exact ⟨rob4, rounds4, rob4_ok⟩
  · exact ⟨rob5, rounds5, rob5_ok⟩
  · exact ⟨rob6, rounds6, rob6_ok⟩
end Go.Proofs.Ytdmeioppkannlaa
end
section
set_option linter.unusedSimpArgs false
set_option linter.unusedVariables false
set_option maxHeartbeats 4000000
set_option maxRecDepth 20000
namespace Go.Proofs.Ytdmeioppkannlaa
open Go Go.Am
abbrev lc_pair_ok (a b c : AV) : Env := [(0,a),(1,b),(2,c)]
theorem pair_ok (lim : Nat) (H : Heap) (p : Pr) :
    ACall sig lim 26 [.agg (prC p)] H fun r H' => r = .agg (prC (norm p)) ∧ H' = H := by
 refine ACall_pure (fa := fa26) rfl rfl rfl rfl ?_
 have tr : ∀ a0 : AV, env0 fa26.keep [a0] = lc_pair_ok a0 .any .any := fun a0 => rfl
 refine W_to (tr _) ?_; clear tr
 refine at_seq rfl ?_
 refine rg rfl ?_
 refine R_box rfl (by simp (disch := first | omega | (simp only [List.length_map, List.length_append, List.length_set, List.length_cons, List.length_nil]; omega)) only [go_sem, ↓reduceIte, Nat.reduceEqDiff, reduceCtorEq] <;> rfl) rfl rfl ?_
 refine R_alloc (by simp (disch := first | omega | (simp only [List.length_map, List.length_append, List.length_set, List.length_cons, List.length_nil]; omega)) only [go_sem, ↓reduceIte, Nat.reduceEqDiff, reduceCtorEq] <;> rfl) rfl (by simp only [List.map_cons, List.map_nil]; rfl) ?_
 have tr : ∀ a b c d e : AV, let l := lc_pair_ok a b c; trim ((2,e)::(1,d)::l) l = lc_pair_ok a d e := by intros; rfl
 refine R_nil (tr ..) ?_; clear tr
 refine then_n ?_
 refine at_seq rfl ?_
 refine rg rfl ?_
 refine Rq ?_
 refine Rq ?_
 refine Rq ?_
 refine Rq ?_
 refine Rq ?_
 refine Rq ?_
 refine Rq ?_
 refine Rq ?_
 refine Rq ?_
 refine Rq ?_
 refine Rq ?_
 refine R_store ty31 (by simp (disch := first | omega | (simp only [List.length_map, List.length_append, List.length_set, List.length_cons, List.length_nil]; omega)) only [go_sem, ↓reduceIte, Nat.reduceEqDiff, reduceCtorEq] <;> rfl) (by simp (disch := first | omega | (simp only [List.length_map, List.length_append, List.length_set, List.length_cons, List.length_nil]; omega)) only [go_sem, ↓reduceIte, Nat.reduceEqDiff, reduceCtorEq] <;> rfl) (by simp (disch := first | omega | (simp only [List.length_map, List.length_append, List.length_set, List.length_cons, List.length_nil]; omega)) only [go_sem, ↓reduceIte, Nat.reduceEqDiff, reduceCtorEq] <;> rfl) (by simp) (by rfl) (by simp (disch := first | omega | (simp only [List.length_map, List.length_append, List.length_set, List.length_cons, List.length_nil]; omega)) only [go_sem, ↓reduceIte, Nat.reduceEqDiff, reduceCtorEq] <;> rfl) ?_
 have tr : ∀ a b c d e f g h i j k m n o : AV, let l := lc_pair_ok a b c; trim ((13,o)::(12,n)::(11,m)::(10,k)::(9,j)::(8,i)::(7,h)::(6,g)::(5,f)::(4,e)::(3,d)::l) l = lc_pair_ok a b c := by intros; rfl
 refine R_nil (tr ..) ?_; clear tr
 refine then_n ?_
 refine at_ret rfl ?_
 refine fin_pure (rs := [.cell 2 31]) rfl (by simp only [go_sem, ↓reduceIte, Nat.reduceEqDiff]; rfl) (by simp only [go_sem, ↓reduceIte, Nat.reduceEqDiff]; rfl) ?_
 exact ⟨rfl, rfl⟩

abbrev lc_index_ok (a b c d e f g h i : AV) : Env := [(0,a),(1,b),(3,c),(4,d),(5,e),(7,f),(8,g),(9,h),(16,i)]
theorem index_ok (lim : Nat) (H : Heap) (b : Nat) (m : List Pr) (p : Pr) (qb : hget H b = some (flatQ m)) (hm : m.length ≤ 1000) :
    ACall sig lim 30 [.own 2 b 0 m.length, .agg (prC p)] H fun r H' => (∃ k : Int, r = AV.i k ∧ ((0 ≤ k ∧ k < m.length ∧ gt m k.toNat = p) ∨ (k = -1 ∧ p ∉ m))) ∧ H' = H := by
 have lb := hget_lt qb
 refine ACall_pure (fa := fa30) rfl rfl rfl rfl ?_
 have tr : ∀ a0 a1 : AV, env0 fa30.keep [a0, a1] = lc_index_ok a0 a1 .any .any .any .any .any .any .any := fun a0 a1 => rfl
 refine W_to (tr _ _) ?_; clear tr
 refine at_seq rfl ?_
 refine rg rfl ?_
 refine R_box rfl (by simp (disch := first | omega | (simp only [List.length_map, List.length_append, List.length_set, List.length_cons, List.length_nil]; omega)) only [go_sem, ↓reduceIte, Nat.reduceEqDiff, reduceCtorEq, qb] <;> rfl) rfl rfl ?_
 refine Rq ?_
 have tr : ∀ a b c d e f g h i j k : AV, let l := lc_index_ok a b c d e f g h i; trim ((4,k)::(3,j)::l) l = lc_index_ok a b j k e f g h i := by intros; rfl
 refine R_nil (tr ..) ?_; clear tr
 refine then_n ?_
 refine at_seq rfl ?_
 refine at_seq rfl ?_
 refine rg rfl ?_
 refine Rq ?_
 refine Rq ?_
 refine Rq ?_
 have tr : ∀ a b c d e f g h i j k m : AV, let l := lc_index_ok a b c d e f g h i; trim ((8,m)::(7,k)::(6,j)::l) l = lc_index_ok a b c d e k m h i := by intros; rfl
 refine R_nil (tr ..) ?_; clear tr
 refine then_n ?_
 refine at_block rfl ?_
 refine loop_n rfl (fun mm kv H' => ∃ u : Nat, ∃ x4 x5 x9 x16 : AV, (kv = [(4, x4), (5, x5), (8, AV.i u), (9, x9), (16, x16)]) ∧ (mm = m.length - u) ∧ (H' = H ++ [some (prC p)]) ∧ (u ≤ m.length) ∧ (∀ i, i < u → gt m i ≠ p)) ⟨0, _, _, _, _, rfl, rfl, rfl, by omega, by intro i hi; omega⟩ (by rfl) ?_
 rintro mm kv H' ⟨u, x4, x5, x9, x16, rfl, rfl, rfl, hu, hq⟩
 have tr : ∀ a b c d e f g h i j k m n o : AV, upd (lc_index_ok a b c d e f g h i) [(4,j),(5,k),(8,m),(9,n),(16,o)] = lc_index_ok a b c j k f m n o := by intros; rfl
 refine W_to (tr ..) ?_; clear tr
 refine at_seq rfl ?_
 refine rg rfl ?_
 refine Rq ?_
 have tr : ∀ a b c d e f g h i j : AV, let l := lc_index_ok a b c d e f g h i; trim ((9,j)::l) l = lc_index_ok a b c d e f g j i := by intros; rfl
 refine R_nil (tr ..) ?_; clear tr
 refine then_n ?_
 refine at_seq rfl ?_
 refine cdd (fun h1 => ?_) (fun h1 => ?_)
 ·
  try simp only [decide_eq_true_eq, decide_eq_false_iff_not, Bool.not_eq_true', Bool.not_eq_false', beq_iff_eq, beq_eq_false_iff_ne, ne_eq] at h1
  refine at_skip rfl ?_
  refine then_n ?_
  refine at_seq rfl ?_
  refine at_block rfl ?_
  refine at_seq rfl ?_
  refine rg rfl ?_
  refine Rq ?_
  refine Rq ?_
  have tr : ∀ a b c d e f g h i j k : AV, let l := lc_index_ok a b c d e f g h i; trim ((5,k)::(10,j)::l) l = lc_index_ok a b c d k f g h i := by intros; rfl
  refine R_nil (tr ..) ?_; clear tr
  refine then_n ?_
  refine at_seq rfl ?_
  refine rd rfl rfl ?_
  refine Q_q rfl (by simp (disch := first | omega | (simp only [List.length_map, List.length_append, List.length_set, List.length_cons, List.length_nil]; omega)) only [go_sem, ↓reduceIte, Nat.reduceEqDiff, reduceCtorEq, qb] <;> rfl) ?_
  refine Qq ?_
  refine Qq ?_
  refine Qq ?_
  refine Q_q rfl (by simp (disch := first | omega | (simp only [List.length_map, List.length_append, List.length_set, List.length_cons, List.length_nil]; omega)) only [go_sem, ↓reduceIte, Nat.reduceEqDiff, reduceCtorEq, qb] <;> rfl) ?_
  refine Qq ?_
  refine Q_nil ?_
  have tr : ∀ a b c d e f g h i j k m n o p : AV, let l := lc_index_ok a b c d e f g h i; trim ((16,p)::(15,o)::(14,n)::(13,m)::(12,k)::(11,j)::l) l = lc_index_ok a b c d e f g h p := by intros; rfl
  refine R_nil (tr ..) ?_; clear tr
  refine then_n ?_
  refine cdd (fun h2 => ?_) (fun h2 => ?_)
  ·
   try simp only [decide_eq_true_eq, decide_eq_false_iff_not, Bool.not_eq_true', Bool.not_eq_false', beq_iff_eq, beq_eq_false_iff_ne, ne_eq] at h2
   refine at_seq rfl ?_
   refine rg rfl ?_
   refine Rq ?_
   refine Rq ?_
   have tr : ∀ a b c d e f g h i j k : AV, let l := lc_index_ok a b c d e f g h i; trim ((4,k)::(17,j)::l) l = lc_index_ok a b c k e f g h i := by intros; rfl
   refine R_nil (tr ..) ?_; clear tr
   refine then_n ?_
   refine at_ret rfl ?_
   refine blk_r ?_
   refine then_r ?_
   refine then_r ?_
   refine blk_r ?_
   refine then_r ?_
   refine fpure ?_
   refine ⟨⟨_, rfl, .inl ⟨by omega, by omega, ?_⟩⟩, rfl⟩
   rw [Int.toNat_natCast]
   simp_all
  ·
   try simp only [decide_eq_true_eq, decide_eq_false_iff_not, Bool.not_eq_true', Bool.not_eq_false', beq_iff_eq, beq_eq_false_iff_ne, ne_eq] at h2
   refine at_skip rfl ?_
   refine blk_n ?_
   refine then_n ?_
   refine rg rfl ?_
   refine Rq ?_
   refine Rq ?_
   have tr : ∀ a b c d e f g h i j k : AV, let l := lc_index_ok a b c d e f g h i; trim ((8,k)::(18,j)::l) l = lc_index_ok a b c d e f k h i := by intros; rfl
   refine R_nil (tr ..) ?_; clear tr
   refine then_n ?_
   exact ⟨_, _, ⟨u + 1, _, _, _, _, rfl, rfl, rfl, by omega, by exact all_step hq (fun hh => by simp_all)⟩, by rfl, by omega⟩
 ·
  try simp only [decide_eq_true_eq, decide_eq_false_iff_not, Bool.not_eq_true', Bool.not_eq_false', beq_iff_eq, beq_eq_false_iff_ne, ne_eq] at h1
  refine at_exit rfl ?_
  refine then_x ?_
  refine then_x ?_
  refine blk_x ?_
  refine then_n ?_
  refine at_seq rfl ?_
  refine rg rfl ?_
  refine Rq ?_
  have tr : ∀ a b c d e f g h i j : AV, let l := lc_index_ok a b c d e f g h i; trim ((4,j)::l) l = lc_index_ok a b c j e f g h i := by intros; rfl
  refine R_nil (tr ..) ?_; clear tr
  refine then_n ?_
  refine at_ret rfl ?_
  refine fpure ?_
  refine ⟨⟨_, rfl, .inr ⟨rfl, fun hh => ?_⟩⟩, rfl⟩
  obtain ⟨i, hi, he⟩ := List.mem_iff_getElem.1 hh
  exact hq i (by omega) (by rw [gt_eq _ _ hi]; exact he)

abbrev lc_index_nil (a b c d e f g h i : AV) : Env := [(0,a),(1,b),(3,c),(4,d),(5,e),(7,f),(8,g),(9,h),(16,i)]
theorem index_nil (lim : Nat) (H : Heap) (p : Pr) :
    ACall sig lim 30 [nilP, .agg (prC p)] H fun r H' => (∃ k : Int, r = AV.i k ∧ k = -1) ∧ H' = H := by
 refine ACall_pure (fa := fa30) rfl rfl rfl rfl ?_
 have tr : ∀ a0 a1 : AV, env0 fa30.keep [a0, a1] = lc_index_nil a0 a1 .any .any .any .any .any .any .any := fun a0 a1 => rfl
 refine W_to (tr _ _) ?_; clear tr
 refine at_seq rfl ?_
 refine rg rfl ?_
 refine R_box rfl (by simp (disch := first | omega | (simp only [List.length_map, List.length_append, List.length_set, List.length_cons, List.length_nil]; omega)) only [go_sem, ↓reduceIte, Nat.reduceEqDiff, reduceCtorEq] <;> rfl) rfl rfl ?_
 refine Rq ?_
 have tr : ∀ a b c d e f g h i j k : AV, let l := lc_index_nil a b c d e f g h i; trim ((4,k)::(3,j)::l) l = lc_index_nil a b j k e f g h i := by intros; rfl
 refine R_nil (tr ..) ?_; clear tr
 refine then_n ?_
 refine at_seq rfl ?_
 refine at_seq rfl ?_
 refine rg rfl ?_
 refine Rq ?_
 refine Rq ?_
 refine Rq ?_
 have tr : ∀ a b c d e f g h i j k m : AV, let l := lc_index_nil a b c d e f g h i; trim ((8,m)::(7,k)::(6,j)::l) l = lc_index_nil a b c d e k m h i := by intros; rfl
 refine R_nil (tr ..) ?_; clear tr
 refine then_n ?_
 refine at_block rfl ?_
 refine loop_n rfl (fun mm kv H' => ∃ u : Nat, ∃ x4 x5 x9 x16 : AV, (kv = [(4, x4), (5, x5), (8, AV.i u), (9, x9), (16, x16)]) ∧ (mm = 0) ∧ (H' = H ++ [some (prC p)]) ∧ (u = 0)) ⟨0, _, _, _, _, rfl, rfl, rfl, by rfl⟩ (by rfl) ?_
 rintro mm kv H' ⟨u, x4, x5, x9, x16, rfl, rfl, rfl, hu⟩
 have tr : ∀ a b c d e f g h i j k m n o : AV, upd (lc_index_nil a b c d e f g h i) [(4,j),(5,k),(8,m),(9,n),(16,o)] = lc_index_nil a b c j k f m n o := by intros; rfl
 refine W_to (tr ..) ?_; clear tr
 refine at_seq rfl ?_
 refine rg rfl ?_
 refine Rq ?_
 have tr : ∀ a b c d e f g h i j : AV, let l := lc_index_nil a b c d e f g h i; trim ((9,j)::l) l = lc_index_nil a b c d e f g j i := by intros; rfl
 refine R_nil (tr ..) ?_; clear tr
 refine then_n ?_
 refine at_seq rfl ?_
 refine cdd (fun h1 => ?_) (fun h1 => ?_)
 ·
  try simp only [decide_eq_true_eq, decide_eq_false_iff_not, Bool.not_eq_true', Bool.not_eq_false', beq_iff_eq, beq_eq_false_iff_ne, ne_eq] at h1
  exfalso; omega
 ·
  try simp only [decide_eq_true_eq, decide_eq_false_iff_not, Bool.not_eq_true', Bool.not_eq_false', beq_iff_eq, beq_eq_false_iff_ne, ne_eq] at h1
  refine at_exit rfl ?_
  refine then_x ?_
  refine then_x ?_
  refine blk_x ?_
  refine then_n ?_
  refine at_seq rfl ?_
  refine rg rfl ?_
  refine Rq ?_
  have tr : ∀ a b c d e f g h i j : AV, let l := lc_index_nil a b c d e f g h i; trim ((4,j)::l) l = lc_index_nil a b c j e f g h i := by intros; rfl
  refine R_nil (tr ..) ?_; clear tr
  refine then_n ?_
  refine at_ret rfl ?_
  refine fpure ?_
  exact ⟨⟨_, rfl, rfl⟩, rfl⟩

theorem index_any (lim lo : Nat) (H : Heap) (o : AV) (m : List Pr) (p : Pr) (hO : OutP lo H o m) (hm : m.length ≤ 1000) :
    ACall sig lim 30 [o, .agg (prC p)] H fun r H' => (∃ k : Int, r = AV.i k ∧ ((0 ≤ k ∧ k < m.length ∧ gt m k.toNat = p) ∨ (k = -1 ∧ p ∉ m))) ∧ H' = H := by
  rcases hO with ⟨rfl, rfl⟩ | ⟨h0, b, rfl, h2, h3⟩
  · refine ACall_mono (index_nil lim H p) ?_
    rintro r H' ⟨⟨k, rfl, rfl⟩, rfl⟩
    exact ⟨⟨_, rfl, .inr ⟨rfl, by simp⟩⟩, rfl⟩
  · exact index_ok lim H b m p h3 hm

end Go.Proofs.Ytdmeioppkannlaa
end
section
set_option linter.unusedSimpArgs false
set_option linter.unusedVariables false
set_option maxHeartbeats 4000000
set_option maxRecDepth 20000
namespace Go.Proofs.Ytdmeioppkannlaa
open Go Go.Am
abbrev lc_contains_ok (a b c d : AV) : Env := [(0,a),(1,b),(3,c),(4,d)]
theorem contains_ok (lim lo : Nat) (H : Heap) (o : AV) (m : List Pr) (p : Pr) (hO : OutP lo H o m) (hm : m.length ≤ 1000) :
    ACall sig lim 37 [o, .agg (prC p)] H fun r H' => r = .v (.bool (decide (p ∈ m))) ∧ H' = H := by
 refine ACall_pure (fa := fa37) rfl rfl rfl rfl ?_
 have tr : ∀ a0 a1 : AV, env0 fa37.keep [a0, a1] = lc_contains_ok a0 a1 .any .any := fun a0 a1 => rfl
 refine W_to (tr _ _) ?_; clear tr
 refine at_seq rfl ?_
 refine rg rfl ?_
 refine R_box rfl (by simp (disch := first | omega | (simp only [List.length_map, List.length_append, List.length_set, List.length_cons, List.length_nil]; omega)) only [go_sem, ↓reduceIte, Nat.reduceEqDiff, reduceCtorEq] <;> rfl) rfl rfl ?_
 refine Rq ?_
 have tr : ∀ a b c d e f : AV, let l := lc_contains_ok a b c d; trim ((4,f)::(3,e)::l) l = lc_contains_ok a b e f := by intros; rfl
 refine R_nil (tr ..) ?_; clear tr
 refine then_n ?_
 refine at_seq rfl ?_
 refine rg rfl ?_
 refine Rq ?_
 refine Rq ?_
 refine Rcall ?_
 refine ACall_mono (index_any _ lo _ o m p (hO.mono fun b _ k hk => by rw [hget_low _ _ _ (hget_lt hk)]; exact hk) hm) ?_
 rintro r H6 ⟨⟨k, rfl, hk⟩, rfl⟩
 refine Rq ?_
 refine Rq ?_
 have tr : ∀ a b c d e f g h i : AV, let l := lc_contains_ok a b c d; trim ((4,i)::(8,h)::(7,g)::(6,f)::(5,e)::l) l = lc_contains_ok a b c i := by intros; rfl
 refine R_nil (tr ..) ?_; clear tr
 refine then_n ?_
 refine at_ret rfl ?_
 refine fpure ?_
 refine ⟨?_, rfl⟩
 congr 2
 rw [decide_eq_decide]
 rcases hk with ⟨h1, h2, h3⟩ | ⟨h1, h2⟩
 · exact ⟨fun _ => by rw [← h3, gt_eq _ _ (by omega)]; exact List.getElem_mem _, fun _ => h1⟩
 · exact ⟨fun hh => by omega, fun hh => absurd hh h2⟩

abbrev lc_pairs_ok (a b c d e f g h i j : AV) : Env := [(0,a),(2,b),(3,c),(5,d),(6,e),(7,f),(8,g),(9,h),(10,i),(18,j)]
theorem pairs_ok (lim : Nat) (H : Heap) (L : List Pr) (hL : L.length ≤ 400) :
    ACall sig lim 25 [prsAV L] H fun r H' => r = pairsA L ∧ H' = H := by
 have qx : True := trivial
 have qp : True := trivial
 refine ACall_pure (fa := fa25) rfl rfl rfl rfl ?_
 have tr : ∀ a0 : AV, env0 fa25.keep [a0] = lc_pairs_ok a0 .any .any .any .any .any .any .any .any .any := fun a0 => rfl
 refine W_to (tr _) ?_; clear tr
 refine at_seq rfl ?_
 refine rg rfl ?_
 refine Rq ?_
 have tr : ∀ a b c d e f g h i j k : AV, let l := lc_pairs_ok a b c d e f g h i j; trim ((2,k)::l) l = lc_pairs_ok a k c d e f g h i j := by intros; rfl
 refine R_nil (tr ..) ?_; clear tr
 refine then_n ?_
 refine at_seq rfl ?_
 refine rg rfl ?_
 refine Rq ?_
 have tr : ∀ a b c d e f g h i j k : AV, let l := lc_pairs_ok a b c d e f g h i j; trim ((3,k)::l) l = lc_pairs_ok a b k d e f g h i j := by intros; rfl
 refine R_nil (tr ..) ?_; clear tr
 refine then_n ?_
 refine at_seq rfl ?_
 refine at_seq rfl ?_
 refine rg rfl ?_
 refine Rq ?_
 refine Rq ?_
 refine Rq ?_
 have tr : ∀ a b c d e f g h i j k m n : AV, let l := lc_pairs_ok a b c d e f g h i j; trim ((9,n)::(8,m)::(7,k)::l) l = lc_pairs_ok a b c d e k m n i j := by intros; rfl
 refine R_nil (tr ..) ?_; clear tr
 refine then_n ?_
 refine at_block rfl ?_
 refine loop_n rfl (fun mm kv H' => ∃ u : Nat, ∃ o : AV, ∃ x5 x6 x10 x18 : AV, (kv = [(3, o), (5, x5), (6, x6), (9, AV.i u), (10, x10), (18, x18)]) ∧ (mm = L.length - u) ∧ (H.length ≤ H'.length) ∧ (u ≤ L.length) ∧ (OutP H.length H' o (pairsN L u))) ⟨0, _, _, _, _, _, rfl, rfl, by exact Nat.le_refl _, by omega, by exact .inl ⟨rfl, rfl⟩⟩ (by rfl) ?_
 rintro mm kv HB ⟨u, o, x5, x6, x10, x18, rfl, rfl, hHB, hu, hO⟩
 have tr : ∀ a b c d e f g h i j k m n o p q : AV, upd (lc_pairs_ok a b c d e f g h i j) [(3,k),(5,m),(6,n),(9,o),(10,p),(18,q)] = lc_pairs_ok a b k m n f g o p q := by intros; rfl
 refine W_to (tr ..) ?_; clear tr
 have hpl := pairs_len L u
 refine at_seq rfl ?_
 refine rg rfl ?_
 refine Rq ?_
 have tr : ∀ a b c d e f g h i j k : AV, let l := lc_pairs_ok a b c d e f g h i j; trim ((10,k)::l) l = lc_pairs_ok a b c d e f g h k j := by intros; rfl
 refine R_nil (tr ..) ?_; clear tr
 refine then_n ?_
 refine at_seq rfl ?_
 refine cdd (fun h1 => ?_) (fun h1 => ?_)
 ·
  try simp only [decide_eq_true_eq, decide_eq_false_iff_not, Bool.not_eq_true', Bool.not_eq_false', beq_iff_eq, beq_eq_false_iff_ne, ne_eq] at h1
  refine at_skip rfl ?_
  refine then_n ?_
  refine at_seq rfl ?_
  refine at_block rfl ?_
  refine at_seq rfl ?_
  refine rg rfl ?_
  have hO1 := hO
  refine Rq ?_
  refine R_q rfl (by simp (disch := first | omega | (simp only [List.length_map, List.length_append, List.length_set, List.length_cons, List.length_nil]; omega)) only [go_sem, ↓reduceIte, Nat.reduceEqDiff, reduceCtorEq, qx, qp] <;> rfl) ?_
  refine A_alloc rfl ?_
  intro HC n4
  have en4 := n4.len
  have qx := n4.new
  have hO := hO.mono fun b hb k hk => (n4.old _ (hget_lt hk)).trans hk
  have lqx := hget_lt qx
  refine A_store ty31 (by simp (disch := first | omega | (simp only [List.length_map, List.length_append, List.length_set, List.length_cons, List.length_nil]; omega)) only [go_sem, ↓reduceIte, Nat.reduceEqDiff, reduceCtorEq] <;> rfl) (by simp (disch := first | omega | (simp only [List.length_map, List.length_append, List.length_set, List.length_cons, List.length_nil]; omega)) only [go_sem, ↓reduceIte, Nat.reduceEqDiff, reduceCtorEq, qx] <;> rfl) qx ⟨by omega, rfl, by first | exact Nat.le_refl _ | simp⟩ (show _ = prC (gt L u) from rfl) ?_
  intro HD w4
  have ew4 := w4.len
  have qx := w4.new
  have hO := hO1.mono fun b hb k hk => (w4.old _ (by have := hget_lt hk; omega)).trans ((n4.old _ (hget_lt hk)).trans hk)
  have tr : ∀ a b c d e f g h i j k m n : AV, let l := lc_pairs_ok a b c d e f g h i j; trim ((5,n)::(12,m)::(11,k)::l) l = lc_pairs_ok a b c n e f g h i j := by intros; rfl
  refine R_nil (tr ..) ?_; clear tr
  refine then_n ?_
  refine at_seq rfl ?_
  refine rg rfl ?_
  refine R_q rfl (by simp (disch := first | omega | (simp only [List.length_map, List.length_append, List.length_set, List.length_cons, List.length_nil]; omega)) only [go_sem, ↓reduceIte, Nat.reduceEqDiff, reduceCtorEq, qx, qp] <;> rfl) ?_
  refine Rcall ?_
  refine ACall_eq (pair_ok _ _ _) ?_
  have hO1 := hO
  refine A_alloc rfl ?_
  intro HE n5
  have en5 := n5.len
  have qx := (n5.old _ (hget_lt qx)).trans qx
  have qp := n5.new
  have lqx := hget_lt qx
  have lqp := hget_lt qp
  refine A_store ty31 (by simp (disch := first | omega | (simp only [List.length_map, List.length_append, List.length_set, List.length_cons, List.length_nil]; omega)) only [go_sem, ↓reduceIte, Nat.reduceEqDiff, reduceCtorEq] <;> rfl) (by simp (disch := first | omega | (simp only [List.length_map, List.length_append, List.length_set, List.length_cons, List.length_nil]; omega)) only [go_sem, ↓reduceIte, Nat.reduceEqDiff, reduceCtorEq, qp] <;> rfl) qp ⟨by omega, rfl, by first | exact Nat.le_refl _ | simp⟩ (show _ = prC (norm (gt L u)) from rfl) ?_
  intro HF w5
  have ew5 := w5.len
  have qx := (w5.old _ (by omega)).trans qx
  have qp := w5.new
  have hO := hO1.mono fun b hb k hk => (w5.old _ (by have := hget_lt hk; omega)).trans ((n5.old _ (hget_lt hk)).trans hk)
  have tr : ∀ a b c d e f g h i j k m n : AV, let l := lc_pairs_ok a b c d e f g h i j; trim ((6,n)::(14,m)::(13,k)::l) l = lc_pairs_ok a b c d n f g h i j := by intros; rfl
  refine R_nil (tr ..) ?_; clear tr
  refine then_n ?_
  refine at_seq rfl ?_
  refine rg rfl ?_
  refine Rq ?_
  refine R_q rfl (by simp (disch := first | omega | (simp only [List.length_map, List.length_append, List.length_set, List.length_cons, List.length_nil]; omega)) only [go_sem, ↓reduceIte, Nat.reduceEqDiff, reduceCtorEq, qx, qp] <;> rfl) ?_
  refine Rcall ?_
  refine ACall_eq (contains_ok _ H.length _ o _ _ hO (by omega)) ?_
  refine Rq ?_
  have tr : ∀ a b c d e f g h i j k m n o : AV, let l := lc_pairs_ok a b c d e f g h i j; trim ((18,o)::(17,n)::(16,m)::(15,k)::l) l = lc_pairs_ok a b c d e f g h i o := by intros; rfl
  refine R_nil (tr ..) ?_; clear tr
  refine then_n ?_
  refine cdd (fun h2 => ?_) (fun h2 => ?_)
  ·
   try simp only [decide_eq_true_eq, decide_eq_false_iff_not, Bool.not_eq_true', Bool.not_eq_false', beq_iff_eq, beq_eq_false_iff_ne, ne_eq] at h2
   refine rg rfl ?_
   refine Rq ?_
   refine R_q rfl (by simp (disch := first | omega | (simp only [List.length_map, List.length_append, List.length_set, List.length_cons, List.length_nil]; omega)) only [go_sem, ↓reduceIte, Nat.reduceEqDiff, reduceCtorEq, qx, qp] <;> rfl) ?_
   have hob := fun b hb => hO.lt (b := b) hb
   refine A_buildSlice (bs41 _ _ _ _ (norm (gt L u)) (by simp (disch := first | omega | (simp only [List.length_map, List.length_append, List.length_set, List.length_cons, List.length_nil]; omega)) only [go_sem, ↓reduceIte, Nat.reduceEqDiff, reduceCtorEq, qx, qp])) ?_
   intro HG n7
   have en7 := n7.len
   have qx := (n7.old _ (hget_lt qx)).trans qx
   have qp := (n7.old _ (hget_lt qp)).trans qp
   have qn := n7.new
   have hO := hO.mono fun b hb k hk => (n7.old _ (hget_lt hk)).trans hk
   obtain ⟨b, hbl, hbl2, hap⟩ := outP_append (lim := H.length) hO hob qn (Nat.le_refl _) (by omega) (by omega)
   refine A_append (by simp (disch := first | omega | (simp only [List.length_map, List.length_append, List.length_set, List.length_cons, List.length_nil]; omega)) only [go_sem, ↓reduceIte, Nat.reduceEqDiff, reduceCtorEq]; exact hap) ?_
   intro HK g7
   have eg7 := g7.len
   refine Rq ?_
   have tr : ∀ a b c d e f g h i j k m n o p : AV, let l := lc_pairs_ok a b c d e f g h i j; trim ((3,p)::(22,o)::(21,n)::(20,m)::(19,k)::l) l = lc_pairs_ok a b p d e f g h i j := by intros; rfl
   refine R_nil (tr ..) ?_; clear tr
   refine blk_n ?_
   refine then_n ?_
   refine rg rfl ?_
   refine Rq ?_
   refine Rq ?_
   have tr : ∀ a b c d e f g h i j k m : AV, let l := lc_pairs_ok a b c d e f g h i j; trim ((9,m)::(23,k)::l) l = lc_pairs_ok a b c d e f g m i j := by intros; rfl
   refine R_nil (tr ..) ?_; clear tr
   refine then_n ?_
   exact ⟨_, _, ⟨u + 1, (.own 2 HG.length 0 ((pairsN L u).length + 1)), _, _, _, _, rfl, rfl, by first | (show H.length ≤ HK.length; omega) | (show H.length ≤ HF.length; omega), by omega, by first | exact pairs_new g7 (by omega) (by assumption) | exact pairs_old hO (by assumption)⟩, by rfl, by omega⟩
  ·
   try simp only [decide_eq_true_eq, decide_eq_false_iff_not, Bool.not_eq_true', Bool.not_eq_false', beq_iff_eq, beq_eq_false_iff_ne, ne_eq] at h2
   refine at_skip rfl ?_
   refine blk_n ?_
   refine then_n ?_
   refine rg rfl ?_
   refine Rq ?_
   refine Rq ?_
   have tr : ∀ a b c d e f g h i j k m : AV, let l := lc_pairs_ok a b c d e f g h i j; trim ((9,m)::(23,k)::l) l = lc_pairs_ok a b c d e f g m i j := by intros; rfl
   refine R_nil (tr ..) ?_; clear tr
   refine then_n ?_
   exact ⟨_, _, ⟨u + 1, o, _, _, _, _, rfl, rfl, by first | (show H.length ≤ HK.length; omega) | (show H.length ≤ HF.length; omega), by omega, by first | exact pairs_new g7 (by omega) (by assumption) | exact pairs_old hO (by assumption)⟩, by rfl, by omega⟩
 ·
  try simp only [decide_eq_true_eq, decide_eq_false_iff_not, Bool.not_eq_true', Bool.not_eq_false', beq_iff_eq, beq_eq_false_iff_ne, ne_eq] at h1
  refine at_exit rfl ?_
  refine then_x ?_
  refine then_x ?_
  refine blk_x ?_
  refine then_n ?_
  refine at_seq rfl ?_
  refine rg rfl ?_
  refine Rq ?_
  refine Rq ?_
  have tr : ∀ a b c d e f g h i j k m : AV, let l := lc_pairs_ok a b c d e f g h i j; trim ((2,m)::(24,k)::l) l = lc_pairs_ok a m c d e f g h i j := by intros; rfl
  refine R_nil (tr ..) ?_; clear tr
  refine then_n ?_
  refine at_ret rfl ?_
  obtain rfl : u = L.length := by omega
  refine fpure ?_
  exact ⟨hO.frz, rfl⟩

end Go.Proofs.Ytdmeioppkannlaa
end
section
set_option linter.unusedSimpArgs false
set_option linter.unusedVariables false
set_option maxHeartbeats 4000000
set_option maxRecDepth 20000
namespace Go.Proofs.Ytdmeioppkannlaa
open Go Go.Am
abbrev lc_chk53_ok (a b c d e f g h i j k m n o p q r s t : AV) : Env := [(0,a),(1,b),(2,c),(3,d),(5,e),(7,f),(16,g),(18,h),(19,i),(20,j),(21,k),(29,m),(34,n),(36,o),(37,p),(38,q),(39,r),(68,s),(74,t)]
theorem chk53_x (lim : Nat) (H : Heap) (P : List Int) (L : List Pr) (x : AV) (hx : frz H 0 8 x = .agg (raceC P L)) :
    ACall sig lim 13 [x] H fun r H' => r = AV.i (rchkS P L) ∧ H' = H := by
 have hargs : [x].map (frz H 0 8) = [.agg (raceC P L)] := by
  show [frz H 0 8 x] = _
  rw [hx]
 refine ACall_data (fa := fa13) rfl rfl rfl rfl hargs ?_
 have tr : ∀ a0 : AV, env0 fa13.keep [a0] = lc_chk53_ok a0 .any .any .any .any .any .any .any .any .any .any .any .any .any .any .any .any .any .any := fun a0 => rfl
 refine W_to (tr _) ?_; clear tr
 refine at_seq rfl ?_
 refine rg rfl ?_
 refine R_box rfl (by simp (disch := omega) only [go_sem, ↓reduceIte, Nat.reduceEqDiff, reduceCtorEq] <;> rfl) rfl rfl ?_
 refine Rq ?_
 have tr : ∀ a b c d e f g h i j k m n o p q r s t u v : AV, let l := lc_chk53_ok a b c d e f g h i j k m n o p q r s t; trim ((2,v)::(1,u)::l) l = lc_chk53_ok a u v d e f g h i j k m n o p q r s t := by intros; rfl
 refine R_nil (tr ..) ?_; clear tr
 refine then_n ?_
 refine at_seq rfl ?_
 refine rg rfl ?_
 refine Rq ?_
 refine Rq ?_
 refine Rq ?_
 refine Rq ?_
 have tr : ∀ a b c d e f g h i j k m n o p q r s t u v w x : AV, let l := lc_chk53_ok a b c d e f g h i j k m n o p q r s t; trim ((3,x)::(10,w)::(9,v)::(8,u)::l) l = lc_chk53_ok a b c x e f g h i j k m n o p q r s t := by intros; rfl
 refine R_nil (tr ..) ?_; clear tr
 refine then_n ?_
 refine at_seq rfl ?_
 refine at_seq rfl ?_
 refine rg rfl ?_
 refine Rq ?_
 refine Rq ?_
 refine Rq ?_
 refine Rp_split (fun h1 => ?_) (fun h1 => ?_)
 ·
  try simp only [decide_eq_true_eq, decide_eq_false_iff_not, Bool.not_eq_true', Bool.not_eq_false', beq_iff_eq, beq_eq_false_iff_ne, ne_eq] at h1
  refine Rn ?_
  refine Rn ?_
  refine Rq ?_
  have tr : ∀ a b c d e f g h i j k m n o p q r s t u v w x y z : AV, let l := lc_chk53_ok a b c d e f g h i j k m n o p q r s t; trim ((16,z)::(15,y)::(14,x)::(13,w)::(12,v)::(11,u)::l) l = lc_chk53_ok a b c d e f z h i j k m n o p q r s t := by intros; rfl
  refine R_nil (tr ..) ?_; clear tr
  refine then_n ?_
  refine cdt ?_
  refine at_seq rfl ?_
  refine rg rfl ?_
  refine Rq ?_
  have tr : ∀ a b c d e f g h i j k m n o p q r s t u : AV, let l := lc_chk53_ok a b c d e f g h i j k m n o p q r s t; trim ((2,u)::l) l = lc_chk53_ok a b u d e f g h i j k m n o p q r s t := by intros; rfl
  refine R_nil (tr ..) ?_; clear tr
  refine then_n ?_
  refine at_ret rfl ?_
  refine then_r ?_
  refine fpure ?_
  refine ⟨rfl, ?_, rfl⟩
  rw [rchkS, if_pos (by omega)]
 ·
  try simp only [decide_eq_true_eq, decide_eq_false_iff_not, Bool.not_eq_true', Bool.not_eq_false', beq_iff_eq, beq_eq_false_iff_ne, ne_eq] at h1
  refine Ry ?_
  refine Rq ?_
  refine Ry ?_
  refine Rq ?_
  refine Rq ?_
  have tr : ∀ a b c d e f g h i j k m n o p q r s t u v w x y z : AV, let l := lc_chk53_ok a b c d e f g h i j k m n o p q r s t; trim ((16,z)::(15,y)::(14,x)::(13,w)::(12,v)::(11,u)::l) l = lc_chk53_ok a b c d e f z h i j k m n o p q r s t := by intros; rfl
  refine R_nil (tr ..) ?_; clear tr
  refine then_n ?_
  refine cdd (fun h2 => ?_) (fun h2 => ?_)
  ·
   try simp only [decide_eq_true_eq, decide_eq_false_iff_not, Bool.not_eq_true', Bool.not_eq_false', beq_iff_eq, beq_eq_false_iff_ne, ne_eq] at h2
   refine at_seq rfl ?_
   refine rg rfl ?_
   refine Rq ?_
   have tr : ∀ a b c d e f g h i j k m n o p q r s t u : AV, let l := lc_chk53_ok a b c d e f g h i j k m n o p q r s t; trim ((2,u)::l) l = lc_chk53_ok a b u d e f g h i j k m n o p q r s t := by intros; rfl
   refine R_nil (tr ..) ?_; clear tr
   refine then_n ?_
   refine at_ret rfl ?_
   refine then_r ?_
   refine fpure ?_
   refine ⟨rfl, ?_, rfl⟩
   rw [rchkS, if_pos (by omega)]
  ·
   try simp only [decide_eq_true_eq, decide_eq_false_iff_not, Bool.not_eq_true', Bool.not_eq_false', beq_iff_eq, beq_eq_false_iff_ne, ne_eq] at h2
   refine at_skip rfl ?_
   refine then_n ?_
   refine at_seq rfl ?_
   refine at_seq rfl ?_
   refine rg rfl ?_
   refine Rq ?_
   refine Rq ?_
   refine Rq ?_
   refine Rq ?_
   have tr : ∀ a b c d e f g h i j k m n o p q r s t u v w x : AV, let l := lc_chk53_ok a b c d e f g h i j k m n o p q r s t; trim ((20,x)::(19,w)::(18,v)::(17,u)::l) l = lc_chk53_ok a b c d e f g v w x k m n o p q r s t := by intros; rfl
   refine R_nil (tr ..) ?_; clear tr
   refine then_n ?_
   refine at_block rfl ?_
   refine loop_n rfl (fun mm kv H' => ∃ u : Nat, ∃ x2 x5 x21 x29 : AV, (kv = [(2, x2), (5, x5), (20, AV.i u), (21, x21), (29, x29)]) ∧ (mm = P.length - u) ∧ (H' = [] ++ [some (raceC P L)]) ∧ (u ≤ P.length) ∧ (ferr (fun i => ptErr (gt P i)) u = 0)) ⟨0, _, _, _, _, rfl, rfl, rfl, by omega, by rfl⟩ (by rfl) ?_
   rintro mm kv H' ⟨u, x2, x5, x21, x29, rfl, rfl, rfl, hu, hz⟩
   have tr : ∀ a b c d e f g h i j k m n o p q r s t u v w x y : AV, upd (lc_chk53_ok a b c d e f g h i j k m n o p q r s t) [(2,u),(5,v),(20,w),(21,x),(29,y)] = lc_chk53_ok a b u d v f g h i w x y n o p q r s t := by intros; rfl
   refine W_to (tr ..) ?_; clear tr
   refine at_seq rfl ?_
   refine rg rfl ?_
   refine Rq ?_
   have tr : ∀ a b c d e f g h i j k m n o p q r s t u : AV, let l := lc_chk53_ok a b c d e f g h i j k m n o p q r s t; trim ((21,u)::l) l = lc_chk53_ok a b c d e f g h i j u m n o p q r s t := by intros; rfl
   refine R_nil (tr ..) ?_; clear tr
   refine then_n ?_
   refine at_seq rfl ?_
   refine cdd (fun h3 => ?_) (fun h3 => ?_)
   ·
    try simp only [decide_eq_true_eq, decide_eq_false_iff_not, Bool.not_eq_true', Bool.not_eq_false', beq_iff_eq, beq_eq_false_iff_ne, ne_eq] at h3
    refine at_skip rfl ?_
    refine then_n ?_
    refine at_seq rfl ?_
    refine at_block rfl ?_
    refine at_seq rfl ?_
    refine rg rfl ?_
    refine Rq ?_
    refine Rq ?_
    refine Rq ?_
    have tr : ∀ a b c d e f g h i j k m n o p q r s t u v w : AV, let l := lc_chk53_ok a b c d e f g h i j k m n o p q r s t; trim ((5,w)::(23,v)::(22,u)::l) l = lc_chk53_ok a b c d w f g h i j k m n o p q r s t := by intros; rfl
    refine R_nil (tr ..) ?_; clear tr
    refine then_n ?_
    refine at_seq rfl ?_
    refine rg rfl ?_
    refine Rq ?_
    refine Rq ?_
    refine Rq ?_
    refine Rp_split (fun h4 => ?_) (fun h4 => ?_)
    ·
     try simp only [decide_eq_true_eq, decide_eq_false_iff_not, Bool.not_eq_true', Bool.not_eq_false', beq_iff_eq, beq_eq_false_iff_ne, ne_eq] at h4
     refine Rn ?_
     refine Rn ?_
     refine Rq ?_
     have tr : ∀ a b c d e f g h i j k m n o p q r s t u v w x y z : AV, let l := lc_chk53_ok a b c d e f g h i j k m n o p q r s t; trim ((29,z)::(28,y)::(27,x)::(26,w)::(25,v)::(24,u)::l) l = lc_chk53_ok a b c d e f g h i j k z n o p q r s t := by intros; rfl
     refine R_nil (tr ..) ?_; clear tr
     refine then_n ?_
     refine cdt ?_
     refine at_seq rfl ?_
     refine rg rfl ?_
     refine Rq ?_
     have tr : ∀ a b c d e f g h i j k m n o p q r s t u : AV, let l := lc_chk53_ok a b c d e f g h i j k m n o p q r s t; trim ((2,u)::l) l = lc_chk53_ok a b u d e f g h i j k m n o p q r s t := by intros; rfl
     refine R_nil (tr ..) ?_; clear tr
     refine then_n ?_
     refine at_ret rfl ?_
     refine blk_r ?_
     refine then_r ?_
     refine then_r ?_
     refine blk_r ?_
     refine then_r ?_
     refine fpure ?_
     refine ⟨rfl, ?_, rfl⟩
     have hse : ptErr (gt P u) = 2 := by unfold ptErr; rw [if_pos (by omega)]
     have hfe : ferr (fun i => ptErr (gt P i)) P.length = 2 := by rw [ferr_at hz (by omega) _ (by omega), hse]
     rw [rchkS, if_neg (by omega), if_pos (by omega), hfe]
    ·
     try simp only [decide_eq_true_eq, decide_eq_false_iff_not, Bool.not_eq_true', Bool.not_eq_false', beq_iff_eq, beq_eq_false_iff_ne, ne_eq] at h4
     refine Ry ?_
     refine Rq ?_
     refine Ry ?_
     refine Rq ?_
     refine Rq ?_
     have tr : ∀ a b c d e f g h i j k m n o p q r s t u v w x y z : AV, let l := lc_chk53_ok a b c d e f g h i j k m n o p q r s t; trim ((29,z)::(28,y)::(27,x)::(26,w)::(25,v)::(24,u)::l) l = lc_chk53_ok a b c d e f g h i j k z n o p q r s t := by intros; rfl
     refine R_nil (tr ..) ?_; clear tr
     refine then_n ?_
     refine cdd (fun h5 => ?_) (fun h5 => ?_)
     ·
      try simp only [decide_eq_true_eq, decide_eq_false_iff_not, Bool.not_eq_true', Bool.not_eq_false', beq_iff_eq, beq_eq_false_iff_ne, ne_eq] at h5
      refine at_seq rfl ?_
      refine rg rfl ?_
      refine Rq ?_
      have tr : ∀ a b c d e f g h i j k m n o p q r s t u : AV, let l := lc_chk53_ok a b c d e f g h i j k m n o p q r s t; trim ((2,u)::l) l = lc_chk53_ok a b u d e f g h i j k m n o p q r s t := by intros; rfl
      refine R_nil (tr ..) ?_; clear tr
      refine then_n ?_
      refine at_ret rfl ?_
      refine blk_r ?_
      refine then_r ?_
      refine then_r ?_
      refine blk_r ?_
      refine then_r ?_
      refine fpure ?_
      refine ⟨rfl, ?_, rfl⟩
      have hse : ptErr (gt P u) = 2 := by unfold ptErr; rw [if_pos (by omega)]
      have hfe : ferr (fun i => ptErr (gt P i)) P.length = 2 := by rw [ferr_at hz (by omega) _ (by omega), hse]
      rw [rchkS, if_neg (by omega), if_pos (by omega), hfe]
     ·
      try simp only [decide_eq_true_eq, decide_eq_false_iff_not, Bool.not_eq_true', Bool.not_eq_false', beq_iff_eq, beq_eq_false_iff_ne, ne_eq] at h5
      refine at_skip rfl ?_
      refine blk_n ?_
      refine then_n ?_
      refine rg rfl ?_
      refine Rq ?_
      refine Rq ?_
      have tr : ∀ a b c d e f g h i j k m n o p q r s t u v : AV, let l := lc_chk53_ok a b c d e f g h i j k m n o p q r s t; trim ((20,v)::(30,u)::l) l = lc_chk53_ok a b c d e f g h i v k m n o p q r s t := by intros; rfl
      refine R_nil (tr ..) ?_; clear tr
      refine then_n ?_
      exact ⟨_, _, ⟨u + 1, _, _, _, _, rfl, rfl, rfl, by omega, by exact ferr_ok hz (by show ptErr (gt P u) = 0; unfold ptErr; rw [if_neg (by omega)])⟩, by rfl, by omega⟩
   ·
    try simp only [decide_eq_true_eq, decide_eq_false_iff_not, Bool.not_eq_true', Bool.not_eq_false', beq_iff_eq, beq_eq_false_iff_ne, ne_eq] at h3
    refine at_exit rfl ?_
    refine then_x ?_
    refine then_x ?_
    refine blk_x ?_
    refine then_n ?_
    refine at_seq rfl ?_
    refine at_seq rfl ?_
    refine rg rfl ?_
    have hze : ferr (fun i => ptErr (gt P i)) P.length = 0 := by rw [show P.length = u by omega]; exact hz
    refine Rq ?_
    refine Rq ?_
    refine Rq ?_
    refine Rq ?_
    have tr : ∀ a b c d e f g h i j k m n o p q r s t u v w x : AV, let l := lc_chk53_ok a b c d e f g h i j k m n o p q r s t; trim ((34,x)::(33,w)::(32,v)::(31,u)::l) l = lc_chk53_ok a b c d e f g h i j k m x o p q r s t := by intros; rfl
    refine R_nil (tr ..) ?_; clear tr
    refine then_n ?_
    refine cdd (fun h6 => ?_) (fun h6 => ?_)
    ·
     try simp only [decide_eq_true_eq, decide_eq_false_iff_not, Bool.not_eq_true', Bool.not_eq_false', beq_iff_eq, beq_eq_false_iff_ne, ne_eq] at h6
     refine at_seq rfl ?_
     refine rg rfl ?_
     refine Rq ?_
     have tr : ∀ a b c d e f g h i j k m n o p q r s t u : AV, let l := lc_chk53_ok a b c d e f g h i j k m n o p q r s t; trim ((2,u)::l) l = lc_chk53_ok a b u d e f g h i j k m n o p q r s t := by intros; rfl
     refine R_nil (tr ..) ?_; clear tr
     refine then_n ?_
     refine at_ret rfl ?_
     refine then_r ?_
     refine fpure ?_
     refine ⟨rfl, ?_, rfl⟩
     rw [rchkS, if_neg (by omega), if_neg (by omega), if_pos (by omega)]
    ·
     try simp only [decide_eq_true_eq, decide_eq_false_iff_not, Bool.not_eq_true', Bool.not_eq_false', beq_iff_eq, beq_eq_false_iff_ne, ne_eq] at h6
     refine at_skip rfl ?_
     refine then_n ?_
     refine at_seq rfl ?_
     refine at_seq rfl ?_
     refine rg rfl ?_
     refine Rq ?_
     refine Rq ?_
     refine Rq ?_
     refine Rq ?_
     have tr : ∀ a b c d e f g h i j k m n o p q r s t u v w x : AV, let l := lc_chk53_ok a b c d e f g h i j k m n o p q r s t; trim ((38,x)::(37,w)::(36,v)::(35,u)::l) l = lc_chk53_ok a b c d e f g h i j k m n v w x r s t := by intros; rfl
     refine R_nil (tr ..) ?_; clear tr
     refine then_n ?_
     refine at_block rfl ?_
     refine loop_n rfl (fun mm kv H' => ∃ v : Nat, ∃ X : Heap, ∃ x2 x7 x39 x68 : AV, (kv = [(2, x2), (7, x7), (38, AV.i v), (39, x39), (68, x68)]) ∧ (mm = L.length - v) ∧ (H' = [] ++ [some (raceC P L)] ++ X) ∧ (v ≤ L.length) ∧ (ferr (fun i => prErr P.length (gt L i)) v = 0)) ⟨0, [], _, _, _, _, rfl, rfl, by simp, by omega, by rfl⟩ (by rfl) ?_
     rintro mm kv H1 ⟨v, X, x2, x7, x39, x68, rfl, rfl, hX, hv, hy⟩
     have tr : ∀ a b c d e f g h i j k m n o p q r s t u v w x y : AV, upd (lc_chk53_ok a b c d e f g h i j k m n o p q r s t) [(2,u),(7,v),(38,w),(39,x),(68,y)] = lc_chk53_ok a b u d e v g h i j k m n o p w x y t := by intros; rfl
     refine W_to (tr ..) ?_; clear tr
     subst hX
     refine at_seq rfl ?_
     refine rg rfl ?_
     refine Rq ?_
     have tr : ∀ a b c d e f g h i j k m n o p q r s t u : AV, let l := lc_chk53_ok a b c d e f g h i j k m n o p q r s t; trim ((39,u)::l) l = lc_chk53_ok a b c d e f g h i j k m n o p q u s t := by intros; rfl
     refine R_nil (tr ..) ?_; clear tr
     refine then_n ?_
     refine at_seq rfl ?_
     refine cdd (fun h7 => ?_) (fun h7 => ?_)
     ·
      try simp only [decide_eq_true_eq, decide_eq_false_iff_not, Bool.not_eq_true', Bool.not_eq_false', beq_iff_eq, beq_eq_false_iff_ne, ne_eq] at h7
      refine at_skip rfl ?_
      refine then_n ?_
      refine at_seq rfl ?_
      refine at_block rfl ?_
      refine at_seq rfl ?_
      refine rg rfl ?_
      refine Rq ?_
      refine Rq ?_
      refine R_alloc (by simp (disch := omega) only [go_sem, ↓reduceIte, Nat.reduceEqDiff, reduceCtorEq] <;> rfl) rfl (by simp only [List.map_cons, List.map_nil]; rfl) ?_
      refine R_store ty31 (by simp (disch := omega) only [go_sem, ↓reduceIte, Nat.reduceEqDiff, reduceCtorEq] <;> rfl) (by simp (disch := omega) only [go_sem, ↓reduceIte, Nat.reduceEqDiff, reduceCtorEq] <;> rfl) (by simp (disch := omega) only [go_sem, ↓reduceIte, Nat.reduceEqDiff, reduceCtorEq] <;> rfl) (by simp) (by rfl) (by simp (disch := omega) only [go_sem, ↓reduceIte, Nat.reduceEqDiff, reduceCtorEq] <;> rfl) ?_
      have tr : ∀ a b c d e f g h i j k m n o p q r s t u v w : AV, let l := lc_chk53_ok a b c d e f g h i j k m n o p q r s t; trim ((7,w)::(41,v)::(40,u)::l) l = lc_chk53_ok a b c d e w g h i j k m n o p q r s t := by intros; rfl
      refine R_nil (tr ..) ?_; clear tr
      refine then_n ?_
      refine at_seq rfl ?_
      refine rg rfl ?_
      refine Rq ?_
      refine Rq ?_
      refine Rq ?_
      refine Rq ?_
      refine Rp_split (fun h8 => ?_) (fun h8 => ?_)
      ·
       try simp only [decide_eq_true_eq, decide_eq_false_iff_not, Bool.not_eq_true', Bool.not_eq_false', beq_iff_eq, beq_eq_false_iff_ne, ne_eq] at h8
       refine Rn ?_
       refine Rn ?_
       refine Rn ?_
       refine Rn ?_
       refine Rq ?_
       refine Rq ?_
       refine Rn ?_
       refine Rn ?_
       refine Rn ?_
       refine Rq ?_
       refine Rq ?_
       refine Rn ?_
       refine Rn ?_
       refine Rn ?_
       refine Rn ?_
       refine Rq ?_
       refine Rq ?_
       refine Rn ?_
       refine Rn ?_
       refine Rn ?_
       refine Rn ?_
       refine Rn ?_
       refine Rq ?_
       have tr : ∀ a b c d e f g h i j k m n o p q r s t u v w x y z A B C D E F G H I J K L M N O P Q R S T U : AV, let l := lc_chk53_ok a b c d e f g h i j k m n o p q r s t; trim ((68,U)::(67,T)::(66,S)::(65,R)::(64,Q)::(63,P)::(62,O)::(61,N)::(60,M)::(59,L)::(58,K)::(57,J)::(56,I)::(55,H)::(54,G)::(53,F)::(52,E)::(51,D)::(50,C)::(49,B)::(48,A)::(47,z)::(46,y)::(45,x)::(44,w)::(43,v)::(42,u)::l) l = lc_chk53_ok a b c d e f g h i j k m n o p q r U t := by intros; rfl
       refine R_nil (tr ..) ?_; clear tr
       refine then_n ?_
       refine cdt ?_
       refine at_seq rfl ?_
       refine rg rfl ?_
       refine Rq ?_
       have tr : ∀ a b c d e f g h i j k m n o p q r s t u : AV, let l := lc_chk53_ok a b c d e f g h i j k m n o p q r s t; trim ((2,u)::l) l = lc_chk53_ok a b u d e f g h i j k m n o p q r s t := by intros; rfl
       refine R_nil (tr ..) ?_; clear tr
       refine then_n ?_
       refine at_ret rfl ?_
       refine blk_r ?_
       refine then_r ?_
       refine then_r ?_
       refine blk_r ?_
       refine then_r ?_
       refine fpure ?_
       refine ⟨rfl, ?_, rfl⟩
       have hse : prErr P.length (gt L v) = 1 := by unfold prErr; rw [if_pos (by omega)]
       have hfe : ferr (fun i => prErr P.length (gt L i)) L.length = 1 := by rw [ferr_at hy (by omega) _ (by omega), hse]
       rw [rchkS, if_neg (by omega), if_neg (by omega), if_neg (by omega), if_pos (by omega), hfe]
      ·
       try simp only [decide_eq_true_eq, decide_eq_false_iff_not, Bool.not_eq_true', Bool.not_eq_false', beq_iff_eq, beq_eq_false_iff_ne, ne_eq] at h8
       refine Ry ?_
       refine Rq ?_
       refine Ry ?_
       refine Rq ?_
       refine Ry ?_
       refine Rq ?_
       refine Ry ?_
       refine Rq ?_
       refine Rq ?_
       refine Rq ?_
       refine Rp_split (fun h9 => ?_) (fun h9 => ?_)
       ·
        try simp only [decide_eq_true_eq, decide_eq_false_iff_not, Bool.not_eq_true', Bool.not_eq_false', beq_iff_eq, beq_eq_false_iff_ne, ne_eq] at h9
        refine Rn ?_
        refine Rn ?_
        refine Rn ?_
        refine Rq ?_
        refine Rq ?_
        refine Rn ?_
        refine Rn ?_
        refine Rn ?_
        refine Rn ?_
        refine Rq ?_
        refine Rq ?_
        refine Rn ?_
        refine Rn ?_
        refine Rn ?_
        refine Rn ?_
        refine Rn ?_
        refine Rq ?_
        have tr : ∀ a b c d e f g h i j k m n o p q r s t u v w x y z A B C D E F G H I J K L M N O P Q R S T U : AV, let l := lc_chk53_ok a b c d e f g h i j k m n o p q r s t; trim ((68,U)::(67,T)::(66,S)::(65,R)::(64,Q)::(63,P)::(62,O)::(61,N)::(60,M)::(59,L)::(58,K)::(57,J)::(56,I)::(55,H)::(54,G)::(53,F)::(52,E)::(51,D)::(50,C)::(49,B)::(48,A)::(47,z)::(46,y)::(45,x)::(44,w)::(43,v)::(42,u)::l) l = lc_chk53_ok a b c d e f g h i j k m n o p q r U t := by intros; rfl
        refine R_nil (tr ..) ?_; clear tr
        refine then_n ?_
        refine cdt ?_
        refine at_seq rfl ?_
        refine rg rfl ?_
        refine Rq ?_
        have tr : ∀ a b c d e f g h i j k m n o p q r s t u : AV, let l := lc_chk53_ok a b c d e f g h i j k m n o p q r s t; trim ((2,u)::l) l = lc_chk53_ok a b u d e f g h i j k m n o p q r s t := by intros; rfl
        refine R_nil (tr ..) ?_; clear tr
        refine then_n ?_
        refine at_ret rfl ?_
        refine blk_r ?_
        refine then_r ?_
        refine then_r ?_
        refine blk_r ?_
        refine then_r ?_
        refine fpure ?_
        refine ⟨rfl, ?_, rfl⟩
        have hse : prErr P.length (gt L v) = 1 := by unfold prErr; rw [if_pos (by omega)]
        have hfe : ferr (fun i => prErr P.length (gt L i)) L.length = 1 := by rw [ferr_at hy (by omega) _ (by omega), hse]
        rw [rchkS, if_neg (by omega), if_neg (by omega), if_neg (by omega), if_pos (by omega), hfe]
       ·
        try simp only [decide_eq_true_eq, decide_eq_false_iff_not, Bool.not_eq_true', Bool.not_eq_false', beq_iff_eq, beq_eq_false_iff_ne, ne_eq] at h9
        refine Ry ?_
        refine Rq ?_
        refine Ry ?_
        refine Rq ?_
        refine Ry ?_
        refine Rq ?_
        refine Rq ?_
        refine Rq ?_
        refine Rp_split (fun h10 => ?_) (fun h10 => ?_)
        ·
         try simp only [decide_eq_true_eq, decide_eq_false_iff_not, Bool.not_eq_true', Bool.not_eq_false', beq_iff_eq, beq_eq_false_iff_ne, ne_eq] at h10
         refine Rn ?_
         refine Rn ?_
         refine Rn ?_
         refine Rn ?_
         refine Rq ?_
         refine Rq ?_
         refine Rn ?_
         refine Rn ?_
         refine Rn ?_
         refine Rn ?_
         refine Rn ?_
         refine Rq ?_
         have tr : ∀ a b c d e f g h i j k m n o p q r s t u v w x y z A B C D E F G H I J K L M N O P Q R S T U : AV, let l := lc_chk53_ok a b c d e f g h i j k m n o p q r s t; trim ((68,U)::(67,T)::(66,S)::(65,R)::(64,Q)::(63,P)::(62,O)::(61,N)::(60,M)::(59,L)::(58,K)::(57,J)::(56,I)::(55,H)::(54,G)::(53,F)::(52,E)::(51,D)::(50,C)::(49,B)::(48,A)::(47,z)::(46,y)::(45,x)::(44,w)::(43,v)::(42,u)::l) l = lc_chk53_ok a b c d e f g h i j k m n o p q r U t := by intros; rfl
         refine R_nil (tr ..) ?_; clear tr
         refine then_n ?_
         refine cdt ?_
         refine at_seq rfl ?_
         refine rg rfl ?_
         refine Rq ?_
         have tr : ∀ a b c d e f g h i j k m n o p q r s t u : AV, let l := lc_chk53_ok a b c d e f g h i j k m n o p q r s t; trim ((2,u)::l) l = lc_chk53_ok a b u d e f g h i j k m n o p q r s t := by intros; rfl
         refine R_nil (tr ..) ?_; clear tr
         refine then_n ?_
         refine at_ret rfl ?_
         refine blk_r ?_
         refine then_r ?_
         refine then_r ?_
         refine blk_r ?_
         refine then_r ?_
         refine fpure ?_
         refine ⟨rfl, ?_, rfl⟩
         have hse : prErr P.length (gt L v) = 1 := by unfold prErr; rw [if_pos (by omega)]
         have hfe : ferr (fun i => prErr P.length (gt L i)) L.length = 1 := by rw [ferr_at hy (by omega) _ (by omega), hse]
         rw [rchkS, if_neg (by omega), if_neg (by omega), if_neg (by omega), if_pos (by omega), hfe]
        ·
         try simp only [decide_eq_true_eq, decide_eq_false_iff_not, Bool.not_eq_true', Bool.not_eq_false', beq_iff_eq, beq_eq_false_iff_ne, ne_eq] at h10
         refine Ry ?_
         refine Rq ?_
         refine Ry ?_
         refine Rq ?_
         refine Ry ?_
         refine Rq ?_
         refine Ry ?_
         refine Rq ?_
         refine Rq ?_
         refine Rq ?_
         refine Rp_split (fun h11 => ?_) (fun h11 => ?_)
         ·
          try simp only [decide_eq_true_eq, decide_eq_false_iff_not, Bool.not_eq_true', Bool.not_eq_false', beq_iff_eq, beq_eq_false_iff_ne, ne_eq] at h11
          refine Rn ?_
          refine Rn ?_
          refine Rn ?_
          refine Rn ?_
          refine Rn ?_
          refine Rq ?_
          have tr : ∀ a b c d e f g h i j k m n o p q r s t u v w x y z A B C D E F G H I J K L M N O P Q R S T U : AV, let l := lc_chk53_ok a b c d e f g h i j k m n o p q r s t; trim ((68,U)::(67,T)::(66,S)::(65,R)::(64,Q)::(63,P)::(62,O)::(61,N)::(60,M)::(59,L)::(58,K)::(57,J)::(56,I)::(55,H)::(54,G)::(53,F)::(52,E)::(51,D)::(50,C)::(49,B)::(48,A)::(47,z)::(46,y)::(45,x)::(44,w)::(43,v)::(42,u)::l) l = lc_chk53_ok a b c d e f g h i j k m n o p q r U t := by intros; rfl
          refine R_nil (tr ..) ?_; clear tr
          refine then_n ?_
          refine cdt ?_
          refine at_seq rfl ?_
          refine rg rfl ?_
          refine Rq ?_
          have tr : ∀ a b c d e f g h i j k m n o p q r s t u : AV, let l := lc_chk53_ok a b c d e f g h i j k m n o p q r s t; trim ((2,u)::l) l = lc_chk53_ok a b u d e f g h i j k m n o p q r s t := by intros; rfl
          refine R_nil (tr ..) ?_; clear tr
          refine then_n ?_
          refine at_ret rfl ?_
          refine blk_r ?_
          refine then_r ?_
          refine then_r ?_
          refine blk_r ?_
          refine then_r ?_
          refine fpure ?_
          refine ⟨rfl, ?_, rfl⟩
          have hse : prErr P.length (gt L v) = 1 := by unfold prErr; rw [if_pos (by omega)]
          have hfe : ferr (fun i => prErr P.length (gt L i)) L.length = 1 := by rw [ferr_at hy (by omega) _ (by omega), hse]
          rw [rchkS, if_neg (by omega), if_neg (by omega), if_neg (by omega), if_pos (by omega), hfe]
         ·
          try simp only [decide_eq_true_eq, decide_eq_false_iff_not, Bool.not_eq_true', Bool.not_eq_false', beq_iff_eq, beq_eq_false_iff_ne, ne_eq] at h11
          refine Ry ?_
          refine Rq ?_
          refine Ry ?_
          refine Rq ?_
          refine Ry ?_
          refine Rq ?_
          refine Ry ?_
          refine Rq ?_
          refine Ry ?_
          refine Rq ?_
          refine Rq ?_
          have tr : ∀ a b c d e f g h i j k m n o p q r s t u v w x y z A B C D E F G H I J K L M N O P Q R S T U : AV, let l := lc_chk53_ok a b c d e f g h i j k m n o p q r s t; trim ((68,U)::(67,T)::(66,S)::(65,R)::(64,Q)::(63,P)::(62,O)::(61,N)::(60,M)::(59,L)::(58,K)::(57,J)::(56,I)::(55,H)::(54,G)::(53,F)::(52,E)::(51,D)::(50,C)::(49,B)::(48,A)::(47,z)::(46,y)::(45,x)::(44,w)::(43,v)::(42,u)::l) l = lc_chk53_ok a b c d e f g h i j k m n o p q r U t := by intros; rfl
          refine R_nil (tr ..) ?_; clear tr
          refine then_n ?_
          refine cdd (fun h12 => ?_) (fun h12 => ?_)
          ·
           try simp only [decide_eq_true_eq, decide_eq_false_iff_not, Bool.not_eq_true', Bool.not_eq_false', beq_iff_eq, beq_eq_false_iff_ne, ne_eq] at h12
           refine at_seq rfl ?_
           refine rg rfl ?_
           refine Rq ?_
           have tr : ∀ a b c d e f g h i j k m n o p q r s t u : AV, let l := lc_chk53_ok a b c d e f g h i j k m n o p q r s t; trim ((2,u)::l) l = lc_chk53_ok a b u d e f g h i j k m n o p q r s t := by intros; rfl
           refine R_nil (tr ..) ?_; clear tr
           refine then_n ?_
           refine at_ret rfl ?_
           refine blk_r ?_
           refine then_r ?_
           refine then_r ?_
           refine blk_r ?_
           refine then_r ?_
           refine fpure ?_
           refine ⟨rfl, ?_, rfl⟩
           have hse : prErr P.length (gt L v) = 1 := by unfold prErr; rw [if_pos (by omega)]
           have hfe : ferr (fun i => prErr P.length (gt L i)) L.length = 1 := by rw [ferr_at hy (by omega) _ (by omega), hse]
           rw [rchkS, if_neg (by omega), if_neg (by omega), if_neg (by omega), if_pos (by omega), hfe]
          ·
           try simp only [decide_eq_true_eq, decide_eq_false_iff_not, Bool.not_eq_true', Bool.not_eq_false', beq_iff_eq, beq_eq_false_iff_ne, ne_eq] at h12
           refine at_skip rfl ?_
           refine blk_n ?_
           refine then_n ?_
           refine rg rfl ?_
           refine Rq ?_
           refine Rq ?_
           have tr : ∀ a b c d e f g h i j k m n o p q r s t u v : AV, let l := lc_chk53_ok a b c d e f g h i j k m n o p q r s t; trim ((38,v)::(69,u)::l) l = lc_chk53_ok a b c d e f g h i j k m n o p v r s t := by intros; rfl
           refine R_nil (tr ..) ?_; clear tr
           refine then_n ?_
           exact ⟨_, _, ⟨v + 1, X ++ [some (prC (gt L v))], _, _, _, _, rfl, rfl, by simp <;> rfl, by omega, by exact ferr_ok hy (by show prErr P.length (gt L v) = 0; unfold prErr; rw [if_neg (by omega)])⟩, by rfl, by omega⟩
     ·
      try simp only [decide_eq_true_eq, decide_eq_false_iff_not, Bool.not_eq_true', Bool.not_eq_false', beq_iff_eq, beq_eq_false_iff_ne, ne_eq] at h7
      refine at_exit rfl ?_
      refine then_x ?_
      refine then_x ?_
      refine blk_x ?_
      refine then_n ?_
      refine at_seq rfl ?_
      refine at_seq rfl ?_
      refine rg rfl ?_
      have hye : ferr (fun i => prErr P.length (gt L i)) L.length = 0 := by rw [show L.length = v by omega]; exact hy
      refine Rq ?_
      refine Rq ?_
      refine Rcall ?_
      refine ACall_eq (pairs_ok _ _ L (by omega)) ?_
      refine R_q rfl (by simp (disch := omega) only [go_sem, ↓reduceIte, Nat.reduceEqDiff, reduceCtorEq]; exact pairsA_len L) ?_
      refine Rq ?_
      have tr : ∀ a b c d e f g h i j k m n o p q r s t u v w x y : AV, let l := lc_chk53_ok a b c d e f g h i j k m n o p q r s t; trim ((74,y)::(73,x)::(72,w)::(71,v)::(70,u)::l) l = lc_chk53_ok a b c d e f g h i j k m n o p q r s y := by intros; rfl
      refine R_nil (tr ..) ?_; clear tr
      refine then_n ?_
      refine cdd (fun h13 => ?_) (fun h13 => ?_)
      ·
       try simp only [decide_eq_true_eq, decide_eq_false_iff_not, Bool.not_eq_true', Bool.not_eq_false', beq_iff_eq, beq_eq_false_iff_ne, ne_eq] at h13
       refine at_seq rfl ?_
       refine rg rfl ?_
       refine Rq ?_
       have tr : ∀ a b c d e f g h i j k m n o p q r s t u : AV, let l := lc_chk53_ok a b c d e f g h i j k m n o p q r s t; trim ((2,u)::l) l = lc_chk53_ok a b u d e f g h i j k m n o p q r s t := by intros; rfl
       refine R_nil (tr ..) ?_; clear tr
       refine then_n ?_
       refine at_ret rfl ?_
       refine then_r ?_
       refine fpure ?_
       refine ⟨rfl, ?_, rfl⟩
       rw [rchkS, if_neg (by omega), if_neg (by omega), if_neg (by omega), if_neg (by omega), if_pos (by omega)]
      ·
       try simp only [decide_eq_true_eq, decide_eq_false_iff_not, Bool.not_eq_true', Bool.not_eq_false', beq_iff_eq, beq_eq_false_iff_ne, ne_eq] at h13
       refine at_skip rfl ?_
       refine then_n ?_
       refine at_seq rfl ?_
       refine rg rfl ?_
       refine Rq ?_
       have tr : ∀ a b c d e f g h i j k m n o p q r s t u : AV, let l := lc_chk53_ok a b c d e f g h i j k m n o p q r s t; trim ((2,u)::l) l = lc_chk53_ok a b u d e f g h i j k m n o p q r s t := by intros; rfl
       refine R_nil (tr ..) ?_; clear tr
       refine then_n ?_
       refine at_ret rfl ?_
       refine fpure ?_
       refine ⟨rfl, ?_, rfl⟩
       rw [rchkS, if_neg (by omega), if_neg (by omega), if_neg (by omega), if_neg (by omega), if_neg (by omega)]

end Go.Proofs.Ytdmeioppkannlaa
end
section
set_option linter.unusedSimpArgs false
set_option linter.unusedVariables false
set_option maxHeartbeats 1000000
set_option maxRecDepth 20000
namespace Go.Proofs.Ytdmeioppkannlaa
open Go Go.Am
abbrev lc_count_ok (a b c d e f g h i j k : AV) : Env := [(0,a),(1,b),(2,c),(3,d),(4,e),(5,f),(6,g),(8,h),(54,i),(62,j),(78,k)]
theorem count_ok (lim : Nat) (H : Heap) (b : Nat) (pre post : List AV) (z : St) (hlim : lim ≤ b) (hb : hget H b = some (pre ++ (stL z ++ post))) (u : Nat) (hu : u ≤ 400) (hz : StI u z.tm z) (p : Pl) (r q o a w : Int) (hr : 0 ≤ r ∧ r ≤ 2000) (hq : 0 ≤ q ∧ q ≤ 1000) (hor : 0 ≤ o ∧ o ≤ 2000) (ha : 0 ≤ a ∧ a ≤ 1000) (hw : w = 1 ∨ w = 2) :
    ACall sig lim 20 [.ptr b pre.length, .agg (plC p), AV.i r, AV.i q, AV.i o, AV.i a, AV.i w] H fun x H' => x = .tup [] ∧ hget H' b = some (pre ++ (stL (cnS z p.wi r q o a w) ++ post)) ∧ But b H H' := by
 unfold StI at hz
 refine ACall_own (fa := fa20) rfl rfl rfl rfl ?_
 have tr : ∀ a0 a1 a2 a3 a4 a5 a6 : AV, env0 fa20.keep [a0, a1, a2, a3, a4, a5, a6] = lc_count_ok a0 a1 a2 a3 a4 a5 a6 .any .any .any .any := fun a0 a1 a2 a3 a4 a5 a6 => rfl
 refine W_to (tr _ _ _ _ _ _ _) ?_; clear tr
 refine at_seq rfl ?_
 refine rg rfl ?_
 refine A_box rfl (by simp (disch := first | omega | (simp only [List.length_map, List.length_append, List.length_set, List.length_cons, List.length_nil]; omega)) only [go_sem, ↓reduceIte, Nat.reduceEqDiff, reduceCtorEq] <;> rfl) ?_
 intro H1 n1
 have ho : But b H H1 := But.new n1
 have qp := n1.new
 have hbl := hget_lt hb
 have hpb : H.length ≠ b := by omega
 have qb := (n1.old _ hbl).trans hb
 rw [st_app] at qb
 have tr : ∀ a b c d e f g h i j k m : AV, let l := lc_count_ok a b c d e f g h i j k; trim ((8,m)::l) l = lc_count_ok a b c d e f g m i j k := by intros; rfl
 refine R_nil (tr ..) ?_; clear tr
 refine then_n ?_
 refine at_seq rfl ?_
 refine rg rfl ?_
 refine Rq ?_
 refine Rq ?_
 refine Rq ?_
 refine R_q rfl (by simp (disch := first | omega | (simp only [List.length_map, List.length_append, List.length_set, List.length_cons, List.length_nil]; omega)) only [go_sem, ↓reduceIte, Nat.reduceEqDiff, reduceCtorEq, qb, qp] <;> rfl) ?_
 refine Rq ?_
 refine Rq ?_
 refine Rq ?_
 refine A_store ty3 (by simp (disch := first | omega | (simp only [List.length_map, List.length_append, List.length_set, List.length_cons, List.length_nil]; omega)) only [go_sem, ↓reduceIte, Nat.reduceEqDiff, reduceCtorEq, qb, qp] <;> rfl) (by simp (disch := first | omega | (simp only [List.length_map, List.length_append, List.length_set, List.length_cons, List.length_nil]; omega)) only [go_sem, ↓reduceIte, Nat.reduceEqDiff, reduceCtorEq, qb, qp] <;> rfl) qb ⟨hlim, rfl, by simp; omega⟩ (k' := _) (by rw [setL_one, sAr] <;> rfl) ?_
 intro H2 w2
 have ho := ho.wrote w2
 have qp := (w2.old _ hpb).trans qp
 have qb := w2.new
 simp only [List.set_cons_succ, List.set_cons_zero] at qb
 have tr : ∀ a b c d e f g h i j k m n o p q r s : AV, let l := lc_count_ok a b c d e f g h i j k; trim ((20,s)::(19,r)::(18,q)::(17,p)::(16,o)::(15,n)::(14,m)::l) l = lc_count_ok a b c d e f g h i j k := by intros; rfl
 refine R_nil (tr ..) ?_; clear tr
 refine then_n ?_
 refine at_seq rfl ?_
 refine rg rfl ?_
 refine Rq ?_
 refine Rq ?_
 refine Rq ?_
 refine R_q rfl (by simp (disch := first | omega | (simp only [List.length_map, List.length_append, List.length_set, List.length_cons, List.length_nil]; omega)) only [go_sem, ↓reduceIte, Nat.reduceEqDiff, reduceCtorEq, qb, qp] <;> rfl) ?_
 refine Rq ?_
 refine Rq ?_
 refine Rq ?_
 refine Rq ?_
 refine A_store ty3 (by simp (disch := first | omega | (simp only [List.length_map, List.length_append, List.length_set, List.length_cons, List.length_nil]; omega)) only [go_sem, ↓reduceIte, Nat.reduceEqDiff, reduceCtorEq, qb, qp] <;> rfl) (by simp (disch := first | omega | (simp only [List.length_map, List.length_append, List.length_set, List.length_cons, List.length_nil]; omega)) only [go_sem, ↓reduceIte, Nat.reduceEqDiff, reduceCtorEq, qb, qp] <;> rfl) qb ⟨hlim, rfl, by simp; omega⟩ (k' := _) (by rw [setL_one, sAr] <;> rfl) ?_
 intro H2 w2
 have ho := ho.wrote w2
 have qp := (w2.old _ hpb).trans qp
 have qb := w2.new
 simp only [List.set_cons_succ, List.set_cons_zero] at qb
 have tr : ∀ a b c d e f g h i j k m n o p q r s t : AV, let l := lc_count_ok a b c d e f g h i j k; trim ((28,t)::(27,s)::(26,r)::(25,q)::(24,p)::(23,o)::(22,n)::(21,m)::l) l = lc_count_ok a b c d e f g h i j k := by intros; rfl
 refine R_nil (tr ..) ?_; clear tr
 refine then_n ?_
 refine at_seq rfl ?_
 refine rg rfl ?_
 refine Rq ?_
 refine Rq ?_
 refine Rq ?_
 refine R_q rfl (by simp (disch := first | omega | (simp only [List.length_map, List.length_append, List.length_set, List.length_cons, List.length_nil]; omega)) only [go_sem, ↓reduceIte, Nat.reduceEqDiff, reduceCtorEq, qb, qp] <;> rfl) ?_
 refine Rq ?_
 refine Rq ?_
 refine Rq ?_
 refine Rq ?_
 refine A_store ty3 (by simp (disch := first | omega | (simp only [List.length_map, List.length_append, List.length_set, List.length_cons, List.length_nil]; omega)) only [go_sem, ↓reduceIte, Nat.reduceEqDiff, reduceCtorEq, qb, qp] <;> rfl) (by simp (disch := first | omega | (simp only [List.length_map, List.length_append, List.length_set, List.length_cons, List.length_nil]; omega)) only [go_sem, ↓reduceIte, Nat.reduceEqDiff, reduceCtorEq, qb, qp] <;> rfl) qb ⟨hlim, rfl, by simp; omega⟩ (k' := _) (by rw [setL_one, sAr] <;> rfl) ?_
 intro H2 w2
 have ho := ho.wrote w2
 have qp := (w2.old _ hpb).trans qp
 have qb := w2.new
 simp only [List.set_cons_succ, List.set_cons_zero] at qb
 have tr : ∀ a b c d e f g h i j k m n o p q r s t : AV, let l := lc_count_ok a b c d e f g h i j k; trim ((36,t)::(35,s)::(34,r)::(33,q)::(32,p)::(31,o)::(30,n)::(29,m)::l) l = lc_count_ok a b c d e f g h i j k := by intros; rfl
 refine R_nil (tr ..) ?_; clear tr
 refine then_n ?_
 refine at_seq rfl ?_
 refine rg rfl ?_
 refine Rq ?_
 refine Rq ?_
 refine Rq ?_
 refine R_q rfl (by simp (disch := first | omega | (simp only [List.length_map, List.length_append, List.length_set, List.length_cons, List.length_nil]; omega)) only [go_sem, ↓reduceIte, Nat.reduceEqDiff, reduceCtorEq, qb, qp] <;> rfl) ?_
 refine Rq ?_
 refine Rq ?_
 refine Rq ?_
 refine Rq ?_
 refine A_store ty3 (by simp (disch := first | omega | (simp only [List.length_map, List.length_append, List.length_set, List.length_cons, List.length_nil]; omega)) only [go_sem, ↓reduceIte, Nat.reduceEqDiff, reduceCtorEq, qb, qp] <;> rfl) (by simp (disch := first | omega | (simp only [List.length_map, List.length_append, List.length_set, List.length_cons, List.length_nil]; omega)) only [go_sem, ↓reduceIte, Nat.reduceEqDiff, reduceCtorEq, qb, qp] <;> rfl) qb ⟨hlim, rfl, by simp; omega⟩ (k' := _) (by rw [setL_one, sAr] <;> rfl) ?_
 intro H2 w2
 have ho := ho.wrote w2
 have qp := (w2.old _ hpb).trans qp
 have qb := w2.new
 simp only [List.set_cons_succ, List.set_cons_zero] at qb
 have tr : ∀ a b c d e f g h i j k m n o p q r s t : AV, let l := lc_count_ok a b c d e f g h i j k; trim ((44,t)::(43,s)::(42,r)::(41,q)::(40,p)::(39,o)::(38,n)::(37,m)::l) l = lc_count_ok a b c d e f g h i j k := by intros; rfl
 refine R_nil (tr ..) ?_; clear tr
 refine then_n ?_
 refine at_seq rfl ?_
 refine rg rfl ?_
 refine Rq ?_
 refine Rq ?_
 refine Rq ?_
 refine R_q rfl (by simp (disch := first | omega | (simp only [List.length_map, List.length_append, List.length_set, List.length_cons, List.length_nil]; omega)) only [go_sem, ↓reduceIte, Nat.reduceEqDiff, reduceCtorEq, qb, qp] <;> rfl) ?_
 refine Rq ?_
 refine Rq ?_
 refine Rq ?_
 refine Rq ?_
 refine A_store ty3 (by simp (disch := first | omega | (simp only [List.length_map, List.length_append, List.length_set, List.length_cons, List.length_nil]; omega)) only [go_sem, ↓reduceIte, Nat.reduceEqDiff, reduceCtorEq, qb, qp] <;> rfl) (by simp (disch := first | omega | (simp only [List.length_map, List.length_append, List.length_set, List.length_cons, List.length_nil]; omega)) only [go_sem, ↓reduceIte, Nat.reduceEqDiff, reduceCtorEq, qb, qp] <;> rfl) qb ⟨hlim, rfl, by simp; omega⟩ (k' := _) (by rw [setL_one, sAr] <;> rfl) ?_
 intro H2 w2
 have ho := ho.wrote w2
 have qp := (w2.old _ hpb).trans qp
 have qb := w2.new
 simp only [List.set_cons_succ, List.set_cons_zero] at qb
 have tr : ∀ a b c d e f g h i j k m n o p q r s t : AV, let l := lc_count_ok a b c d e f g h i j k; trim ((52,t)::(51,s)::(50,r)::(49,q)::(48,p)::(47,o)::(46,n)::(45,m)::l) l = lc_count_ok a b c d e f g h i j k := by intros; rfl
 refine R_nil (tr ..) ?_; clear tr
 refine then_n ?_
 refine at_seq rfl ?_
 refine rg rfl ?_
 refine Rq ?_
 refine R_q rfl (by simp (disch := first | omega | (simp only [List.length_map, List.length_append, List.length_set, List.length_cons, List.length_nil]; omega)) only [go_sem, ↓reduceIte, Nat.reduceEqDiff, reduceCtorEq, qb, qp] <;> rfl) ?_
 have tr : ∀ a b c d e f g h i j k m n : AV, let l := lc_count_ok a b c d e f g h i j k; trim ((54,n)::(53,m)::l) l = lc_count_ok a b c d e f g h n j k := by intros; rfl
 refine R_nil (tr ..) ?_; clear tr
 refine then_n ?_
 refine at_block rfl ?_
 refine at_seq rfl ?_
 refine rg rfl ?_
 refine Rq ?_
 refine Rq ?_
 have tr : ∀ a b c d e f g h i j k m n : AV, let l := lc_count_ok a b c d e f g h i j k; trim ((62,n)::(63,m)::l) l = lc_count_ok a b c d e f g h i n k := by intros; rfl
 refine R_nil (tr ..) ?_; clear tr
 refine then_n ?_
 refine cdd (fun h1 => ?_) (fun h1 => ?_)
 ·
  try simp only [decide_eq_true_eq, decide_eq_false_iff_not, decide_eq_decide, Bool.not_eq_true', Bool.not_eq_false', beq_iff_eq, beq_eq_false_iff_ne, ne_eq, Bool.and_eq_true, Bool.and_eq_false_iff, decide_not] at h1
  refine at_seq rfl ?_
  refine rg rfl ?_
  refine Rq ?_
  refine Rq ?_
  refine Rq ?_
  refine R_q rfl (by simp (disch := first | omega | (simp only [List.length_map, List.length_append, List.length_set, List.length_cons, List.length_nil]; omega)) only [go_sem, ↓reduceIte, Nat.reduceEqDiff, reduceCtorEq, qb, qp] <;> rfl) ?_
  refine Rq ?_
  refine Rq ?_
  refine Rq ?_
  refine A_store ty3 (by simp (disch := first | omega | (simp only [List.length_map, List.length_append, List.length_set, List.length_cons, List.length_nil]; omega)) only [go_sem, ↓reduceIte, Nat.reduceEqDiff, reduceCtorEq, qb, qp] <;> rfl) (by simp (disch := first | omega | (simp only [List.length_map, List.length_append, List.length_set, List.length_cons, List.length_nil]; omega)) only [go_sem, ↓reduceIte, Nat.reduceEqDiff, reduceCtorEq, qb, qp] <;> rfl) qb ⟨hlim, rfl, by simp; omega⟩ (k' := _) (by rw [setL_one, sAr] <;> rfl) ?_
  intro H2 w2
  have ho := ho.wrote w2
  have qp := (w2.old _ hpb).trans qp
  have qb := w2.new
  simp only [List.set_cons_succ, List.set_cons_zero] at qb
  have tr : ∀ a b c d e f g h i j k m n o p q r s : AV, let l := lc_count_ok a b c d e f g h i j k; trim ((70,s)::(69,r)::(68,q)::(67,p)::(66,o)::(65,n)::(64,m)::l) l = lc_count_ok a b c d e f g h i j k := by intros; rfl
  refine R_nil (tr ..) ?_; clear tr
  refine then_n ?_
  refine rg rfl ?_
  refine Rq ?_
  refine Rq ?_
  refine Rq ?_
  refine R_q rfl (by simp (disch := first | omega | (simp only [List.length_map, List.length_append, List.length_set, List.length_cons, List.length_nil]; omega)) only [go_sem, ↓reduceIte, Nat.reduceEqDiff, reduceCtorEq, qb, qp] <;> rfl) ?_
  refine Rq ?_
  refine Rq ?_
  refine Rq ?_
  refine A_store ty3 (by simp (disch := first | omega | (simp only [List.length_map, List.length_append, List.length_set, List.length_cons, List.length_nil]; omega)) only [go_sem, ↓reduceIte, Nat.reduceEqDiff, reduceCtorEq, qb, qp] <;> rfl) (by simp (disch := first | omega | (simp only [List.length_map, List.length_append, List.length_set, List.length_cons, List.length_nil]; omega)) only [go_sem, ↓reduceIte, Nat.reduceEqDiff, reduceCtorEq, qb, qp] <;> rfl) qb ⟨hlim, rfl, by simp; omega⟩ (k' := _) (by rw [setL_one, sAr] <;> rfl) ?_
  intro H2 w2
  have ho := ho.wrote w2
  have qp := (w2.old _ hpb).trans qp
  have qb := w2.new
  simp only [List.set_cons_succ, List.set_cons_zero] at qb
  have tr : ∀ a b c d e f g h i j k m n o p q r s : AV, let l := lc_count_ok a b c d e f g h i j k; trim ((77,s)::(76,r)::(75,q)::(74,p)::(73,o)::(72,n)::(71,m)::l) l = lc_count_ok a b c d e f g h i j k := by intros; rfl
  refine R_nil (tr ..) ?_; clear tr
  refine blk_n ?_
  refine fin_own_n rfl rfl ?_
  refine ⟨rfl, qb.trans ?_, ho⟩
  refine congrArg (fun k => some (pre ++ k)) ?_
  first | (rw [cn_0 (by assumption)] <;> rfl) | (rw [cn_w (by assumption) (by assumption)] <;> rfl) | (rw [cn_l (by assumption) (by assumption)] <;> rfl)
 ·
  try simp only [decide_eq_true_eq, decide_eq_false_iff_not, decide_eq_decide, Bool.not_eq_true', Bool.not_eq_false', beq_iff_eq, beq_eq_false_iff_ne, ne_eq, Bool.and_eq_true, Bool.and_eq_false_iff, decide_not] at h1
  refine at_seq rfl ?_
  refine rg rfl ?_
  refine Rq ?_
  refine Rq ?_
  refine Rq ?_
  have tr : ∀ a b c d e f g h i j k m n o : AV, let l := lc_count_ok a b c d e f g h i j k; trim ((78,o)::(80,n)::(79,m)::l) l = lc_count_ok a b c d e f g h i j o := by intros; rfl
  refine R_nil (tr ..) ?_; clear tr
  refine then_n ?_
  refine cdd (fun h2 => ?_) (fun h2 => ?_)
  ·
   try simp only [decide_eq_true_eq, decide_eq_false_iff_not, decide_eq_decide, Bool.not_eq_true', Bool.not_eq_false', beq_iff_eq, beq_eq_false_iff_ne, ne_eq, Bool.and_eq_true, Bool.and_eq_false_iff, decide_not] at h2
   refine at_seq rfl ?_
   refine rg rfl ?_
   refine Rq ?_
   refine Rq ?_
   refine Rq ?_
   refine R_q rfl (by simp (disch := first | omega | (simp only [List.length_map, List.length_append, List.length_set, List.length_cons, List.length_nil]; omega)) only [go_sem, ↓reduceIte, Nat.reduceEqDiff, reduceCtorEq, qb, qp] <;> rfl) ?_
   refine Rq ?_
   refine Rq ?_
   refine Rq ?_
   refine A_store ty3 (by simp (disch := first | omega | (simp only [List.length_map, List.length_append, List.length_set, List.length_cons, List.length_nil]; omega)) only [go_sem, ↓reduceIte, Nat.reduceEqDiff, reduceCtorEq, qb, qp] <;> rfl) (by simp (disch := first | omega | (simp only [List.length_map, List.length_append, List.length_set, List.length_cons, List.length_nil]; omega)) only [go_sem, ↓reduceIte, Nat.reduceEqDiff, reduceCtorEq, qb, qp] <;> rfl) qb ⟨hlim, rfl, by simp; omega⟩ (k' := _) (by rw [setL_one, sAr] <;> rfl) ?_
   intro H2 w2
   have ho := ho.wrote w2
   have qp := (w2.old _ hpb).trans qp
   have qb := w2.new
   simp only [List.set_cons_succ, List.set_cons_zero] at qb
   have tr : ∀ a b c d e f g h i j k m n o p q r s : AV, let l := lc_count_ok a b c d e f g h i j k; trim ((87,s)::(86,r)::(85,q)::(84,p)::(83,o)::(82,n)::(81,m)::l) l = lc_count_ok a b c d e f g h i j k := by intros; rfl
   refine R_nil (tr ..) ?_; clear tr
   refine then_n ?_
   refine rg rfl ?_
   refine Rq ?_
   refine Rq ?_
   refine Rq ?_
   refine R_q rfl (by simp (disch := first | omega | (simp only [List.length_map, List.length_append, List.length_set, List.length_cons, List.length_nil]; omega)) only [go_sem, ↓reduceIte, Nat.reduceEqDiff, reduceCtorEq, qb, qp] <;> rfl) ?_
   refine Rq ?_
   refine Rq ?_
   refine Rq ?_
   refine A_store ty3 (by simp (disch := first | omega | (simp only [List.length_map, List.length_append, List.length_set, List.length_cons, List.length_nil]; omega)) only [go_sem, ↓reduceIte, Nat.reduceEqDiff, reduceCtorEq, qb, qp] <;> rfl) (by simp (disch := first | omega | (simp only [List.length_map, List.length_append, List.length_set, List.length_cons, List.length_nil]; omega)) only [go_sem, ↓reduceIte, Nat.reduceEqDiff, reduceCtorEq, qb, qp] <;> rfl) qb ⟨hlim, rfl, by simp; omega⟩ (k' := _) (by rw [setL_one, sAr] <;> rfl) ?_
   intro H2 w2
   have ho := ho.wrote w2
   have qp := (w2.old _ hpb).trans qp
   have qb := w2.new
   simp only [List.set_cons_succ, List.set_cons_zero] at qb
   have tr : ∀ a b c d e f g h i j k m n o p q r s : AV, let l := lc_count_ok a b c d e f g h i j k; trim ((94,s)::(93,r)::(92,q)::(91,p)::(90,o)::(89,n)::(88,m)::l) l = lc_count_ok a b c d e f g h i j k := by intros; rfl
   refine R_nil (tr ..) ?_; clear tr
   refine blk_n ?_
   refine fin_own_n rfl rfl ?_
   refine ⟨rfl, qb.trans ?_, ho⟩
   refine congrArg (fun k => some (pre ++ k)) ?_
   first | (rw [cn_0 (by assumption)] <;> rfl) | (rw [cn_w (by assumption) (by assumption)] <;> rfl) | (rw [cn_l (by assumption) (by assumption)] <;> rfl)
  ·
   try simp only [decide_eq_true_eq, decide_eq_false_iff_not, decide_eq_decide, Bool.not_eq_true', Bool.not_eq_false', beq_iff_eq, beq_eq_false_iff_ne, ne_eq, Bool.and_eq_true, Bool.and_eq_false_iff, decide_not] at h2
   refine rg rfl ?_
   refine Rq ?_
   refine Rq ?_
   refine Rq ?_
   refine R_q rfl (by simp (disch := first | omega | (simp only [List.length_map, List.length_append, List.length_set, List.length_cons, List.length_nil]; omega)) only [go_sem, ↓reduceIte, Nat.reduceEqDiff, reduceCtorEq, qb, qp] <;> rfl) ?_
   refine Rq ?_
   refine Rq ?_
   refine Rq ?_
   refine A_store ty3 (by simp (disch := first | omega | (simp only [List.length_map, List.length_append, List.length_set, List.length_cons, List.length_nil]; omega)) only [go_sem, ↓reduceIte, Nat.reduceEqDiff, reduceCtorEq, qb, qp] <;> rfl) (by simp (disch := first | omega | (simp only [List.length_map, List.length_append, List.length_set, List.length_cons, List.length_nil]; omega)) only [go_sem, ↓reduceIte, Nat.reduceEqDiff, reduceCtorEq, qb, qp] <;> rfl) qb ⟨hlim, rfl, by simp; omega⟩ (k' := _) (by rw [setL_one, sAr] <;> rfl) ?_
   intro H2 w2
   have ho := ho.wrote w2
   have qp := (w2.old _ hpb).trans qp
   have qb := w2.new
   simp only [List.set_cons_succ, List.set_cons_zero] at qb
   have tr : ∀ a b c d e f g h i j k m n o p q r s : AV, let l := lc_count_ok a b c d e f g h i j k; trim ((61,s)::(60,r)::(59,q)::(58,p)::(57,o)::(56,n)::(55,m)::l) l = lc_count_ok a b c d e f g h i j k := by intros; rfl
   refine R_nil (tr ..) ?_; clear tr
   refine blk_n ?_
   refine fin_own_n rfl rfl ?_
   refine ⟨rfl, qb.trans ?_, ho⟩
   refine congrArg (fun k => some (pre ++ k)) ?_
   first | (rw [cn_0 (by assumption)] <;> rfl) | (rw [cn_w (by assumption) (by assumption)] <;> rfl) | (rw [cn_l (by assumption) (by assumption)] <;> rfl)

theorem count2_ok (lim : Nat) (H : Heap) (b : Nat) (zs : List St) (h : Nat) (hh : h < zs.length) (hlim : lim ≤ b) (hb : hget H b = some (flatZ zs)) (u : Nat) (hu : u ≤ 400) (hz : StI u (gz zs h).tm (gz zs h)) (p : Pl) (r q o a w : Int) (hr : 0 ≤ r ∧ r ≤ 2000) (hq : 0 ≤ q ∧ q ≤ 1000) (hor : 0 ≤ o ∧ o ≤ 2000) (ha : 0 ≤ a ∧ a ≤ 1000) (hw : w = 1 ∨ w = 2) :
    ACall sig lim 20 [.ptr b (h * 10), .agg (plC p), AV.i r, AV.i q, AV.i o, AV.i a, AV.i w] H fun x H' => x = .tup [] ∧ hget H' b = some (flatZ (zs.set h (cnS (gz zs h) p.wi r q o a w))) ∧ But b H H' := by
  have e := count_ok lim H b (flatZ (zs.take h)) (flatZ (zs.drop (h + 1))) (gz zs h) hlim (by rw [hb, flatZ_cut hh]) u hu hz p r q o a w hr hq hor ha hw
  rw [take_len hh, ← flatZ_put hh] at e
  exact e
end Go.Proofs.Ytdmeioppkannlaa
end
section
set_option linter.unusedSimpArgs false
set_option linter.unusedVariables false
set_option maxHeartbeats 1000000
set_option maxRecDepth 20000
namespace Go.Proofs.Ytdmeioppkannlaa
open Go Go.Am
abbrev lc_within_ok (a b c : AV) : Env := [(0,a),(1,b),(4,c)]
theorem within_ok (lim : Nat) (H : Heap) (n hi : Int) : ACall sig lim 31 [AV.i n, AV.i hi] H fun r H' => r = .v (.bool (decide (0 ≤ n ∧ n ≤ hi))) ∧ H' = H := by
 refine ACall_pure (fa := fa31) rfl rfl rfl rfl ?_
 have tr : ∀ a0 a1 : AV, env0 fa31.keep [a0, a1] = lc_within_ok a0 a1 .any := fun a0 a1 => rfl
 refine W_to (tr _ _) ?_; clear tr
 refine at_seq rfl ?_
 refine rg rfl ?_
 refine Rq ?_
 have tr : ∀ a b c d : AV, let l := lc_within_ok a b c; trim ((4,d)::l) l = lc_within_ok a b d := by intros; rfl
 refine R_nil (tr ..) ?_; clear tr
 refine then_n ?_
 refine at_seq rfl ?_
 refine rg rfl ?_
 refine Rq ?_
 refine Rq ?_
 refine Rq ?_
 refine Rp_split (fun h1 => ?_) (fun h1 => ?_)
 ·
  try simp only [decide_eq_true_eq, decide_eq_false_iff_not, decide_eq_decide, Bool.not_eq_true', Bool.not_eq_false', beq_iff_eq, beq_eq_false_iff_ne, ne_eq, Bool.and_eq_true, Bool.and_eq_false_iff, decide_not] at h1
  refine Ry ?_
  refine Rq ?_
  refine Ry ?_
  refine Rq ?_
  refine Ry ?_
  refine Rq ?_
  refine Rq ?_
  refine Rq ?_
  have tr : ∀ a b c d e f g h i j k : AV, let l := lc_within_ok a b c; trim ((4,k)::(11,j)::(10,i)::(9,h)::(8,g)::(7,f)::(6,e)::(5,d)::l) l = lc_within_ok a b k := by intros; rfl
  refine R_nil (tr ..) ?_; clear tr
  refine then_n ?_
  refine at_ret rfl ?_
  refine fpure ?_
  refine ⟨?_, rfl⟩
  refine congrArg (fun b => AV.v (.bool b)) ?_
  first | rfl | exact (decide_eq_false (by omega)).symm | exact (decide_eq_true (by omega)).symm | (rw [decide_eq_decide]; omega) | (simp; omega)
 ·
  try simp only [decide_eq_true_eq, decide_eq_false_iff_not, decide_eq_decide, Bool.not_eq_true', Bool.not_eq_false', beq_iff_eq, beq_eq_false_iff_ne, ne_eq, Bool.and_eq_true, Bool.and_eq_false_iff, decide_not] at h1
  refine Rn ?_
  refine Rn ?_
  refine Rn ?_
  refine Rq ?_
  refine Rq ?_
  have tr : ∀ a b c d e f g h i j k : AV, let l := lc_within_ok a b c; trim ((4,k)::(11,j)::(10,i)::(9,h)::(8,g)::(7,f)::(6,e)::(5,d)::l) l = lc_within_ok a b k := by intros; rfl
  refine R_nil (tr ..) ?_; clear tr
  refine then_n ?_
  refine at_ret rfl ?_
  refine fpure ?_
  refine ⟨?_, rfl⟩
  refine congrArg (fun b => AV.v (.bool b)) ?_
  first | rfl | exact (decide_eq_false (by omega)).symm | exact (decide_eq_true (by omega)).symm | (rw [decide_eq_decide]; omega) | (simp; omega)

end Go.Proofs.Ytdmeioppkannlaa
end
