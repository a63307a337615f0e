/-
  Texts of RaceStays, part 9 of 16. The points after results: memory, and what the statement asks of the answers.
-/
import Derived.Test.YtdicnojnkbmdlaaKRaceStays7
import Derived.Test.YtdicnojnkbmdlaaKRaceStays6
import Derived.Test.YtdicnojnkbmdlaaKRaceStays5
section
set_option linter.unusedVariables false
namespace Go.Proofs.Ytdicnojnkbmdlaa
open Go Go.Am
theorem most_of {P : List Int} {L : List Pr} {t : Int} (h : (mostS P L t).2 = 0) : ROK P L ∧ 0 ≤ t ∧ t < P.length := by
  unfold mostS at h
  split at h
  · rename_i h1; exact absurd h h1
  split at h
  · cases h
  rename_i h1 h2
  exact ⟨rok_of (Decidable.not_not.mp h1), by omega, by omega⟩
theorem nil40 (n : Nat) (l : List AV) (h : 0 < n) : binV Try.prog .eql 40 (.sl n l) (.v (.slice none 0 0)) = some (.v (.bool false)) := by
  simp only [binV, tk40, nilB]
  rw [if_pos h]
  rfl
theorem bs40e (lim : Nat) (H : Heap) (ev : Operand → AV) : effV Try.prog lim (.buildSlice 40 0 #[]) ev H = some (.own 1 H.length 0 0, H ++ [some []]) := by
  simp only [effV, tk40, ty3]
  rw [if_pos ⟨rfl, by decide, by decide⟩]
  rfl
theorem app40e {lim : Nat} {H : Heap} {b : Nat} {l : List Int} (hb : hget H b = some []) (hl : lim ≤ b) (hm : l.length ≤ 1000000) :
    ∃ H', appendV Try.prog lim H 40 (.own 1 b 0 0) (intsAV l) = some (.own 1 H.length 0 l.length, H') ∧ MGrew H b H' (l.map AV.i) := by
  refine ⟨_, ?_, MGrew.of _ _ _⟩
  simp only [appendV, tk40, ty3, srcCells, hb, Nat.mul_one, List.length_map]
  rw [if_pos (Nat.le_refl _)]
  simp only
  rw [if_pos ⟨rfl, by decide, by rw [List.take_of_length_le (by simp)]; induction l with | nil => rfl | cons x l ih => rw [List.map_cons, List.all_cons, ih (by simp at hm; omega)]; rfl⟩]
  simp only [List.drop_nil, List.take_nil, List.nil_append, Nat.zero_add]
  rw [if_pos ⟨hl, trivial, by simp, by omega, by omega⟩, List.take_of_length_le (by simp)]
theorem playA_ok {P : List Int} {L : List Pr} {R : List Int} (h1 : rchkS P L = 0) (h2 : R.length = L.length) (h3 : resOK R) : playA P L R = intsAV (playN P L R L.length) ∧ playE P L R = 0 := by
  constructor
  · rw [playA, if_neg (by rintro (h | h | h); exact h h1; exact h h2; exact h h3)]
  · rw [playE, if_neg (fun hh => hh h1), if_neg (fun hh => hh h2), if_neg (fun hh => hh h3)]
theorem playA_1 {P : List Int} {L : List Pr} {R : List Int} (h1 : rchkS P L ≠ 0) : playA P L R = nilP ∧ playE P L R = rchkS P L := ⟨by rw [playA, if_pos (.inl h1)], by rw [playE, if_pos h1]⟩
theorem playA_2 {P : List Int} {L : List Pr} {R : List Int} (h1 : rchkS P L = 0) (h2 : R.length ≠ L.length) : playA P L R = nilP ∧ playE P L R = 1 := ⟨by rw [playA, if_pos (.inr (.inl h2))], by rw [playE, if_neg (fun hh => hh h1), if_pos h2]⟩
theorem playA_3 {P : List Int} {L : List Pr} {R : List Int} (h1 : rchkS P L = 0) (h2 : R.length = L.length) (h3 : ¬ resOK R) : playA P L R = nilP ∧ playE P L R = 2 :=
  ⟨by rw [playA, if_pos (.inr (.inr h3))], by rw [playE, if_neg (fun hh => hh h1), if_neg (fun hh => hh h2), if_pos h3]⟩
end Go.Proofs.Ytdicnojnkbmdlaa
end
section
set_option linter.unusedVariables false
namespace Go.Proofs.Ytdicnojnkbmdlaa
open Go Go.Am

theorem most_eq {P : List Int} {L : List Pr} {t : Int} (h : (mostS P L t).2 = 0) : (mostS P L t).1 = mostN P L t L.length := by
  unfold mostS at h ⊢
  split at h
  · rename_i h1; exact absurd h h1
  split at h
  · cases h
  rename_i h1 h2
  rw [if_neg h1, if_neg h2]
/-- The first team that has more points than another one can have. -/
def badN (P : List Int) (goal : Int) : Nat → Int
  | 0 => -1
  | u + 1 => if badN P goal u ≠ -1 then badN P goal u else if goal < gt P u then u else -1
theorem bad_at {P : List Int} {goal : Int} {u : Nat} (h : badN P goal u = -1) (h2 : goal < gt P u) : ∀ k, u < k → badN P goal k = u
  | 0, hk => by omega
  | k + 1, hk => by
    rw [badN]
    by_cases hu : u = k
    · subst hu; rw [if_neg (fun hh => hh h), if_pos h2]
    · rw [bad_at h h2 k (by omega), if_pos (by omega)]
theorem bad_on {P : List Int} {goal : Int} {u : Nat} (h : badN P goal u = -1) (h1 : ¬ goal < gt P u) : badN P goal (u + 1) = -1 := by
  rw [badN, if_neg (fun hh => hh h), if_neg h1]
theorem bad_all {P : List Int} {goal : Int} : ∀ {n : Nat}, badN P goal n = -1 → ∀ i, i < n → gt P i ≤ goal
  | 0, _, i, hi => by omega
  | n + 1, h, i, hi => by
    rw [badN] at h
    split at h
    · rename_i h1; exact absurd h h1
    split at h
    · omega
    rename_i h1 h2
    by_cases hn : i = n
    · subst hn; omega
    · exact bad_all (Decidable.not_not.mp h1) i (by omega)
theorem bad_some {P : List Int} {goal : Int} : ∀ {n : Nat}, badN P goal n ≠ -1 → ∃ k : Nat, k < n ∧ badN P goal n = k ∧ goal < gt P k
  | 0, h => absurd rfl h
  | n + 1, h => by
    rw [badN] at h ⊢
    by_cases h1 : badN P goal n ≠ -1
    · rw [if_pos h1]
      obtain ⟨k, h2, h3⟩ := bad_some h1
      exact ⟨k, by omega, h3⟩
    · rw [if_neg h1] at h ⊢
      by_cases h2 : goal < gt P n
      · rw [if_pos h2]; exact ⟨n, by omega, rfl, h2⟩
      · rw [if_neg h2] at h; exact absurd rfl h
noncomputable def firstB (P : List Int) (L : List Pr) (t : Int) : Bool :=
  if (mostS P L t).2 ≠ 0 then false else if badN P (mostS P L t).1 P.length ≠ -1 then false else posB P L (mostS P L t).1 t
noncomputable def firstS (P : List Int) (L : List Pr) (t : Int) : List Int :=
  if (mostS P L t).2 ≠ 0 then [] else if badN P (mostS P L t).1 P.length ≠ -1 then [badN P (mostS P L t).1 P.length] else if posB P L (mostS P L t).1 t = true then [] else setN P L (mostS P L t).1 t P.length
section
variable {P : List Int} {L : List Pr} {t : Int}
theorem first_e (h : (mostS P L t).2 ≠ 0) : firstB P L t = false ∧ firstS P L t = [] := by simp only [firstB, firstS, if_pos h]; exact ⟨trivial, trivial⟩
theorem first_b (h : (mostS P L t).2 = 0) (hb : badN P (mostS P L t).1 P.length ≠ -1) : firstB P L t = false ∧ firstS P L t = [badN P (mostS P L t).1 P.length] :=
  ⟨by rw [firstB, if_neg (fun hh => hh h), if_pos hb], by rw [firstS, if_neg (fun hh => hh h), if_pos hb]⟩
theorem first_y (h : (mostS P L t).2 = 0) (hb : badN P (mostS P L t).1 P.length = -1) (hp : posB P L (mostS P L t).1 t = true) : firstB P L t = true ∧ firstS P L t = [] :=
  ⟨by rw [firstB, if_neg (fun hh => hh h), if_neg (fun hh => hh hb), hp], by rw [firstS, if_neg (fun hh => hh h), if_neg (fun hh => hh hb), if_pos hp]⟩
theorem first_n (h : (mostS P L t).2 = 0) (hb : badN P (mostS P L t).1 P.length = -1) (hp : posB P L (mostS P L t).1 t = false) : firstB P L t = false ∧ firstS P L t = setN P L (mostS P L t).1 t P.length :=
  ⟨by rw [firstB, if_neg (fun hh => hh h), if_neg (fun hh => hh hb), hp], by rw [firstS, if_neg (fun hh => hh h), if_neg (fun hh => hh hb), if_neg (by rw [hp]; decide)]⟩
end
/-- Results that make a team first, and in which it wins its own matches. -/
def VR (P : List Int) (L : List Pr) (t : Int) (R : List Int) : Prop :=
  resOK R ∧ R.length = L.length ∧ (∀ k, k < P.length → gt (playN P L R L.length) k ≤ gt (playN P L R L.length) t.toNat) ∧ ∀ u, u < L.length → ((gt L u).a = t → gt R u = 2) ∧ ((gt L u).b = t → gt R u = 0)
theorem bf_congr {N q : Nat} {Q : List Pr} {c c' : Nat → Int} {P : List Int} {goal t : Int} {x y y' z e : Nat → Int} {T V : Nat → Bool} (B : BF N q Q c P goal t x y z e T V) (hc : ∀ i, i < q → c' i = c i) (hy : ∀ i, i < q → y' i = y i) : BF N q Q c' P goal t x y' z e T V :=
  ⟨B.qa, fun i hi => by rw [hc i hi]; exact B.x0 i hi, fun i hi => by rw [hc i hi, hy i hi]; exact B.y0 i hi, fun i hi => by rw [hc i hi]; exact B.z0 i hi, B.e0, fun i hi => by rw [hy i hi]; exact B.pc i hi,
   fun k hk hkt => by rw [B.tc k hk hkt]; exact sumN_congr q fun i hi => by rw [hy i hi], fun i hi => by rw [hc i hi]; exact B.r1 i hi, fun i hi => by rw [hc i hi, hy i hi]; exact B.r2 i hi, fun i hi => by rw [hc i hi]; exact B.r3 i hi, fun i hi => by rw [hy i hi]; exact B.r4 i hi, B.r5, B.r6, B.r7⟩
theorem vr_of {P : List Int} {L : List Pr} {t goal pb tb n : Int} {f : List Int} {sn : List Bool} (g : ROK P L) (t0 : 0 ≤ t) (t1 : t < P.length) (hg : goal = mostN P L t L.length) (C : Cut P L (pQ L t) goal t pb tb n f sn) (hp : posB P L goal t = true) :
    VR P L t (resN (pQ L t) t L (yN f (pQ L t).length (pQ L t).length) L.length).2 := by
  have W : PQ L t (pQ L t) := (pq_prog L t L.length).to
  have hQ := pQ_nq L t
  obtain ⟨x, z, e, T, V, B, hx⟩ := C.bf
  have hy : ∀ i, i < (pQ L t).length → gt (yN f (pQ L t).length (pQ L t).length) i = gt f (3 * i + 1) := fun i hi => by rw [yN_gt _ _ _ (Nat.le_refl _), if_pos hi]
  have hY : ∀ i, 0 ≤ gt (yN f (pQ L t).length (pQ L t).length) i := fun i => by
    rw [yN_gt _ _ _ (Nat.le_refl _)]
    split
    · exact (B.y0 i (by assumption)).1
    · exact Int.le_refl _
  have B' := bf_congr (c' := fun i => cnlN L t (gt (pQ L t) i) L.length) (y' := fun i => gt (yN f (pQ L t).length (pQ L t).length) i) B (fun i hi => by show _ = cnlN L t (norm (gt (pQ L t) i)) L.length; rw [hQ i hi]) hy
  have hfull := C.full.2 hp
  have hl := res_len (pQ L t) t L (yN f (pQ L t).length (pQ L t).length) L.length
  have hr := res_ok hY (Q := pQ L t) (t := t) (L := L) L.length (Nat.le_refl _)
  have hgoal := res_goal g t0 hY (Q := pQ L t) L.length (Nat.le_refl _)
  refine ⟨fun i hi => hr.2.1 i, hl.2, fun k hk => ?_, fun u hu => ?_⟩
  · rw [hgoal, ← hg]
    by_cases hkt : (k : Int) = t
    · have : k = t.toNat := by omega
      rw [this, hgoal, ← hg]; exact Int.le_refl _
    · exact res_first g W hQ (yN_len _ _ _) B' hY (fun i hi => by rw [hx i, hfull i hi]; show cnlN L t (norm (gt (pQ L t) i)) L.length = _; rw [hQ i hi]) k hk hkt
  · have ho := res_own (Q := pQ L t) (t := t) hY hu
    refine ⟨ho.1, fun hb => ?_⟩
    by_cases ha : (gt L u).a = t
    · have := g.ed u hu; omega
    · exact ho.2 ha hb
/-- What is known of the flow that First reads. -/
theorem first_sum {P : List Int} {L : List Pr} {t : Int} (hm : (mostS P L t).2 = 0) (hp : ∀ k, k < P.length → gt P k ≤ (mostS P L t).1) {Q : List Pr} (W : PQ L t Q) {pb tb n : Int} (ly : LayG pb tb n Q.length P.length) (hn : n = 2 + P.length + Q.length) :
    ∃ E f sn, gE pb tb (cQ L t Q) Q P t (mostS P L t).1 = E ∧ maxF n 0 1 E = f ∧ (reachS n 0 E f).seen = sn ∧ gchkS n 0 1 E = 0 ∧ 3 * Q.length ≤ E.length ∧ E.length ≤ 3 * Q.length + P.length ∧ f.length = E.length ∧ sn.length = n.toNat ∧ (∀ i, i < Q.length → (gt E (3 * i)).c = cQ L t Q i) ∧
      (∀ i, i < Q.length → (0 ≤ gt f (3 * i) ∧ gt f (3 * i) ≤ 1073741824) ∧ 0 ≤ gt f (3 * i + 1) ∧ gt f (3 * i + 1) ≤ 1073741824) ∧ Cut P L Q (mostS P L t).1 t pb tb n f sn := by
  obtain ⟨g, t0, t1⟩ := most_of hm
  have hc := cut_race g t0 t1 (most_eq hm) hp W ly hn
  have hlen := gE_len pb tb (cQ L t Q) Q P t (mostS P L t).1
  obtain ⟨F, _⟩ := maxF_ok hc.1
  obtain ⟨_, so, _, _⟩ := reach_inv (maxF n 0 1 (gE pb tb (cQ L t Q) Q P t (mostS P L t).1)) (gok_of hc.1)
  have hr := fRng_cap (gok_of hc.1) F.rng
  refine ⟨_, _, _, rfl, rfl, rfl, hc.1, hlen.1, hlen.2, F.len, so.seen, fun i hi => ?_, fun i hi => ⟨hr _ (by omega), hr _ (by omega)⟩, hc.2⟩
  have := gE_pair pb tb (cQ L t Q) Q P t (mostS P L t).1 i 0 hi (by omega)
  rw [Nat.add_zero] at this
  rw [this]; rfl
theorem set_ne {P : List Int} {L : List Pr} {goal t : Int} (h : inT P L goal t t.toNat = false) (t0 : 0 ≤ t) {k : Nat} (hk : k < P.length) (hT : inT P L goal t k = true) : setN P L goal t P.length ≠ [] := fun hh => by
  have := ((set_ok h t0 P.length).2 k hk).2 hT
  rw [hh] at this; cases this
theorem full_on {f : List Int} {c : Nat → Int} {i : Nat} {full : Bool} (hf : full = true ↔ ∀ k, k < i → gt f (3 * k) = c k) (h : full = true) : (gt f (3 * i) == c i) = true ↔ ∀ k, k < i + 1 → gt f (3 * k) = c k := by
  rw [beq_iff_eq]
  refine ⟨fun he k hk => ?_, fun hh => hh i (by omega)⟩
  by_cases hki : k = i
  · subst hki; exact he
  · exact hf.1 h k (by omega)
theorem full_off {f : List Int} {c : Nat → Int} {i : Nat} {full : Bool} (hf : full = true ↔ ∀ k, k < i → gt f (3 * k) = c k) (h : full = false) : (false = true) ↔ ∀ k, k < i + 1 → gt f (3 * k) = c k := by
  constructor
  · intro hh; cases hh
  · intro hh; rw [← h]; exact hf.2 fun k hk => hh k (by omega)
/-- What First answers: the program, and the reference. -/
def FirstP (P : List Int) (L : List Pr) (t : Int) (r : AV) : Prop :=
  ∃ (R : List Int) (o : AV), r = .tup [.agg [.v (.bool (firstB P L t)), outA (firstS P L t), o], AV.i (mostS P L t).2] ∧ ((firstB P L t = false ∧ R = [] ∧ o = nilP) ∨ (firstB P L t = true ∧ o = intsAV R ∧ VR P L t R))
def FirstQ (P : List Int) (L : List Pr) (t : Int) (r : AV) : Prop :=
  ∃ (R : List Int), r = .tup [.agg [.v (.bool (firstB P L t)), outA (firstS P L t), outA R], AV.i (mostS P L t).2] ∧ ((firstB P L t = false ∧ R = []) ∨ (firstB P L t = true ∧ R.length = L.length))
theorem inT_new {lo b : Nat} {H H' : Heap} {P : List Int} {L : List Pr} {goal t : Int} {j m : Nat} (g : MGrew H b H' ((setN P L goal t j ++ [(j : Int)]).map AV.i)) (hlo : lo ≤ H.length) (h : inT P L goal t j = true) (hm : m = (setN P L goal t j).length + 1) : OutI lo H' (.own 1 H.length 0 m) (setN P L goal t (j + 1)) := by
  rw [setN, if_pos h]; exact OutI.new g hlo hm
theorem inT_old {lo : Nat} {H : Heap} {P : List Int} {L : List Pr} {goal t : Int} {j : Nat} {o : AV} (hO : OutI lo H o (setN P L goal t j)) (h : inT P L goal t j = false) : OutI lo H o (setN P L goal t (j + 1)) := by
  rw [setN, if_neg (by rw [h]; decide)]; exact hO
theorem setN_len (P : List Int) (L : List Pr) (goal t : Int) : ∀ u, (setN P L goal t u).length ≤ u
  | 0 => Nat.le_refl _
  | u + 1 => by
    have := setN_len P L goal t u
    rw [setN]
    split
    · simp; omega
    · omega
theorem in_not {P : List Int} {L : List Pr} {goal t : Int} (h : inT P L goal t t.toNat = false) (t0 : 0 ≤ t) {j : Nat} (hj : (j : Int) = t) : inT P L goal t j = false := by rw [← h, ← hj, Int.toNat_natCast]
end Go.Proofs.Ytdicnojnkbmdlaa
end
section
set_option linter.unusedVariables false
namespace Go.Proofs.Ytdicnojnkbmdlaa
open Go Go.Am
theorem bld46A (R : List Int) : buildV Try.prog 46 [(0, .v (.bool true)), (2, outA R)] = some (.agg [.v (.bool true), .v (.slice none 0 0), outA R]) := by
  unfold outA
  split
  · exact bld46rn _ _ _
  · exact bld46rs _ _ _
theorem storA (R : List Int) : storable (outA R) = true := by
  unfold outA
  split <;> rfl
end Go.Proofs.Ytdicnojnkbmdlaa
end
section
set_option linter.unusedVariables false
namespace Go.Proofs.Ytdicnojnkbmdlaa
open Go Go.Am
/-- A list of numbers as data: a slice, or nil if there are none. -/
def IsA (a : AV) (l : List Int) : Prop := a = intsAV l ∨ (l = [] ∧ a = nilP)
theorem IsA.len {a : AV} {l : List Int} (h : IsA a l) : lenV (tyOf Try.prog 40) a = some (AV.i (l.length : Nat)) := by
  rcases h with rfl | ⟨rfl, rfl⟩
  · simp only [lenV, ty40, kOf, Option.map_some]
  · simp only [lenV, ty40, kOf, Option.map_some]; rfl
theorem IsA.stor {a : AV} {l : List Int} (h : IsA a l) : storable a = true := by
  rcases h with rfl | ⟨rfl, rfl⟩ <;> rfl
theorem isA_ints (l : List Int) : IsA (intsAV l) l := .inl rfl
theorem isA_out (l : List Int) : IsA (outA l) l := by
  unfold outA
  split
  · rename_i h; exact .inr ⟨h, rfl⟩
  · exact .inl rfl
def memB (S : List Int) (k : Nat) : Bool := decide ((k : Int) ∈ S)
def sumS (P S : List Int) : Nat → Int
  | 0 => 0
  | i + 1 => sumS P S i + gt P (gt S i).toNat
def play2e (P : List Int) (L : List Pr) (t : Int) (R : List Int) : Prop := ∃ k, k < P.length ∧ gt (playN P L R L.length) t.toNat < gt (playN P L R L.length) k
open Classical in
noncomputable def posS (P : List Int) (L : List Pr) (t : Int) (S R : List Int) : Int :=
  if 0 < S.length ∨ R.length ≠ L.length ∨ ¬ resOK R then 4 else if play2e P L t R then 13 else 0
open Classical in
noncomputable def elimS (P : List Int) (L : List Pr) (t G : Int) (S R : List Int) : Int :=
  if 0 < R.length ∨ S.length = 0 ∨ ¬ setOK t S P.length then 4 else if sumS P S S.length + inN (memB S) L L.length ≤ S.length * G then 13 else 0
noncomputable def accS (P : List Int) (L : List Pr) (t : Int) (b : Bool) (S R : List Int) : Int :=
  if (mostS P L t).2 ≠ 0 then (mostS P L t).2 else if b = true then posS P L t S R else elimS P L t (mostS P L t).1 S R
theorem posS_a {P : List Int} {L : List Pr} {t : Int} {S R : List Int} (h : 0 < S.length ∨ R.length ≠ L.length ∨ ¬ resOK R) : posS P L t S R = 4 := by rw [posS, if_pos h]
theorem posS_b {P : List Int} {L : List Pr} {t : Int} {S R : List Int} (h1 : ¬ 0 < S.length) (h2 : R.length = L.length) (h3 : resOK R) (h : play2e P L t R) : posS P L t S R = 13 := by
  rw [posS, if_neg (by rintro (hh | hh | hh); exact h1 hh; exact hh h2; exact hh h3), if_pos h]
theorem posS_c {P : List Int} {L : List Pr} {t : Int} {S R : List Int} (h1 : ¬ 0 < S.length) (h2 : R.length = L.length) (h3 : resOK R) (h : ¬ play2e P L t R) : posS P L t S R = 0 := by
  rw [posS, if_neg (by rintro (hh | hh | hh); exact h1 hh; exact hh h2; exact hh h3), if_neg h]
theorem elimS_a {P : List Int} {L : List Pr} {t G : Int} {S R : List Int} (h : 0 < R.length ∨ S.length = 0 ∨ ¬ setOK t S P.length) : elimS P L t G S R = 4 := by rw [elimS, if_pos h]
theorem elimS_b {P : List Int} {L : List Pr} {t G : Int} {S R : List Int} (h1 : ¬ 0 < R.length) (h2 : ¬ S.length = 0) (h3 : setOK t S P.length) (h : sumS P S S.length + inN (memB S) L L.length ≤ S.length * G) : elimS P L t G S R = 13 := by
  rw [elimS, if_neg (by rintro (hh | hh | hh); exact h1 hh; exact h2 hh; exact hh h3), if_pos h]
theorem elimS_c {P : List Int} {L : List Pr} {t G : Int} {S R : List Int} (h1 : ¬ 0 < R.length) (h2 : ¬ S.length = 0) (h3 : setOK t S P.length) (h : ¬ sumS P S S.length + inN (memB S) L L.length ≤ S.length * G) : elimS P L t G S R = 0 := by
  rw [elimS, if_neg (by rintro (hh | hh | hh); exact h1 hh; exact h2 hh; exact hh h3), if_neg h]
theorem accS_e {P : List Int} {L : List Pr} {t : Int} {b : Bool} {S R : List Int} (h : (mostS P L t).2 ≠ 0) : accS P L t b S R = (mostS P L t).2 := by rw [accS, if_pos h]
theorem accS_t {P : List Int} {L : List Pr} {t : Int} {S R : List Int} (h : (mostS P L t).2 = 0) : accS P L t true S R = posS P L t S R := by rw [accS, if_neg (fun hh => hh h), if_pos rfl]
theorem accS_f {P : List Int} {L : List Pr} {t : Int} {S R : List Int} (h : (mostS P L t).2 = 0) : accS P L t false S R = elimS P L t (mostS P L t).1 S R := by rw [accS, if_neg (fun hh => hh h), if_neg (by decide)]
theorem sumS_rng {P S : List Int} (hp : ∀ i, i < P.length → 0 ≤ gt P i ∧ gt P i ≤ 800) : ∀ u, (∀ i, i < u → 0 ≤ gt S i ∧ gt S i < P.length) → 0 ≤ sumS P S u ∧ sumS P S u ≤ 800 * u
  | 0, _ => by rw [sumS]; omega
  | u + 1, h => by
    have ih := sumS_rng hp u fun i hi => h i (by omega)
    have h1 := h u (by omega)
    have h2 := hp (gt S u).toNat (by omega)
    rw [sumS]; omega
theorem inN_rng (T : Nat → Bool) (L : List Pr) : ∀ u, 0 ≤ inN T L u ∧ inN T L u ≤ 2 * u
  | 0 => by rw [inN]; omega
  | u + 1 => by
    have := inN_rng T L u
    rw [inN]
    split <;> omega
theorem inN_hit {T : Nat → Bool} {L : List Pr} {u : Nat} (ha : T (gt L u).a.toNat = true) (hb : T (gt L u).b.toNat = true) : inN T L (u + 1) = inN T L u + 2 := by
  rw [inN, if_pos]; unfold within; rw [ha, hb]; rfl
theorem inN_miss {T : Nat → Bool} {L : List Pr} {u : Nat} (h : T (gt L u).a.toNat = false ∨ T (gt L u).b.toNat = false) : inN T L (u + 1) = inN T L u := by
  rw [inN, if_neg, Int.add_zero]
  unfold within
  rcases h with h | h <;> rw [h] <;> simp
theorem set_lt {t : Int} {S : List Int} {N : Nat} (h : setOK t S N) : ∀ (j i : Nat), i < j → j < S.length → gt S i < gt S j
  | 0, i, hi, _ => by omega
  | j + 1, i, hi, hj => by
    have h1 := (h (j + 1) hj).2.2.2 (by omega)
    rw [Nat.add_sub_cancel] at h1
    by_cases hij : i = j
    · subst hij; exact h1
    · have := set_lt h j i (by omega) (by omega)
      omega
theorem sum_set {t : Int} {S : List Int} {N : Nat} (h : setOK t S N) (f : Nat → Int) : ∀ u, u ≤ S.length → sumN (fun k => if memB (S.take u) k = true then f k else 0) N = sumN (fun i => f (gt S i).toNat) u
  | 0, _ => by
    rw [sumN]
    refine Eq.trans (sumN_congr _ fun k hk => ?_) (sumN_zero _)
    rw [if_neg]; simp [memB]
  | u + 1, hu => by
    have ih := sum_set h f u (by omega)
    have h1 := h u (by omega)
    have ht : S.take (u + 1) = S.take u ++ [gt S u] := by rw [gt_eq _ _ (by omega), List.take_append_getElem]
    have hm : ∀ k : Nat, memB (S.take (u + 1)) k = true ↔ memB (S.take u) k = true ∨ (k : Int) = gt S u := fun k => by
      rw [ht]; simp [memB]
    have hn : ¬ memB (S.take u) (gt S u).toNat = true := fun hh => by
      simp only [memB, decide_eq_true_eq] at hh
      obtain ⟨i, hi, he⟩ := List.mem_iff_getElem.1 hh
      rw [List.length_take] at hi
      rw [List.getElem_take, ← gt_eq _ _ (by omega)] at he
      have := set_lt h u i (by omega) (by omega)
      omega
    rw [sumN, ← ih, sumN_upd (f := fun k => if memB (S.take u) k = true then f k else 0) (j := (gt S u).toNat) N (fun k hk hne => ?_) (by omega)]
    · show _ + ((if memB (S.take (u + 1)) (gt S u).toNat = true then f (gt S u).toNat else 0) - (if memB (S.take u) (gt S u).toNat = true then f (gt S u).toNat else 0)) = _
      rw [if_pos ((hm _).2 (.inr (by omega))), if_neg hn]; omega
    · show (if memB (S.take (u + 1)) k = true then f k else 0) = _
      by_cases hk2 : memB (S.take u) k = true
      · rw [if_pos hk2, if_pos ((hm k).2 (.inl hk2))]
      · rw [if_neg hk2, if_neg (fun hh => by rcases (hm k).1 hh with hh | hh; exact hk2 hh; omega)]
theorem sumS_is (P S : List Int) : ∀ u, sumS P S u = sumN (fun i => gt P (gt S i).toNat) u
  | 0 => rfl
  | u + 1 => by rw [sumS, sumN, sumS_is P S u]
theorem sumN_c (c : Int) : ∀ n, sumN (fun _ => c) n = n * c
  | 0 => by rw [sumN]; simp
  | n + 1 => by rw [sumN, sumN_c c n, Int.natCast_succ, Int.add_mul, Int.one_mul]
theorem set_def {t : Int} {S : List Int} {P : List Int} (h : setOK t S P.length) (L : List Pr) (G : Int) : defD P L G (memB S) = inN (memB S) L L.length - (S.length * G - sumS P S S.length) := by
  have h1 := sum_set h (fun k => G) S.length (Nat.le_refl _)
  have h2 := sum_set h (fun k => gt P k) S.length (Nat.le_refl _)
  rw [List.take_length] at h1 h2
  rw [defD, sumN_goal, h1, h2, sumN_c, sumS_is]
/-- An accepted verdict tells the truth. -/
theorem acc_true {P : List Int} {L : List Pr} {t : Int} {b : Bool} {S R : List Int} (h : accS P L t b S R = 0) : b = true ↔ canBe P L t := by
  by_cases hm : (mostS P L t).2 = 0
  · obtain ⟨g, t0, t1⟩ := most_of hm
    cases b with
    | true =>
      rw [accS_t hm, posS] at h
      split at h
      · cases h
      split at h
      · cases h
      rename_i h1 h2
      refine ⟨fun _ => ⟨R, ?_, ?_, fun k hk => ?_⟩, fun _ => rfl⟩
      · exact Classical.byContradiction fun hn => h1 (.inr (.inl hn))
      · exact Classical.byContradiction fun hn => h1 (.inr (.inr hn))
      · have : ¬ gt (playN P L R L.length) t.toNat < gt (playN P L R L.length) k := fun hh => h2 ⟨k, hk, hh⟩
        omega
    | false =>
      rw [accS_f hm, elimS] at h
      split at h
      · cases h
      split at h
      · cases h
      rename_i h1 h2
      refine ⟨fun hh => (by cases hh), fun hh => absurd hh (def_no g t0 (most_eq hm) (memB S) ?_)⟩
      have hs : setOK t S P.length := Classical.byContradiction fun hn => h1 (.inr (.inr hn))
      rw [set_def hs]
      omega
  · rw [accS_e hm] at h; exact absurd h hm
/-- The reference's list of the teams of a set. -/
def inL (S : List Int) (N : Nat) : Nat → List Bool
  | 0 => List.replicate N false
  | u + 1 => (inL S N u).set (gt S u).toNat true
theorem inL_len (S : List Int) (N : Nat) : ∀ u, (inL S N u).length = N
  | 0 => by simp [inL]
  | u + 1 => by rw [inL, List.length_set, inL_len S N u]
theorem inL_gt {S : List Int} {N : Nat} : ∀ u, u ≤ S.length → (∀ i, i < u → 0 ≤ gt S i ∧ gt S i < N) → ∀ k, k < N → gt (inL S N u) k = memB (S.take u) k
  | 0, _, _, k, _ => by rw [inL, rep_gt]; simp [memB]
  | u + 1, hu, h, k, hk => by
    have ih := inL_gt u (by omega) (fun i hi => h i (by omega)) k hk
    have h1 := h u (by omega)
    have ht : S.take (u + 1) = S.take u ++ [gt S u] := by rw [gt_eq _ _ (by omega), List.take_append_getElem]
    rw [inL, gt_set _ _ _ _ (by rw [inL_len]; omega), ht]
    by_cases he : (gt S u).toNat = k
    · rw [if_pos he]
      have : (k : Int) = gt S u := by omega
      simp [memB, this]
    · rw [if_neg he, ih]
      have : (k : Int) ≠ gt S u := by omega
      simp [memB, this]
theorem memB_int {S : List Int} {x : Int} (h : 0 ≤ x) : memB S x.toNat = decide (x ∈ S) := by unfold memB; rw [show ((x.toNat : Nat) : Int) = x by omega]
theorem all_end {o : List Int} {n : Nat} {x : Int} (h : ∀ k, k < n → ¬ x < gt o k) : ¬ ∃ k, k < n ∧ x < gt o k := fun ⟨k, hk, hl⟩ => h k hk hl
end Go.Proofs.Ytdicnojnkbmdlaa
end
section
set_option linter.unusedVariables false
namespace Go.Proofs.Ytdicnojnkbmdlaa
open Go Go.Am
theorem gt_take {l : List Int} {u i : Nat} (h : i < u) (hu : u ≤ l.length) : gt (l.take u) i = gt l i := by
  rw [gt_eq _ _ (by rw [List.length_take]; omega), List.getElem_take, ← gt_eq _ _ (by omega)]
theorem setT_rng {t : Int} {S : List Int} {N u : Nat} (h : setOK t (S.take u) N) (hu : u ≤ S.length) (j : Nat) (hj : j < u) : 0 ≤ gt S j ∧ gt S j < N := by
  have := h j (by rw [List.length_take]; omega)
  rw [gt_take hj hu] at this
  exact ⟨this.1, this.2.1⟩
theorem setT_on {t : Int} {S : List Int} {N u : Nat} (h : setOK t (S.take u) N) (hu : u < S.length) (h1 : 0 ≤ gt S u) (h2 : gt S u < N) (h3 : gt S u ≠ t) (h4 : 0 < u → gt S (u - 1) < gt S u) : setOK t (S.take (u + 1)) N := by
  intro i hi
  rw [List.length_take] at hi
  rw [gt_take (by omega) (by omega)]
  by_cases hiu : i = u
  · subst hiu
    refine ⟨h1, h2, h3, fun h0 => ?_⟩
    rw [gt_take (by omega) (by omega)]; exact h4 h0
  · have h5 := h i (by rw [List.length_take]; omega)
    rw [gt_take (by omega) (by omega)] at h5
    refine ⟨h5.1, h5.2.1, h5.2.2.1, fun h0 => ?_⟩
    have h6 := h5.2.2.2 h0
    rw [gt_take (by omega) (by omega)] at h6 ⊢
    exact h6
end Go.Proofs.Ytdicnojnkbmdlaa
end
section
set_option linter.unusedSimpArgs false
set_option linter.unusedVariables false
set_option maxHeartbeats 40000000
set_option maxRecDepth 4000
namespace Go.Proofs.Ytdicnojnkbmdlaa
open Go Go.Am

abbrev lc_ints_ok (a b c d e f g h i : AV) : Env := [(0,a),(1,b),(4,c),(5,d),(10,e),(12,f),(13,g),(14,h),(24,i)]
theorem ints_ok (lim : Nat) (H : Heap) (a : List Int) (ha : a.length ≤ 1000000) :
    ACall sig lim 36 [intsAV a, intsAV a] H fun r H' => r = .v (.bool true) ∧ H' = H := by
 refine ACall_pure (fa := fa36) rfl rfl rfl rfl ?_
 have tr : ∀ a0 a1 : AV, env0 fa36.keep [a0, a1] = [(0,a0),(1,a1),(4,.any),(5,.any),(10,.any),(12,.any),(13,.any),(14,.any),(24,.any)] := fun a0 a1 => rfl
 refine W_to (tr _ _) ?_; clear tr
 refine at_seq rfl ?_
 refine rg rfl ?_
 refine Rq ?_
 have tr : ∀ a b c d e f g h i j : AV, let l := lc_ints_ok a b c d e f g h i; trim ((4,j)::l) l = [(0,a),(1,b),(4,j),(5,d),(10,e),(12,f),(13,g),(14,h),(24,i)] := by intros; rfl
 refine R_nil (tr ..) ?_; clear tr
 refine then_n ?_
 refine at_seq rfl ?_
 refine at_seq rfl ?_
 refine rg rfl ?_
 refine Rq ?_
 refine Rq ?_
 refine Rq ?_
 refine Rq ?_
 refine Rq ?_
 have tr : ∀ a b c d e f g h i j k m n o : AV, let l := lc_ints_ok a b c d e f g h i; trim ((10,o)::(9,n)::(8,m)::(7,k)::(6,j)::l) l = [(0,a),(1,b),(4,c),(5,d),(10,o),(12,f),(13,g),(14,h),(24,i)] := by intros; rfl
 refine R_nil (tr ..) ?_; clear tr
 refine then_n ?_
 refine cdd (fun h1 => ?_) (fun h1 => ?_)
 ·
  try simp only [decide_eq_true_eq, decide_eq_false_iff_not, Bool.not_eq_true', Bool.not_eq_false', beq_iff_eq, beq_eq_false_iff_ne, ne_eq] at h1
  first | omega | exact absurd rfl (by assumption) | exact absurd trivial (by assumption)
 ·
  try simp only [decide_eq_true_eq, decide_eq_false_iff_not, Bool.not_eq_true', Bool.not_eq_false', beq_iff_eq, beq_eq_false_iff_ne, ne_eq] at h1
  refine at_skip rfl ?_
  refine then_n ?_
  refine at_seq rfl ?_
  refine at_seq rfl ?_
  refine rg rfl ?_
  refine Rq ?_
  refine Rq ?_
  refine Rq ?_
  have tr : ∀ a b c d e f g h i j k m : AV, let l := lc_ints_ok a b c d e f g h i; trim ((13,m)::(12,k)::(11,j)::l) l = [(0,a),(1,b),(4,c),(5,d),(10,e),(12,k),(13,m),(14,h),(24,i)] := by intros; rfl
  refine R_nil (tr ..) ?_; clear tr
  refine then_n ?_
  refine at_block rfl ?_
  refine loop_n rfl (fun mm kv H' => ∃ u : Nat, ∃ x4 x5 x14 x24 : AV, (kv = [(4, x4), (5, x5), (13, AV.i u), (14, x14), (24, x24)]) ∧ (mm = a.length - u) ∧ (H' = H) ∧ (u ≤ a.length)) ⟨0, _, _, _, _, rfl, rfl, rfl, by omega⟩ (by rfl) ?_
  rintro mm kv H' ⟨u, x4, x5, x14, x24, rfl, rfl, rfl, hu⟩
  have tr : ∀ a b c d e f g h i j k m n o : AV, upd [(0,a),(1,b),(4,c),(5,d),(10,e),(12,f),(13,g),(14,h),(24,i)] [(4,j),(5,k),(13,m),(14,n),(24,o)] = [(0,a),(1,b),(4,j),(5,k),(10,e),(12,f),(13,m),(14,n),(24,o)] := by intros; rfl
  refine W_to (tr ..) ?_; clear tr
  refine at_seq rfl ?_
  refine rg rfl ?_
  refine Rq ?_
  have tr : ∀ a b c d e f g h i j : AV, let l := lc_ints_ok a b c d e f g h i; trim ((14,j)::l) l = [(0,a),(1,b),(4,c),(5,d),(10,e),(12,f),(13,g),(14,j),(24,i)] := by intros; rfl
  refine R_nil (tr ..) ?_; clear tr
  refine then_n ?_
  refine at_seq rfl ?_
  refine cdd (fun h2 => ?_) (fun h2 => ?_)
  ·
   try simp only [decide_eq_true_eq, decide_eq_false_iff_not, Bool.not_eq_true', Bool.not_eq_false', beq_iff_eq, beq_eq_false_iff_ne, ne_eq] at h2
   refine at_skip rfl ?_
   refine then_n ?_
   refine at_seq rfl ?_
   refine at_block rfl ?_
   refine at_seq rfl ?_
   refine rg rfl ?_
   refine Rq ?_
   refine Rq ?_
   have tr : ∀ a b c d e f g h i j k : AV, let l := lc_ints_ok a b c d e f g h i; trim ((5,k)::(15,j)::l) l = [(0,a),(1,b),(4,c),(5,k),(10,e),(12,f),(13,g),(14,h),(24,i)] := by intros; rfl
   refine R_nil (tr ..) ?_; clear tr
   refine then_n ?_
   refine at_seq rfl ?_
   refine rd rfl rfl ?_
   refine Qq ?_
   refine Qq ?_
   refine Qq ?_
   refine Qq ?_
   refine Qq ?_
   refine Qq ?_
   refine Qq ?_
   refine Qq ?_
   refine Qq ?_
   refine Q_nil ?_
   have tr : ∀ a b c d e f g h i j k m n o p q r s : AV, let l := lc_ints_ok a b c d e f g h i; trim ((24,s)::(23,r)::(22,q)::(21,p)::(20,o)::(19,n)::(18,m)::(17,k)::(16,j)::l) l = [(0,a),(1,b),(4,c),(5,d),(10,e),(12,f),(13,g),(14,h),(24,s)] := by intros; rfl
   refine R_nil (tr ..) ?_; clear tr
   refine then_n ?_
   refine cdd (fun h3 => ?_) (fun h3 => ?_)
   ·
    try simp only [decide_eq_true_eq, decide_eq_false_iff_not, Bool.not_eq_true', Bool.not_eq_false', beq_iff_eq, beq_eq_false_iff_ne, ne_eq] at h3
    first | omega | exact absurd rfl (by assumption) | exact absurd trivial (by assumption)
   ·
    try simp only [decide_eq_true_eq, decide_eq_false_iff_not, Bool.not_eq_true', Bool.not_eq_false', beq_iff_eq, beq_eq_false_iff_ne, ne_eq] at h3
    refine at_skip rfl ?_
    refine blk_n ?_
    refine then_n ?_
    refine rg rfl ?_
    refine Rq ?_
    refine Rq ?_
    have tr : ∀ a b c d e f g h i j k : AV, let l := lc_ints_ok a b c d e f g h i; trim ((13,k)::(25,j)::l) l = [(0,a),(1,b),(4,c),(5,d),(10,e),(12,f),(13,k),(14,h),(24,i)] := by intros; rfl
    refine R_nil (tr ..) ?_; clear tr
    refine then_n ?_
    exact ⟨_, _, ⟨u + 1, _, _, _, _, rfl, rfl, rfl, by omega⟩, by rfl, by omega⟩
  ·
   try simp only [decide_eq_true_eq, decide_eq_false_iff_not, Bool.not_eq_true', Bool.not_eq_false', beq_iff_eq, beq_eq_false_iff_ne, ne_eq] at h2
   refine at_exit rfl ?_
   refine then_x ?_
   refine then_x ?_
   refine blk_x ?_
   refine then_n ?_
   refine at_seq rfl ?_
   refine rg rfl ?_
   refine Rq ?_
   have tr : ∀ a b c d e f g h i j : AV, let l := lc_ints_ok a b c d e f g h i; trim ((4,j)::l) l = [(0,a),(1,b),(4,j),(5,d),(10,e),(12,f),(13,g),(14,h),(24,i)] := by intros; rfl
   refine R_nil (tr ..) ?_; clear tr
   refine then_n ?_
   refine at_ret rfl ?_
   refine fpure ?_
   refine ⟨?_, rfl⟩
   rfl

abbrev lc_ints_nil (a b c d e f g h i : AV) : Env := [(0,a),(1,b),(4,c),(5,d),(10,e),(12,f),(13,g),(14,h),(24,i)]
theorem ints_nil (lim : Nat) (H : Heap) :
    ACall sig lim 36 [nilP, nilP] H fun r H' => r = .v (.bool true) ∧ H' = H := by
 refine ACall_pure (fa := fa36) rfl rfl rfl rfl ?_
 have tr : ∀ a0 a1 : AV, env0 fa36.keep [a0, a1] = [(0,a0),(1,a1),(4,.any),(5,.any),(10,.any),(12,.any),(13,.any),(14,.any),(24,.any)] := fun a0 a1 => rfl
 refine W_to (tr _ _) ?_; clear tr
 refine at_seq rfl ?_
 refine rg rfl ?_
 refine Rq ?_
 have tr : ∀ a b c d e f g h i j : AV, let l := lc_ints_nil a b c d e f g h i; trim ((4,j)::l) l = [(0,a),(1,b),(4,j),(5,d),(10,e),(12,f),(13,g),(14,h),(24,i)] := by intros; rfl
 refine R_nil (tr ..) ?_; clear tr
 refine then_n ?_
 refine at_seq rfl ?_
 refine at_seq rfl ?_
 refine rg rfl ?_
 refine Rq ?_
 refine Rq ?_
 refine Rq ?_
 refine Rq ?_
 refine Rq ?_
 have tr : ∀ a b c d e f g h i j k m n o : AV, let l := lc_ints_nil a b c d e f g h i; trim ((10,o)::(9,n)::(8,m)::(7,k)::(6,j)::l) l = [(0,a),(1,b),(4,c),(5,d),(10,o),(12,f),(13,g),(14,h),(24,i)] := by intros; rfl
 refine R_nil (tr ..) ?_; clear tr
 refine then_n ?_
 refine cdd (fun h1 => ?_) (fun h1 => ?_)
 ·
  try simp only [decide_eq_true_eq, decide_eq_false_iff_not, Bool.not_eq_true', Bool.not_eq_false', beq_iff_eq, beq_eq_false_iff_ne, ne_eq] at h1
  first | omega | exact absurd rfl (by assumption) | exact absurd trivial (by assumption)
 ·
  try simp only [decide_eq_true_eq, decide_eq_false_iff_not, Bool.not_eq_true', Bool.not_eq_false', beq_iff_eq, beq_eq_false_iff_ne, ne_eq] at h1
  refine at_skip rfl ?_
  refine then_n ?_
  refine at_seq rfl ?_
  refine at_seq rfl ?_
  refine rg rfl ?_
  refine Rq ?_
  refine Rq ?_
  refine Rq ?_
  have tr : ∀ a b c d e f g h i j k m : AV, let l := lc_ints_nil a b c d e f g h i; trim ((13,m)::(12,k)::(11,j)::l) l = [(0,a),(1,b),(4,c),(5,d),(10,e),(12,k),(13,m),(14,h),(24,i)] := by intros; rfl
  refine R_nil (tr ..) ?_; clear tr
  refine then_n ?_
  refine at_block rfl ?_
  refine loop_n rfl (fun mm kv H' => ∃ u : Nat, ∃ x4 x5 x14 x24 : AV, (kv = [(4, x4), (5, x5), (13, AV.i u), (14, x14), (24, x24)]) ∧ (mm = 0) ∧ (H' = H) ∧ (u = 0)) ⟨0, _, _, _, _, rfl, rfl, rfl, by rfl⟩ (by rfl) ?_
  rintro mm kv H' ⟨u, x4, x5, x14, x24, rfl, rfl, rfl, hu⟩
  have tr : ∀ a b c d e f g h i j k m n o : AV, upd [(0,a),(1,b),(4,c),(5,d),(10,e),(12,f),(13,g),(14,h),(24,i)] [(4,j),(5,k),(13,m),(14,n),(24,o)] = [(0,a),(1,b),(4,j),(5,k),(10,e),(12,f),(13,m),(14,n),(24,o)] := by intros; rfl
  refine W_to (tr ..) ?_; clear tr
  refine at_seq rfl ?_
  refine rg rfl ?_
  refine Rq ?_
  have tr : ∀ a b c d e f g h i j : AV, let l := lc_ints_nil a b c d e f g h i; trim ((14,j)::l) l = [(0,a),(1,b),(4,c),(5,d),(10,e),(12,f),(13,g),(14,j),(24,i)] := by intros; rfl
  refine R_nil (tr ..) ?_; clear tr
  refine then_n ?_
  refine at_seq rfl ?_
  refine cdd (fun h2 => ?_) (fun h2 => ?_)
  ·
   try simp only [decide_eq_true_eq, decide_eq_false_iff_not, Bool.not_eq_true', Bool.not_eq_false', beq_iff_eq, beq_eq_false_iff_ne, ne_eq] at h2
   exfalso; omega
  ·
   try simp only [decide_eq_true_eq, decide_eq_false_iff_not, Bool.not_eq_true', Bool.not_eq_false', beq_iff_eq, beq_eq_false_iff_ne, ne_eq] at h2
   refine at_exit rfl ?_
   refine then_x ?_
   refine then_x ?_
   refine blk_x ?_
   refine then_n ?_
   refine at_seq rfl ?_
   refine rg rfl ?_
   refine Rq ?_
   have tr : ∀ a b c d e f g h i j : AV, let l := lc_ints_nil a b c d e f g h i; trim ((4,j)::l) l = [(0,a),(1,b),(4,j),(5,d),(10,e),(12,f),(13,g),(14,h),(24,i)] := by intros; rfl
   refine R_nil (tr ..) ?_; clear tr
   refine then_n ?_
   refine at_ret rfl ?_
   refine fpure ?_
   refine ⟨?_, rfl⟩
   rfl

end Go.Proofs.Ytdicnojnkbmdlaa
end
section
set_option linter.unusedVariables false
namespace Go.Proofs.Ytdicnojnkbmdlaa
open Go Go.Am
theorem ints_outA (lim : Nat) (H : Heap) (w : List Int) (hw : w.length ≤ 1000000) : ACall sig lim 36 [outA w, outA w] H fun r H' => r = .v (.bool true) ∧ H' = H := by
  unfold outA
  split
  · exact ints_nil lim H
  · exact ints_ok lim H _ hw
theorem firstS_len (P : List Int) (L : List Pr) (t : Int) (h : P.length ≤ 1000) : (firstS P L t).length ≤ 1000 := by
  have := setN_len P L (mostS P L t).1 t P.length
  rw [firstS]
  split
  · simp
  split
  · simp
  split
  · simp
  · omega
theorem firstP_o {P : List Int} {L : List Pr} {t : Int} {R : List Int} {o : AV} (h : (firstB P L t = false ∧ R = [] ∧ o = nilP) ∨ (firstB P L t = true ∧ o = intsAV R ∧ VR P L t R)) : IsA o R ∧ R.length = if firstB P L t = true then L.length else 0 := by
  rcases h with ⟨h1, rfl, rfl⟩ | ⟨h1, rfl, h2⟩
  · exact ⟨.inr ⟨rfl, rfl⟩, by rw [h1]; rfl⟩
  · exact ⟨.inl rfl, by rw [h1]; exact h2.2.1⟩
theorem firstQ_o {P : List Int} {L : List Pr} {t : Int} {R : List Int} (h : (firstB P L t = false ∧ R = []) ∨ (firstB P L t = true ∧ R.length = L.length)) : R.length = if firstB P L t = true then L.length else 0 := by
  rcases h with ⟨h1, rfl⟩ | ⟨h1, h2⟩
  · rw [h1]; rfl
  · rw [h1]; exact h2
theorem first_err {P : List Int} {L : List Pr} {t : Int} (h : (mostS P L t).2 ≠ 0) : firstB P L t = false ∧ firstS P L t = [] := first_e h
/-- First's verdict without a set that is not needed, and its accepted certificate. -/
theorem setN_all {P : List Int} {L : List Pr} {goal t : Int} (h : inT P L goal t t.toNat = false) (t0 : 0 ≤ t) {k : Nat} (hk : k < P.length) : memB (setN P L goal t P.length) k = inT P L goal t k := by
  rw [Bool.eq_iff_iff, memB, decide_eq_true_eq]
  exact (set_ok h t0 P.length).2 k hk
theorem inN_ext {T T' : Nat → Bool} {L : List Pr} {N : Nat} (hT : ∀ k, k < N → T k = T' k) (hL : ∀ i, i < L.length → (gt L i).a.toNat < N ∧ (gt L i).b.toNat < N) : ∀ u, u ≤ L.length → inN T L u = inN T' L u
  | 0, _ => rfl
  | u + 1, h => by
    have e := hL u (by omega)
    rw [inN, inN, inN_ext hT hL u (by omega)]
    unfold within
    rw [hT _ e.1, hT _ e.2]
theorem def_ext {P : List Int} {L : List Pr} (g : ROK P L) {G : Int} {T T' : Nat → Bool} (hT : ∀ k, k < P.length → T k = T' k) : defD P L G T = defD P L G T' := by
  rw [defD, defD, inN_ext (N := P.length) hT (fun i hi => by have := g.ed i hi; omega) L.length (Nat.le_refl _)]
  congr 1
  exact sumN_congr _ fun k hk => by rw [hT k hk]
/-- What is known of a Cut from no error: that there is one. -/
theorem a_cut {P : List Int} {L : List Pr} {t : Int} (hm : (mostS P L t).2 = 0) (hb : badN P (mostS P L t).1 P.length = -1) : ∃ Q pb tb n f sn, Cut P L Q (mostS P L t).1 t pb tb n f sn := by
  obtain ⟨g, t0, t1⟩ := most_of hm
  have W : PQ L t (pQ L t) := (pq_prog L t L.length).to
  obtain ⟨E, f, sn, _, _, _, _, _, _, _, _, _, _, C⟩ := first_sum hm (bad_all hb) W (pb := 2) (tb := 2 + (pQ L t).length) (n := 2 + (pQ L t).length + P.length) ⟨by omega, by omega, by omega, by omega, by omega⟩ (by omega)
  exact ⟨_, _, _, _, _, _, C⟩
theorem first_acc_f {P : List Int} {L : List Pr} {t : Int} (hm : (mostS P L t).2 = 0) (h : firstB P L t = false) : accS P L t false (firstS P L t) [] = 0 := by
  obtain ⟨g, t0, t1⟩ := most_of hm
  rw [accS_f hm]
  by_cases hb : badN P (mostS P L t).1 P.length = -1
  · have hp : posB P L (mostS P L t).1 t = false := by
      cases hpb : posB P L (mostS P L t).1 t with
      | false => rfl
      | true => rw [(first_y hm hb hpb).1] at h; cases h
    rw [(first_n hm hb hp).2]
    obtain ⟨Q, pb, tb, n, f, sn, C⟩ := a_cut hm hb
    obtain ⟨hd, k, hk, hkT⟩ := C.elim hp
    have hs := (set_ok (P := P) (L := L) (goal := (mostS P L t).1) C.not t0 P.length).1
    have hne := set_ne C.not t0 hk hkT
    refine elimS_c (by simp) (fun hh => hne (List.length_eq_zero_iff.1 hh)) hs ?_
    rw [← def_ext g (fun k hk => setN_all C.not t0 hk), set_def hs] at hd
    omega
  · rw [(first_b hm hb).2]
    obtain ⟨k, hk, hbk, hkg⟩ := bad_some hb
    have hme := most_eq hm
    have hkt : (k : Int) ≠ t := fun hh => by
      have hup : ∀ u, gt P t.toNat ≤ mostN P L t u := by
        intro u
        induction u with
        | zero => exact Int.le_refl _
        | succ u ih => rw [mostN]; split <;> omega
      have := hup L.length
      subst hh
      rw [Int.toNat_natCast] at this
      omega
    have hg : gt [badN P (mostS P L t).1 P.length] 0 = k := by rw [hbk]; rfl
    refine elimS_c (by simp) (by simp) (fun i hi => ?_) ?_
    · have : i = 0 := by simp at hi; omega
      subst this
      rw [hg]
      exact ⟨by omega, by omega, hkt, fun hh => by omega⟩
    · have h0 := inN_rng (memB [badN P (mostS P L t).1 P.length]) L L.length
      rw [List.length_singleton, sumS, sumS, hg, Int.toNat_natCast]
      omega
theorem first_acc_t {P : List Int} {L : List Pr} {t : Int} (hm : (mostS P L t).2 = 0) (h : firstB P L t = true) {R : List Int} (hR : VR P L t R) : accS P L t true (firstS P L t) R = 0 := by
  rw [accS_t hm]
  have hS : firstS P L t = [] := by
    rw [firstB, if_neg (fun hh => hh hm)] at h
    split at h
    · cases h
    · rw [firstS, if_neg (fun hh => hh hm), if_neg (by assumption), if_pos h]
  rw [hS]
  exact posS_c (by simp) hR.2.1 hR.1 (fun ⟨k, hk, hkl⟩ => by have := hR.2.2.1 k hk; omega)
/-- A team can be first, exactly if First says so. -/
theorem first_can {P : List Int} {L : List Pr} {t : Int} (hm : (mostS P L t).2 = 0) {R : List Int} {o : AV} (h : (firstB P L t = false ∧ R = [] ∧ o = nilP) ∨ (firstB P L t = true ∧ o = intsAV R ∧ VR P L t R)) : firstB P L t = true ↔ canBe P L t := by
  rcases h with ⟨h1, rfl, rfl⟩ | ⟨h1, rfl, h2⟩
  · rw [h1]; exact acc_true (first_acc_f hm h1)
  · rw [h1]; exact acc_true (first_acc_t hm h1 h2)
end Go.Proofs.Ytdicnojnkbmdlaa
end
section
set_option linter.unusedVariables false
namespace Go.Proofs.Ytdicnojnkbmdlaa
open Go Go.Am
/-- The points after one match. -/
def step1 (P : List Int) (m : Pr) (x : Int) : List Int := (P.set m.a.toNat (gt P m.a.toNat + x)).set m.b.toNat (gt (P.set m.a.toNat (gt P m.a.toNat + x)) m.b.toNat + (2 - x))
theorem step1_len (P : List Int) (m : Pr) (x : Int) : (step1 P m x).length = P.length := by simp [step1]
theorem play_cons (P : List Int) (m : Pr) (L : List Pr) (x : Int) (R : List Int) : ∀ u, playN P (m :: L) (x :: R) (u + 1) = playN (step1 P m x) L R u
  | 0 => rfl
  | u + 1 => by
    rw [playN, play_cons P m L x R u, playN]
    rfl
def allBe (P : List Int) (L : List Pr) (t : Int) : Prop := ∀ R : List Int, R.length = L.length → resOK R → ∀ k, k < P.length → gt (playN P L R L.length) k ≤ gt (playN P L R L.length) t.toNat
theorem can_nil {P : List Int} {t : Int} : canBe P [] t ↔ ∀ k, k < P.length → gt P k ≤ gt P t.toNat := by
  constructor
  · rintro ⟨R, _, _, h⟩; exact h
  · intro h; exact ⟨[], rfl, fun i hi => by simp at hi, h⟩
theorem all_nil {P : List Int} {t : Int} : allBe P [] t ↔ ∀ k, k < P.length → gt P k ≤ gt P t.toNat := by
  constructor
  · intro h; exact h [] rfl fun i hi => by simp at hi
  · intro h R _ _; exact h
theorem res_cons {x : Int} {R : List Int} (h : resOK (x :: R)) : (0 ≤ x ∧ x ≤ 2) ∧ resOK R := ⟨h 0 (by simp), fun i hi => h (i + 1) (by simp; omega)⟩
theorem res_cons' {x : Int} {R : List Int} (h1 : 0 ≤ x ∧ x ≤ 2) (h : resOK R) : resOK (x :: R) := fun i hi => by
  cases i with
  | zero => exact h1
  | succ i => exact h i (by simp at hi; omega)
theorem can_cons {P : List Int} {m : Pr} {L : List Pr} {t : Int} : canBe P (m :: L) t ↔ ∃ x : Nat, x < 3 ∧ canBe (step1 P m x) L t := by
  constructor
  · rintro ⟨R, h1, h2, h3⟩
    cases R with
    | nil => simp at h1
    | cons x R =>
      have h4 := res_cons h2
      refine ⟨x.toNat, by omega, R, by simpa using h1, h4.2, fun k hk => ?_⟩
      rw [step1_len] at hk
      have := h3 k hk
      rw [show (m :: L).length = L.length + 1 from rfl, play_cons] at this
      rwa [show ((x.toNat : Nat) : Int) = x by omega]
  · rintro ⟨x, hx, R, h1, h2, h3⟩
    refine ⟨(x : Int) :: R, by simp [h1], res_cons' (by omega) h2, fun k hk => ?_⟩
    rw [show (m :: L).length = L.length + 1 from rfl, play_cons]
    exact h3 k (by rw [step1_len]; exact hk)
theorem all_cons {P : List Int} {m : Pr} {L : List Pr} {t : Int} : allBe P (m :: L) t ↔ ∀ x : Nat, x < 3 → allBe (step1 P m x) L t := by
  constructor
  · intro h x hx R h1 h2 k hk
    have := h ((x : Int) :: R) (by simp [h1]) (res_cons' (by omega) h2) k (by rw [step1_len] at hk; exact hk)
    rwa [show (m :: L).length = L.length + 1 from rfl, play_cons] at this
  · intro h R h1 h2 k hk
    cases R with
    | nil => simp at h1
    | cons x R =>
      have h4 := res_cons h2
      have := h x.toNat (by omega) R (by simpa using h1) h4.2 k (by rw [step1_len]; exact hk)
      rw [show (m :: L).length = L.length + 1 from rfl, play_cons]
      rwa [show ((x.toNat : Nat) : Int) = x by omega] at this
theorem pass_iff {P : List Int} {L : List Pr} {t : Int} : ∀ n, passN P L t n = -1 ↔ ∀ k : Nat, k < n → (k : Int) ≠ t → mostN P L k L.length ≤ gt P t.toNat
  | 0 => ⟨fun _ k hk => by omega, fun _ => rfl⟩
  | n + 1 => by
    have ih := pass_iff (P := P) (L := L) (t := t) n
    rw [passN]
    by_cases h : passN P L t n = -1
    · rw [if_neg (fun hh => hh h)]
      by_cases h2 : (n : Int) ≠ t ∧ gt P t.toNat < mostN P L n L.length
      · rw [if_pos h2]
        exact ⟨fun hh => by omega, fun hh => by have := hh n (by omega) h2.1; omega⟩
      · rw [if_neg h2]
        refine ⟨fun _ k hk hkt => ?_, fun _ => rfl⟩
        by_cases hkn : k = n
        · subst hkn; have : ¬ gt P t.toNat < mostN P L k L.length := fun hh => h2 ⟨hkt, hh⟩; omega
        · exact ih.1 h k (by omega) hkt
    · rw [if_pos h]
      exact ⟨fun hh => absurd hh h, fun hh => absurd (ih.2 fun k hk hkt => hh k (by omega) hkt) h⟩
/-- One team wins all its matches, another one loses all its other ones. -/
def winR (k t : Int) (L : List Pr) : List Int := L.map fun m => if m.a = k then 2 else if m.b = k then 0 else if m.a = t then 0 else 2
theorem winR_gt {k t : Int} {L : List Pr} {u : Nat} (h : u < L.length) : gt (winR k t L) u = if (gt L u).a = k then 2 else if (gt L u).b = k then 0 else if (gt L u).a = t then 0 else 2 := by
  rw [gt_eq _ _ (by simpa [winR] using h), gt_eq _ _ h]
  simp [winR]
theorem win_k {P : List Int} {L : List Pr} (g : ROK P L) {k : Nat} {t : Int} : ∀ u, u ≤ L.length → gt (playN P L (winR k t L) u) k = mostN P L k u
  | 0, _ => by rw [playN, mostN]; rfl
  | u + 1, h => by
    have ih := win_k g (k := k) (t := t) u (by omega)
    have e := g.ed u (by omega)
    rw [play_step g _ (by omega), ih, mostN, winR_gt (by omega)]
    by_cases ha : (gt L u).a = k <;> by_cases hb : (gt L u).b = k
    · omega
    · rw [if_pos ha, if_pos ha, if_neg hb, if_pos (.inl ha)]; omega
    · rw [if_neg ha, if_neg ha, if_pos hb, if_pos hb, if_pos (.inr hb)]; omega
    · rw [if_neg ha, if_neg hb, if_neg (by omega)]; omega
theorem win_t {P : List Int} {L : List Pr} (g : ROK P L) {k : Nat} {t : Int} (t0 : 0 ≤ t) (hkt : (k : Int) ≠ t) : ∀ u, u ≤ L.length → gt (playN P L (winR k t L) u) t.toNat = gt P t.toNat
  | 0, _ => rfl
  | u + 1, h => by
    have ih := win_t g t0 hkt u (by omega)
    have e := g.ed u (by omega)
    rw [play_step g _ (by omega), ih, winR_gt (by omega)]
    repeat' split
    all_goals omega
theorem play_most {P : List Int} {L : List Pr} (g : ROK P L) {R : List Int} (hl : R.length = L.length) (hr : resOK R) (k : Nat) : ∀ u, u ≤ L.length → gt (playN P L R u) k ≤ mostN P L k u := fun u hu => by
  have := play_goal g hl hr (t := (k : Int)) (by omega) u hu
  rwa [Int.toNat_natCast] at this
/-- A team is through, exactly if it is first with all results. -/
theorem thru_all {P : List Int} {L : List Pr} {t : Int} (g : ROK P L) (t0 : 0 ≤ t) (t1 : t < P.length) : passN P L t P.length = -1 ↔ allBe P L t := by
  rw [pass_iff]
  constructor
  · intro h R h1 h2 k hk
    by_cases hkt : (k : Int) = t
    · rw [show k = t.toNat by omega]; exact Int.le_refl _
    · have a := play_most g h1 h2 k L.length (Nat.le_refl _)
      have b := play_up g h1 h2 t.toNat L.length (Nat.le_refl _)
      have c := h k hk hkt
      omega
  · intro h k hk hkt
    have a := h (winR k t L) (by simp [winR]) (fun i hi => by
      rw [winR_gt (by simpa [winR] using hi)]
      split
      · omega
      split
      · omega
      split <;> omega) k hk
    rw [win_k g L.length (Nat.le_refl _), win_t g t0 hkt L.length (Nat.le_refl _)] at a
    exact a
open Classical in
noncomputable def canB (P : List Int) (L : List Pr) (t : Int) : Bool := decide (canBe P L t)
open Classical in
noncomputable def allB (P : List Int) (L : List Pr) (t : Int) : Bool := decide (allBe P L t)
theorem canB_iff (P : List Int) (L : List Pr) (t : Int) : canB P L t = true ↔ canBe P L t := by
  unfold canB
  exact @decide_eq_true_iff _ (Classical.propDecidable _)
theorem allB_iff (P : List Int) (L : List Pr) (t : Int) : allB P L t = true ↔ allBe P L t := by
  unfold allB
  exact @decide_eq_true_iff _ (Classical.propDecidable _)
theorem some_on {P : List Int} {m : Pr} {L : List Pr} {t : Int} {x : Nat} {s b : Bool} (hs : s = true ↔ ∃ y, y < x ∧ canBe (step1 P m (y : Nat)) L t) (hb : b = canB (step1 P m x) L t) : (s || b) = true ↔ ∃ y, y < x + 1 ∧ canBe (step1 P m (y : Nat)) L t := by
  rw [Bool.or_eq_true, hs, hb, canB_iff]
  constructor
  · rintro (⟨y, h1, h2⟩ | h)
    · exact ⟨y, by omega, h2⟩
    · exact ⟨x, by omega, h⟩
  · rintro ⟨y, h1, h2⟩
    by_cases hy : y = x
    · subst hy; exact .inr h2
    · exact .inl ⟨y, by omega, h2⟩
theorem all_on {P : List Int} {m : Pr} {L : List Pr} {t : Int} {x : Nat} {s b : Bool} (hs : s = true ↔ ∀ y, y < x → allBe (step1 P m (y : Nat)) L t) (hb : b = allB (step1 P m x) L t) : (s && b) = true ↔ ∀ y, y < x + 1 → allBe (step1 P m (y : Nat)) L t := by
  rw [Bool.and_eq_true, hs, hb, allB_iff]
  constructor
  · rintro ⟨h1, h2⟩ y hy
    by_cases hyx : y = x
    · subst hyx; exact h2
    · exact h1 y (by omega)
  · intro h
    exact ⟨fun y hy => h y (by omega), h x (by omega)⟩
theorem slP (m : Pr) (L : List Pr) : sliceV Try.prog 41 (prsAV (m :: L)) (some (AV.i 1)) none = some (prsAV L) := by
  simp only [sliceV, tk41, ty58, bound]
  rw [if_pos ⟨by omega, by simp; omega, Int.le_refl _⟩]
  simp [flatP]
end Go.Proofs.Ytdicnojnkbmdlaa
end
section
set_option linter.unusedVariables false
namespace Go.Proofs.Ytdicnojnkbmdlaa
open Go Go.Am
theorem app3 {lim : Nat} {K : Heap} {b : Nat} {l : List Int} (hb : hget K b = some []) (hl : lim ≤ b) (hm : l.length ≤ 1000000) :
    appendV Try.prog lim K 40 (.own 1 b 0 0) (intsAV l) = some (.own 1 K.length 0 l.length, hset K b none ++ [some (l.map AV.i)]) := by
  simp only [appendV, tk40, ty3, srcCells, hb, Nat.mul_one, List.length_map]
  rw [if_pos (Nat.le_refl _)]
  simp only
  rw [if_pos ⟨rfl, by decide, by rw [List.take_of_length_le (by simp)]; induction l with | nil => rfl | cons x l ih => rw [List.map_cons, List.all_cons, ih (by simp at hm; omega)]; rfl⟩]
  simp only [List.drop_nil, List.take_nil, List.nil_append, Nat.zero_add]
  rw [if_pos ⟨hl, trivial, by simp, by omega, by omega⟩, List.take_of_length_le (by simp)]
theorem appA {lim : Nat} {H : Heap} {l : List Int} (hl : lim ≤ H.length) (hm : l.length ≤ 1000000) :
    appendV Try.prog lim (H ++ [some []]) 40 (.own 1 H.length 0 0) (intsAV l) = some (.own 1 (H ++ [some []]).length 0 l.length, H ++ [none] ++ [some (l.map AV.i)]) := by
  rw [app3 (by simp [hget]) hl hm]
  congr 3
  simp [hset]
theorem appC {lim : Nat} {H : Heap} {C : Blk} {l : List Int} (hl : lim ≤ H.length) (hm : l.length ≤ 1000000) :
    appendV Try.prog lim (H ++ [some []] ++ [some C]) 40 (.own 1 H.length 0 0) (intsAV l) = some (.own 1 (H ++ [some []] ++ [some C]).length 0 l.length, H ++ [none] ++ [some C] ++ [some (l.map AV.i)]) := by
  rw [app3 (by simp [hget]) hl hm]
  congr 3
  simp [hset]
theorem appD {lim : Nat} {H : Heap} {C : Blk} {l : List Int} (hl : lim ≤ H.length) (hm : l.length ≤ 1000000) :
    appendV Try.prog lim (H ++ [some C] ++ [some []]) 40 (.own 1 (H ++ [some C]).length 0 0) (intsAV l) = some (.own 1 (H ++ [some C] ++ [some []]).length 0 l.length, H ++ [some C] ++ [none] ++ [some (l.map AV.i)]) := by
  rw [app3 (by simp [hget]) (by simp; omega) hm]
  congr 3
  simp [hset]
section
variable {H : Heap} {live : List Nat} {e0 e1 : Env} {A B : Blk}
theorem three_A (hA : ∀ f, A.map (ren f 8) = A) (hB : ∀ f, B.map (ren f 8) = B) (hl : ∀ t ∈ live, (ren (rnB H.length [0, 1, 2]) 8 (e1.get t)) = e0.get t) :
    SameUp H.length live [0, 1, 2] e0 (H ++ [none] ++ [some A] ++ [some B]) e1 (H ++ [none] ++ [some A] ++ [some B]) := by
  refine ⟨[0, 1, 2], by simp, by simp, by simp, by decide, by decide, by decide, hl, ?_⟩
  intro k hk
  simp only [List.mem_cons, List.not_mem_nil, or_false] at hk
  rcases hk with rfl | rfl | rfl
  · simp [hget]
  · simp [hget, hA]
  · simp [hget, hB]
theorem three_C (hA : ∀ f, A.map (ren f 8) = A) (hB : ∀ f, B.map (ren f 8) = B) (hl : ∀ t ∈ live, (ren (rnB H.length [0, 2, 1]) 8 (e1.get t)) = e0.get t) :
    SameUp H.length live [0, 1, 2] e0 (H ++ [none] ++ [some A] ++ [some B]) e1 (H ++ [none] ++ [some B] ++ [some A]) := by
  refine ⟨[0, 2, 1], by simp, by simp, by simp, by decide, by decide, by decide, hl, ?_⟩
  intro k hk
  simp only [List.mem_cons, List.not_mem_nil, or_false] at hk
  rcases hk with rfl | rfl | rfl
  · simp [hget]
  · simp [hget, hA]
  · simp [hget, hB]
theorem three_D (hA : ∀ f, A.map (ren f 8) = A) (hB : ∀ f, B.map (ren f 8) = B) (hl : ∀ t ∈ live, (ren (rnB H.length [1, 2, 0]) 8 (e1.get t)) = e0.get t) :
    SameUp H.length live [0, 1, 2] e0 (H ++ [none] ++ [some A] ++ [some B]) e1 (H ++ [some B] ++ [none] ++ [some A]) := by
  refine ⟨[1, 2, 0], by simp, by simp, by simp, by decide, by decide, by decide, hl, ?_⟩
  intro k hk
  simp only [List.mem_cons, List.not_mem_nil, or_false] at hk
  rcases hk with rfl | rfl | rfl
  · simp [hget]
  · simp [hget, hA]
  · simp [hget, hB]
end
theorem keep_three (H : Heap) (A B C : Option Blk) : keepOnly [0, 1, 2] H.length (H ++ [A] ++ [B] ++ [C]) = H ++ [A] ++ [B] ++ [C] := by
  unfold keepOnly
  apply List.ext_getElem?
  intro i
  rw [List.getElem?_mapIdx]
  by_cases h : i < H.length
  · simp [h]
  · by_cases h2 : i < (H ++ [A] ++ [B] ++ [C]).length
    · have : i - H.length = 0 ∨ i - H.length = 1 ∨ i - H.length = 2 := by simp at h2; omega
      rcases this with h3 | h3 | h3 <;> simp [h3]
    · rw [List.getElem?_eq_none (by omega)]; rfl
theorem three_low {H : Heap} {A B C : Option Blk} {b : Nat} (h : b < H.length) : hget (H ++ [A] ++ [B] ++ [C]) b = hget H b := by
  rw [hget_low _ _ _ (by simp; omega), hget_low _ _ _ (by simp; omega), hget_low _ _ _ h]
theorem three_1 (H : Heap) (A B C : Option Blk) : hget (H ++ [A] ++ [B] ++ [C]) (H.length + 1) = B := by simp [hget]
theorem three_2 (H : Heap) (A B C : Option Blk) : hget (H ++ [A] ++ [B] ++ [C]) (H.length + 2) = C := by simp [hget]
theorem ints_ren (l : List Int) (f : Nat → Nat) : (l.map AV.i).map (ren f 8) = l.map AV.i := by rw [List.map_map]; rfl
theorem slT (L : List Pr) (h : 0 < L.length) : sliceV Try.prog 41 (prsAV L) (some (AV.i 1)) none = some (prsAV L.tail) := by
  cases L with
  | nil => simp at h
  | cons m L => exact slP m L
theorem bld43 (b o n m : Nat) (l : List AV) : buildV Try.prog 43 [(0, .own 1 b o n), (1, .sl m l)] = some (.agg [.own 1 b o n, .sl m l]) := by
  simp only [buildV, ty43, places, ty40, ty41]
  rfl
attribute [go_sem] bld43
theorem flatP_ren (L : List Pr) (f : Nat → Nat) (d : Nat) : (flatP L).map (ren f (d + 1)) = flatP L := by
  unfold flatP
  rw [List.map_flatten, List.map_map]
  rfl
theorem ren_prs (L : List Pr) (f : Nat → Nat) : ren f 7 (prsAV L) = prsAV L := by
  show AV.sl _ ((flatP L).map (ren f 6)) = _
  rw [flatP_ren]
theorem ren_pp (L : List Pr) (f : Nat → Nat) (b o n : Nat) : ren f 8 (.agg [.own 1 b o n, prsAV L]) = .agg [.own 1 (f b) o n, prsAV L] := by
  show AV.agg [.own 1 (f b) o n, ren f 7 (prsAV L)] = _
  rw [ren_prs]
theorem ren_own8 (f : Nat → Nat) (z b o n : Nat) : ren f 8 (.own z b o n) = .own z (f b) o n := rfl
theorem ren_ptr8 (f : Nat → Nat) (b o : Nat) : ren f 8 (.ptr b o) = .ptr (f b) o := rfl
theorem rnB_add (h : Nat) (p : List Nat) (k : Nat) : rnB h p (h + k) = h + p.idxOf k := by
  unfold rnB
  rw [if_neg (by omega), Nat.add_sub_cancel_left]
theorem rnB_zero (h : Nat) (p : List Nat) : rnB h p h = h + p.idxOf 0 := rnB_add h p 0
theorem ix_A1 : List.idxOf 1 [0, 1, 2] = 1 := rfl
theorem ix_A2 : List.idxOf 2 [0, 1, 2] = 2 := rfl
theorem ix_C1 : List.idxOf 1 [0, 2, 1] = 2 := rfl
theorem ix_C2 : List.idxOf 2 [0, 2, 1] = 1 := rfl
theorem ix_D0 : List.idxOf 0 [1, 2, 0] = 2 := rfl
theorem ix_D2 : List.idxOf 2 [1, 2, 0] = 1 := rfl
theorem hlen1 (H : Heap) (A : Option Blk) : (H ++ [A]).length = H.length + 1 := by simp
theorem hlen2 (H : Heap) (A B : Option Blk) : (H ++ [A] ++ [B]).length = H.length + 2 := by simp
theorem hlen3 (H : Heap) (A B C : Option Blk) : (H ++ [A] ++ [B] ++ [C]).length = H.length + 3 := by simp
theorem flatP_00 (l : List Pr) (h : 0 < l.length) (h3 : 3 < Try.prog.types.size) : (flatP l)[0 * 2 + 0 * (Try.prog.types[3]'h3).size]? = some (AV.i (gt l 0).a) := by
  have e : (Try.prog.types[3]'h3).size = 1 := rfl
  rw [e]
  exact flatP_get l 0 0 h (by omega)
theorem flatP_01 (l : List Pr) (h : 0 < l.length) (h3 : 3 < Try.prog.types.size) : (flatP l)[0 * 2 + 1 * (Try.prog.types[3]'h3).size]? = some (AV.i (gt l 0).b) := by
  have e : (Try.prog.types[3]'h3).size = 1 := rfl
  rw [e]
  exact flatP_get l 0 1 h (by omega)
theorem flatP_02 (l : List Pr) (h : 0 < l.length) (h3 : 3 < Try.prog.types.size) : (flatP l)[0 * 2 + Int.toNat 1 * (Try.prog.types[3]'h3).size]? = some (AV.i (gt l 0).b) := flatP_01 l h h3
theorem flatP_03 (l : List Pr) (h : 0 < l.length) (h3 : 3 < Try.prog.types.size) : (flatP l)[0 * 2 + Int.toNat 0 * (Try.prog.types[3]'h3).size]? = some (AV.i (gt l 0).a) := flatP_00 l h h3
attribute [go_sem] flatP_00 flatP_01 flatP_02 flatP_03
theorem stay_nil {P : List Int} {L : List Pr} {t : Int} (h : L = []) (hc : canBe P L t) : allBe P L t := by
  subst h
  exact all_nil.2 (can_nil.1 hc)
/-- What RaceStays asks. -/
theorem can_zero {P : List Int} {L : List Pr} {t : Int} (h : allBe P L t) : canBe P L t :=
  ⟨List.replicate L.length 0, by simp, fun i hi => by rw [gt_rep]; omega, h _ (by simp) fun i hi => by rw [gt_rep]; omega⟩
theorem stay_can {P : List Int} {L : List Pr} {t : Int} {x : Int} (h0 : 0 < L.length) (hx : 0 ≤ x ∧ x ≤ 2) (h : canBe (step1 P (gt L 0) x) L.tail t) : canBe P L t := by
  cases L with
  | nil => simp at h0
  | cons m L => exact can_cons.2 ⟨x.toNat, by omega, by rw [show ((x.toNat : Nat) : Int) = x by omega]; exact h⟩
theorem stay_all {P : List Int} {L : List Pr} {t : Int} {x : Int} (h0 : 0 < L.length) (hx : 0 ≤ x ∧ x ≤ 2) (h : allBe P L t) : allBe (step1 P (gt L 0) x) L.tail t := by
  cases L with
  | nil => simp at h0
  | cons m L =>
    have := all_cons.1 h x.toNat (by omega)
    rwa [show ((x.toNat : Nat) : Int) = x by omega] at this
theorem thru_err {P : List Int} {L : List Pr} {t : Int} : (thruS P L t).2.2 = (mostS P L t).2 := by
  rw [thruS]
  split
  · rfl
  · rename_i h; exact (Decidable.not_not.mp h).symm
theorem thru_iff {P : List Int} {L : List Pr} {t : Int} (h : (mostS P L t).2 = 0) : (thruS P L t).1 = true ↔ allBe P L t := by
  obtain ⟨g, t0, t1⟩ := most_of h
  rw [thruS, if_neg (fun hh => hh h), decide_eq_true_eq]
  exact thru_all g t0 t1
theorem most_rchk {P : List Int} {L : List Pr} {t : Int} (h : (mostS P L t).2 ≠ 0) (t0 : 0 ≤ t) (t1 : t < P.length) : rchkS P L ≠ 0 := fun hh => h (by rw [mostS, if_neg (fun h7 => h7 hh), if_neg (by omega)])
end Go.Proofs.Ytdicnojnkbmdlaa
end
section
set_option linter.unusedSimpArgs false
set_option linter.unusedVariables false
set_option maxHeartbeats 40000000
set_option maxRecDepth 4000
namespace Go.Proofs.Ytdicnojnkbmdlaa
open Go Go.Am

abbrev lc_pairsown_ok (a b c d e f g h i j : AV) : Env := [(0,a),(2,b),(3,c),(5,d),(6,e),(7,f),(8,g),(9,h),(10,i),(18,j)]
theorem pairsown_ok (lim : Nat) (H : Heap) (bo : Nat) (L : List Pr) (qo : hget H bo = some (flatP L)) (hL : L.length ≤ 400) :
    ACall sig lim 53 [.own 2 bo 0 L.length] H fun r H' => r = pairsA L ∧ H' = H := by
 have qx : True := trivial
 have qp : True := trivial
 have lo0 := hget_lt qo
 refine ACall_pure (fa := fa53) rfl rfl rfl rfl ?_
 have tr : ∀ a0 : AV, env0 fa53.keep [a0] = [(0,a0),(2,.any),(3,.any),(5,.any),(6,.any),(7,.any),(8,.any),(9,.any),(10,.any),(18,.any)] := fun a0 => rfl
 refine W_to (tr _) ?_; clear tr
 refine at_seq rfl ?_
 refine rg rfl ?_
 refine Rq ?_
 have tr : ∀ a b c d e f g h i j k : AV, let l := lc_pairsown_ok a b c d e f g h i j; trim ((2,k)::l) l = [(0,a),(2,k),(3,c),(5,d),(6,e),(7,f),(8,g),(9,h),(10,i),(18,j)] := by intros; rfl
 refine R_nil (tr ..) ?_; clear tr
 refine then_n ?_
 refine at_seq rfl ?_
 refine rg rfl ?_
 refine Rq ?_
 have tr : ∀ a b c d e f g h i j k : AV, let l := lc_pairsown_ok a b c d e f g h i j; trim ((3,k)::l) l = [(0,a),(2,b),(3,k),(5,d),(6,e),(7,f),(8,g),(9,h),(10,i),(18,j)] := by intros; rfl
 refine R_nil (tr ..) ?_; clear tr
 refine then_n ?_
 refine at_seq rfl ?_
 refine at_seq rfl ?_
 refine rg rfl ?_
 refine Rq ?_
 refine Rq ?_
 refine Rq ?_
 have tr : ∀ a b c d e f g h i j k m n : AV, let l := lc_pairsown_ok a b c d e f g h i j; trim ((9,n)::(8,m)::(7,k)::l) l = [(0,a),(2,b),(3,c),(5,d),(6,e),(7,k),(8,m),(9,n),(10,i),(18,j)] := by intros; rfl
 refine R_nil (tr ..) ?_; clear tr
 refine then_n ?_
 refine at_block rfl ?_
 refine loop_n rfl (fun mm kv H' => ∃ u : Nat, ∃ o : AV, ∃ x5 x6 x10 x18 : AV, (kv = [(3, o), (5, x5), (6, x6), (9, AV.i u), (10, x10), (18, x18)]) ∧ (mm = L.length - u) ∧ (H.length ≤ H'.length) ∧ (u ≤ L.length) ∧ (OutP H.length H' o (pairsN L u)) ∧ (hget H' bo = some (flatP L))) ⟨0, _, _, _, _, _, rfl, rfl, by exact Nat.le_refl _, by omega, by exact .inl ⟨rfl, rfl⟩, by exact qo⟩ (by rfl) ?_
 rintro mm kv HB ⟨u, o, x5, x6, x10, x18, rfl, rfl, hHB, hu, hO, qo⟩
 have tr : ∀ a b c d e f g h i j k m n o p q : AV, upd [(0,a),(2,b),(3,c),(5,d),(6,e),(7,f),(8,g),(9,h),(10,i),(18,j)] [(3,k),(5,m),(6,n),(9,o),(10,p),(18,q)] = [(0,a),(2,b),(3,k),(5,m),(6,n),(7,f),(8,g),(9,o),(10,p),(18,q)] := by intros; rfl
 refine W_to (tr ..) ?_; clear tr
 have hpl := pairs_len L u
 refine at_seq rfl ?_
 refine rg rfl ?_
 refine Rq ?_
 have tr : ∀ a b c d e f g h i j k : AV, let l := lc_pairsown_ok a b c d e f g h i j; trim ((10,k)::l) l = [(0,a),(2,b),(3,c),(5,d),(6,e),(7,f),(8,g),(9,h),(10,k),(18,j)] := by intros; rfl
 refine R_nil (tr ..) ?_; clear tr
 refine then_n ?_
 refine at_seq rfl ?_
 refine cdd (fun h1 => ?_) (fun h1 => ?_)
 ·
  try simp only [decide_eq_true_eq, decide_eq_false_iff_not, Bool.not_eq_true', Bool.not_eq_false', beq_iff_eq, beq_eq_false_iff_ne, ne_eq] at h1
  refine at_skip rfl ?_
  refine then_n ?_
  refine at_seq rfl ?_
  refine at_block rfl ?_
  refine at_seq rfl ?_
  refine rg rfl ?_
  have hO1 := hO
  refine Rq ?_
  refine R_q rfl (by simp (disch := first | omega | (simp only [List.length_map, List.length_append, List.length_set, List.length_cons, List.length_nil]; omega)) only [go_sem, ↓reduceIte, Nat.reduceEqDiff, reduceCtorEq, qx, qp, qo] <;> rfl) ?_
  refine A_alloc rfl ?_
  intro HC n4
  have en4 := n4.len
  have qo := (n4.old _ (hget_lt qo)).trans qo
  have qx := n4.new
  have hO := hO.mono fun b hb k hk => (n4.old _ (hget_lt hk)).trans hk
  have lqx := hget_lt qx
  refine A_store ty58 (by simp (disch := first | omega | (simp only [List.length_map, List.length_append, List.length_set, List.length_cons, List.length_nil]; omega)) only [go_sem, ↓reduceIte, Nat.reduceEqDiff, reduceCtorEq, qo] <;> rfl) (by simp (disch := first | omega | (simp only [List.length_map, List.length_append, List.length_set, List.length_cons, List.length_nil]; omega)) only [go_sem, ↓reduceIte, Nat.reduceEqDiff, reduceCtorEq, qx, qo] <;> rfl) qx ⟨by omega, rfl, by first | exact Nat.le_refl _ | simp⟩ (show _ = prC (gt L u) from rfl) ?_
  intro HD w4
  have ew4 := w4.len
  have qo := (w4.old _ (by omega)).trans qo
  have qx := w4.new
  have hO := hO1.mono fun b hb k hk => (w4.old _ (by have := hget_lt hk; omega)).trans ((n4.old _ (hget_lt hk)).trans hk)
  have tr : ∀ a b c d e f g h i j k m n : AV, let l := lc_pairsown_ok a b c d e f g h i j; trim ((5,n)::(12,m)::(11,k)::l) l = [(0,a),(2,b),(3,c),(5,n),(6,e),(7,f),(8,g),(9,h),(10,i),(18,j)] := by intros; rfl
  refine R_nil (tr ..) ?_; clear tr
  refine then_n ?_
  refine at_seq rfl ?_
  refine rg rfl ?_
  refine R_q rfl (by simp (disch := first | omega | (simp only [List.length_map, List.length_append, List.length_set, List.length_cons, List.length_nil]; omega)) only [go_sem, ↓reduceIte, Nat.reduceEqDiff, reduceCtorEq, qx, qp, qo] <;> rfl) ?_
  refine Rcall ?_
  refine ACall_eq (pair_ok _ _ _) ?_
  have hO1 := hO
  refine A_alloc rfl ?_
  intro HE n5
  have en5 := n5.len
  have qx := (n5.old _ (hget_lt qx)).trans qx
  have qo := (n5.old _ (hget_lt qo)).trans qo
  have qp := n5.new
  have lqx := hget_lt qx
  have lqp := hget_lt qp
  refine A_store ty58 (by simp (disch := first | omega | (simp only [List.length_map, List.length_append, List.length_set, List.length_cons, List.length_nil]; omega)) only [go_sem, ↓reduceIte, Nat.reduceEqDiff, reduceCtorEq] <;> rfl) (by simp (disch := first | omega | (simp only [List.length_map, List.length_append, List.length_set, List.length_cons, List.length_nil]; omega)) only [go_sem, ↓reduceIte, Nat.reduceEqDiff, reduceCtorEq, qp] <;> rfl) qp ⟨by omega, rfl, by first | exact Nat.le_refl _ | simp⟩ (show _ = prC (norm (gt L u)) from rfl) ?_
  intro HF w5
  have ew5 := w5.len
  have qo := (w5.old _ (by omega)).trans qo
  have qx := (w5.old _ (by omega)).trans qx
  have qp := w5.new
  have hO := hO1.mono fun b hb k hk => (w5.old _ (by have := hget_lt hk; omega)).trans ((n5.old _ (hget_lt hk)).trans hk)
  have tr : ∀ a b c d e f g h i j k m n : AV, let l := lc_pairsown_ok a b c d e f g h i j; trim ((6,n)::(14,m)::(13,k)::l) l = [(0,a),(2,b),(3,c),(5,d),(6,n),(7,f),(8,g),(9,h),(10,i),(18,j)] := by intros; rfl
  refine R_nil (tr ..) ?_; clear tr
  refine then_n ?_
  refine at_seq rfl ?_
  refine rg rfl ?_
  refine Rq ?_
  refine R_q rfl (by simp (disch := first | omega | (simp only [List.length_map, List.length_append, List.length_set, List.length_cons, List.length_nil]; omega)) only [go_sem, ↓reduceIte, Nat.reduceEqDiff, reduceCtorEq, qx, qp, qo] <;> rfl) ?_
  refine Rcall ?_
  refine ACall_eq (contains_ok _ H.length _ o _ _ hO (by omega)) ?_
  refine Rq ?_
  have tr : ∀ a b c d e f g h i j k m n o : AV, let l := lc_pairsown_ok a b c d e f g h i j; trim ((18,o)::(17,n)::(16,m)::(15,k)::l) l = [(0,a),(2,b),(3,c),(5,d),(6,e),(7,f),(8,g),(9,h),(10,i),(18,o)] := by intros; rfl
  refine R_nil (tr ..) ?_; clear tr
  refine then_n ?_
  refine cdd (fun h2 => ?_) (fun h2 => ?_)
  ·
   try simp only [decide_eq_true_eq, decide_eq_false_iff_not, Bool.not_eq_true', Bool.not_eq_false', beq_iff_eq, beq_eq_false_iff_ne, ne_eq] at h2
   refine rg rfl ?_
   refine Rq ?_
   refine R_q rfl (by simp (disch := first | omega | (simp only [List.length_map, List.length_append, List.length_set, List.length_cons, List.length_nil]; omega)) only [go_sem, ↓reduceIte, Nat.reduceEqDiff, reduceCtorEq, qx, qp, qo] <;> rfl) ?_
   have hob := fun b hb => hO.lt (b := b) hb
   refine A_buildSlice (bs41 _ _ _ _ (norm (gt L u)) (by simp (disch := first | omega | (simp only [List.length_map, List.length_append, List.length_set, List.length_cons, List.length_nil]; omega)) only [go_sem, ↓reduceIte, Nat.reduceEqDiff, reduceCtorEq, qx, qp])) ?_
   intro HG n7
   have en7 := n7.len
   have qx := (n7.old _ (hget_lt qx)).trans qx
   have qp := (n7.old _ (hget_lt qp)).trans qp
   have qo := (n7.old _ (hget_lt qo)).trans qo
   have qn := n7.new
   have hO := hO.mono fun b hb k hk => (n7.old _ (hget_lt hk)).trans hk
   have lqo := hget_lt qo
   obtain ⟨b, hbl, hbl2, hap⟩ := outP_append (lim := H.length) hO hob qn (Nat.le_refl _) (by omega) (by omega)
   refine A_append (by simp (disch := first | omega | (simp only [List.length_map, List.length_append, List.length_set, List.length_cons, List.length_nil]; omega)) only [go_sem, ↓reduceIte, Nat.reduceEqDiff, reduceCtorEq]; exact hap) ?_
   intro HK g7
   have eg7 := g7.len
   have qo := (g7.old _ (by omega) lqo).trans qo
   refine Rq ?_
   have tr : ∀ a b c d e f g h i j k m n o p : AV, let l := lc_pairsown_ok a b c d e f g h i j; trim ((3,p)::(22,o)::(21,n)::(20,m)::(19,k)::l) l = [(0,a),(2,b),(3,p),(5,d),(6,e),(7,f),(8,g),(9,h),(10,i),(18,j)] := by intros; rfl
   refine R_nil (tr ..) ?_; clear tr
   refine blk_n ?_
   refine then_n ?_
   refine rg rfl ?_
   refine Rq ?_
   refine Rq ?_
   have tr : ∀ a b c d e f g h i j k m : AV, let l := lc_pairsown_ok a b c d e f g h i j; trim ((9,m)::(23,k)::l) l = [(0,a),(2,b),(3,c),(5,d),(6,e),(7,f),(8,g),(9,m),(10,i),(18,j)] := by intros; rfl
   refine R_nil (tr ..) ?_; clear tr
   refine then_n ?_
   exact ⟨_, _, ⟨u + 1, (.own 2 HG.length 0 ((pairsN L u).length + 1)), _, _, _, _, rfl, rfl, by first | (show H.length ≤ HK.length; omega) | (show H.length ≤ HF.length; omega), by omega, by first | exact pairs_new g7 (by omega) (by assumption) | exact pairs_old hO (by assumption), by exact qo⟩, by rfl, by omega⟩
  ·
   try simp only [decide_eq_true_eq, decide_eq_false_iff_not, Bool.not_eq_true', Bool.not_eq_false', beq_iff_eq, beq_eq_false_iff_ne, ne_eq] at h2
   refine at_skip rfl ?_
   refine blk_n ?_
   refine then_n ?_
   refine rg rfl ?_
   refine Rq ?_
   refine Rq ?_
   have tr : ∀ a b c d e f g h i j k m : AV, let l := lc_pairsown_ok a b c d e f g h i j; trim ((9,m)::(23,k)::l) l = [(0,a),(2,b),(3,c),(5,d),(6,e),(7,f),(8,g),(9,m),(10,i),(18,j)] := by intros; rfl
   refine R_nil (tr ..) ?_; clear tr
   refine then_n ?_
   exact ⟨_, _, ⟨u + 1, o, _, _, _, _, rfl, rfl, by first | (show H.length ≤ HK.length; omega) | (show H.length ≤ HF.length; omega), by omega, by first | exact pairs_new g7 (by omega) (by assumption) | exact pairs_old hO (by assumption), by exact qo⟩, by rfl, by omega⟩
 ·
  try simp only [decide_eq_true_eq, decide_eq_false_iff_not, Bool.not_eq_true', Bool.not_eq_false', beq_iff_eq, beq_eq_false_iff_ne, ne_eq] at h1
  refine at_exit rfl ?_
  refine then_x ?_
  refine then_x ?_
  refine blk_x ?_
  refine then_n ?_
  refine at_seq rfl ?_
  refine rg rfl ?_
  refine Rq ?_
  refine Rq ?_
  have tr : ∀ a b c d e f g h i j k m : AV, let l := lc_pairsown_ok a b c d e f g h i j; trim ((2,m)::(24,k)::l) l = [(0,a),(2,m),(3,c),(5,d),(6,e),(7,f),(8,g),(9,h),(10,i),(18,j)] := by intros; rfl
  refine R_nil (tr ..) ?_; clear tr
  refine then_n ?_
  refine at_ret rfl ?_
  obtain rfl : u = L.length := by omega
  refine fpure ?_
  exact ⟨hO.frz, rfl⟩

abbrev lc_pairs_nil (a b c d e f g h i j : AV) : Env := [(0,a),(2,b),(3,c),(5,d),(6,e),(7,f),(8,g),(9,h),(10,i),(18,j)]
theorem pairs_nil (lim : Nat) (H : Heap) :
    ACall sig lim 53 [nilP] H fun r H' => r = nilP ∧ H' = H := by
 refine ACall_pure (fa := fa53) rfl rfl rfl rfl ?_
 have tr : ∀ a0 : AV, env0 fa53.keep [a0] = [(0,a0),(2,.any),(3,.any),(5,.any),(6,.any),(7,.any),(8,.any),(9,.any),(10,.any),(18,.any)] := fun a0 => rfl
 refine W_to (tr _) ?_; clear tr
 refine at_seq rfl ?_
 refine rg rfl ?_
 refine Rq ?_
 have tr : ∀ a b c d e f g h i j k : AV, let l := lc_pairs_nil a b c d e f g h i j; trim ((2,k)::l) l = [(0,a),(2,k),(3,c),(5,d),(6,e),(7,f),(8,g),(9,h),(10,i),(18,j)] := by intros; rfl
 refine R_nil (tr ..) ?_; clear tr
 refine then_n ?_
 refine at_seq rfl ?_
 refine rg rfl ?_
 refine Rq ?_
 have tr : ∀ a b c d e f g h i j k : AV, let l := lc_pairs_nil a b c d e f g h i j; trim ((3,k)::l) l = [(0,a),(2,b),(3,k),(5,d),(6,e),(7,f),(8,g),(9,h),(10,i),(18,j)] := by intros; rfl
 refine R_nil (tr ..) ?_; clear tr
 refine then_n ?_
 refine at_seq rfl ?_
 refine at_seq rfl ?_
 refine rg rfl ?_
 refine Rq ?_
 refine Rq ?_
 refine Rq ?_
 have tr : ∀ a b c d e f g h i j k m n : AV, let l := lc_pairs_nil a b c d e f g h i j; trim ((9,n)::(8,m)::(7,k)::l) l = [(0,a),(2,b),(3,c),(5,d),(6,e),(7,k),(8,m),(9,n),(10,i),(18,j)] := by intros; rfl
 refine R_nil (tr ..) ?_; clear tr
 refine then_n ?_
 refine at_block rfl ?_
 refine loop_n rfl (fun mm kv H' => ∃ u : Nat, ∃ x5 x6 x10 x18 : AV, (kv = [(3, nilP), (5, x5), (6, x6), (9, AV.i u), (10, x10), (18, x18)]) ∧ (mm = 0) ∧ (H' = H) ∧ (u = 0)) ⟨0, _, _, _, _, rfl, rfl, rfl, by rfl⟩ (by rfl) ?_
 rintro mm kv H' ⟨u, x5, x6, x10, x18, rfl, rfl, rfl, hu⟩
 have tr : ∀ a b c d e f g h i j k m n o p q : AV, upd [(0,a),(2,b),(3,c),(5,d),(6,e),(7,f),(8,g),(9,h),(10,i),(18,j)] [(3,k),(5,m),(6,n),(9,o),(10,p),(18,q)] = [(0,a),(2,b),(3,k),(5,m),(6,n),(7,f),(8,g),(9,o),(10,p),(18,q)] := by intros; rfl
 refine W_to (tr ..) ?_; clear tr
 refine at_seq rfl ?_
 refine rg rfl ?_
 refine Rq ?_
 have tr : ∀ a b c d e f g h i j k : AV, let l := lc_pairs_nil a b c d e f g h i j; trim ((10,k)::l) l = [(0,a),(2,b),(3,c),(5,d),(6,e),(7,f),(8,g),(9,h),(10,k),(18,j)] := by intros; rfl
 refine R_nil (tr ..) ?_; clear tr
 refine then_n ?_
 refine at_seq rfl ?_
 refine cdd (fun h1 => ?_) (fun h1 => ?_)
 ·
  try simp only [decide_eq_true_eq, decide_eq_false_iff_not, Bool.not_eq_true', Bool.not_eq_false', beq_iff_eq, beq_eq_false_iff_ne, ne_eq] at h1
  exfalso; omega
 ·
  try simp only [decide_eq_true_eq, decide_eq_false_iff_not, Bool.not_eq_true', Bool.not_eq_false', beq_iff_eq, beq_eq_false_iff_ne, ne_eq] at h1
  refine at_exit rfl ?_
  refine then_x ?_
  refine then_x ?_
  refine blk_x ?_
  refine then_n ?_
  refine at_seq rfl ?_
  refine rg rfl ?_
  refine Rq ?_
  refine Rq ?_
  have tr : ∀ a b c d e f g h i j k m : AV, let l := lc_pairs_nil a b c d e f g h i j; trim ((2,m)::(24,k)::l) l = [(0,a),(2,m),(3,c),(5,d),(6,e),(7,f),(8,g),(9,h),(10,i),(18,j)] := by intros; rfl
  refine R_nil (tr ..) ?_; clear tr
  refine then_n ?_
  refine at_ret rfl ?_
  refine fpure ?_
  refine ⟨?_, rfl⟩
  rfl

theorem pairs_any (lim lo : Nat) (H : Heap) (o : AV) (L : List Pr) (hO : OutP lo H o L) (hL : L.length ≤ 400) :
    ACall sig lim 53 [o] H fun r H' => r = pairsA L ∧ H' = H := by
  rcases hO with ⟨rfl, rfl⟩ | ⟨h0, b, rfl, h2, h3⟩
  · exact pairs_nil lim H
  · exact pairsown_ok lim H b L h3 hL

abbrev lc_indexsl_ok (a b c d e f g h i : AV) : Env := [(0,a),(1,b),(3,c),(4,d),(5,e),(7,f),(8,g),(9,h),(16,i)]
theorem indexsl_ok (lim : Nat) (H : Heap) (m : List Pr) (p : Pr) (hm : m.length ≤ 1000) :
    ACall sig lim 71 [prsAV m, .agg (prC p)] H fun r H' => (∃ k : Int, r = AV.i k ∧ ((0 ≤ k ∧ k < m.length ∧ gt m k.toNat = p) ∨ (k = -1 ∧ p ∉ m))) ∧ H' = H := by
 refine ACall_pure (fa := fa71) rfl rfl rfl rfl ?_
 have tr : ∀ a0 a1 : AV, env0 fa71.keep [a0, a1] = [(0,a0),(1,a1),(3,.any),(4,.any),(5,.any),(7,.any),(8,.any),(9,.any),(16,.any)] := fun a0 a1 => rfl
 refine W_to (tr _ _) ?_; clear tr
 refine at_seq rfl ?_
 refine rg rfl ?_
 refine R_box rfl (by simp (disch := first | omega | (simp only [List.length_map, List.length_append, List.length_set, List.length_cons, List.length_nil]; omega)) only [go_sem, ↓reduceIte, Nat.reduceEqDiff, reduceCtorEq] <;> rfl) rfl rfl ?_
 refine Rq ?_
 have tr : ∀ a b c d e f g h i j k : AV, let l := lc_indexsl_ok a b c d e f g h i; trim ((4,k)::(3,j)::l) l = [(0,a),(1,b),(3,j),(4,k),(5,e),(7,f),(8,g),(9,h),(16,i)] := by intros; rfl
 refine R_nil (tr ..) ?_; clear tr
 refine then_n ?_
 refine at_seq rfl ?_
 refine at_seq rfl ?_
 refine rg rfl ?_
 refine Rq ?_
 refine Rq ?_
 refine Rq ?_
 have tr : ∀ a b c d e f g h i j k m : AV, let l := lc_indexsl_ok a b c d e f g h i; trim ((8,m)::(7,k)::(6,j)::l) l = [(0,a),(1,b),(3,c),(4,d),(5,e),(7,k),(8,m),(9,h),(16,i)] := by intros; rfl
 refine R_nil (tr ..) ?_; clear tr
 refine then_n ?_
 refine at_block rfl ?_
 refine loop_n rfl (fun mm kv H' => ∃ u : Nat, ∃ x4 x5 x9 x16 : AV, (kv = [(4, x4), (5, x5), (8, AV.i u), (9, x9), (16, x16)]) ∧ (mm = m.length - u) ∧ (H' = H ++ [some (prC p)]) ∧ (u ≤ m.length) ∧ (∀ i, i < u → gt m i ≠ p)) ⟨0, _, _, _, _, rfl, rfl, rfl, by omega, by intro i hi; omega⟩ (by rfl) ?_
 rintro mm kv H' ⟨u, x4, x5, x9, x16, rfl, rfl, rfl, hu, hq⟩
 have tr : ∀ a b c d e f g h i j k m n o : AV, upd [(0,a),(1,b),(3,c),(4,d),(5,e),(7,f),(8,g),(9,h),(16,i)] [(4,j),(5,k),(8,m),(9,n),(16,o)] = [(0,a),(1,b),(3,c),(4,j),(5,k),(7,f),(8,m),(9,n),(16,o)] := by intros; rfl
 refine W_to (tr ..) ?_; clear tr
 refine at_seq rfl ?_
 refine rg rfl ?_
 refine Rq ?_
 have tr : ∀ a b c d e f g h i j : AV, let l := lc_indexsl_ok a b c d e f g h i; trim ((9,j)::l) l = [(0,a),(1,b),(3,c),(4,d),(5,e),(7,f),(8,g),(9,j),(16,i)] := by intros; rfl
 refine R_nil (tr ..) ?_; clear tr
 refine then_n ?_
 refine at_seq rfl ?_
 refine cdd (fun h1 => ?_) (fun h1 => ?_)
 ·
  try simp only [decide_eq_true_eq, decide_eq_false_iff_not, Bool.not_eq_true', Bool.not_eq_false', beq_iff_eq, beq_eq_false_iff_ne, ne_eq] at h1
  refine at_skip rfl ?_
  refine then_n ?_
  refine at_seq rfl ?_
  refine at_block rfl ?_
  refine at_seq rfl ?_
  refine rg rfl ?_
  refine Rq ?_
  refine Rq ?_
  have tr : ∀ a b c d e f g h i j k : AV, let l := lc_indexsl_ok a b c d e f g h i; trim ((5,k)::(10,j)::l) l = [(0,a),(1,b),(3,c),(4,d),(5,k),(7,f),(8,g),(9,h),(16,i)] := by intros; rfl
  refine R_nil (tr ..) ?_; clear tr
  refine then_n ?_
  refine at_seq rfl ?_
  refine rd rfl rfl ?_
  refine Qq ?_
  refine Qq ?_
  refine Qq ?_
  refine Qq ?_
  refine Qq ?_
  refine Qq ?_
  refine Q_nil ?_
  have tr : ∀ a b c d e f g h i j k m n o p : AV, let l := lc_indexsl_ok a b c d e f g h i; trim ((16,p)::(15,o)::(14,n)::(13,m)::(12,k)::(11,j)::l) l = [(0,a),(1,b),(3,c),(4,d),(5,e),(7,f),(8,g),(9,h),(16,p)] := by intros; rfl
  refine R_nil (tr ..) ?_; clear tr
  refine then_n ?_
  refine cdd (fun h2 => ?_) (fun h2 => ?_)
  ·
   try simp only [decide_eq_true_eq, decide_eq_false_iff_not, Bool.not_eq_true', Bool.not_eq_false', beq_iff_eq, beq_eq_false_iff_ne, ne_eq] at h2
   refine at_seq rfl ?_
   refine rg rfl ?_
   refine Rq ?_
   refine Rq ?_
   have tr : ∀ a b c d e f g h i j k : AV, let l := lc_indexsl_ok a b c d e f g h i; trim ((4,k)::(17,j)::l) l = [(0,a),(1,b),(3,c),(4,k),(5,e),(7,f),(8,g),(9,h),(16,i)] := by intros; rfl
   refine R_nil (tr ..) ?_; clear tr
   refine then_n ?_
   refine at_ret rfl ?_
   refine blk_r ?_
   refine then_r ?_
   refine then_r ?_
   refine blk_r ?_
   refine then_r ?_
   refine fpure ?_
   refine ⟨⟨_, rfl, .inl ⟨by omega, by omega, ?_⟩⟩, rfl⟩
   rw [Int.toNat_natCast]
   simp_all
  ·
   try simp only [decide_eq_true_eq, decide_eq_false_iff_not, Bool.not_eq_true', Bool.not_eq_false', beq_iff_eq, beq_eq_false_iff_ne, ne_eq] at h2
   refine at_skip rfl ?_
   refine blk_n ?_
   refine then_n ?_
   refine rg rfl ?_
   refine Rq ?_
   refine Rq ?_
   have tr : ∀ a b c d e f g h i j k : AV, let l := lc_indexsl_ok a b c d e f g h i; trim ((8,k)::(18,j)::l) l = [(0,a),(1,b),(3,c),(4,d),(5,e),(7,f),(8,k),(9,h),(16,i)] := by intros; rfl
   refine R_nil (tr ..) ?_; clear tr
   refine then_n ?_
   exact ⟨_, _, ⟨u + 1, _, _, _, _, rfl, rfl, rfl, by omega, by exact all_step hq (fun hh => by simp_all)⟩, by rfl, by omega⟩
 ·
  try simp only [decide_eq_true_eq, decide_eq_false_iff_not, Bool.not_eq_true', Bool.not_eq_false', beq_iff_eq, beq_eq_false_iff_ne, ne_eq] at h1
  refine at_exit rfl ?_
  refine then_x ?_
  refine then_x ?_
  refine blk_x ?_
  refine then_n ?_
  refine at_seq rfl ?_
  refine rg rfl ?_
  refine Rq ?_
  have tr : ∀ a b c d e f g h i j : AV, let l := lc_indexsl_ok a b c d e f g h i; trim ((4,j)::l) l = [(0,a),(1,b),(3,c),(4,j),(5,e),(7,f),(8,g),(9,h),(16,i)] := by intros; rfl
  refine R_nil (tr ..) ?_; clear tr
  refine then_n ?_
  refine at_ret rfl ?_
  refine fpure ?_
  refine ⟨⟨_, rfl, .inr ⟨rfl, fun hh => ?_⟩⟩, rfl⟩
  obtain ⟨i, hi, he⟩ := List.mem_iff_getElem.1 hh
  exact hq i (by omega) (by rw [gt_eq _ _ hi]; exact he)

end Go.Proofs.Ytdicnojnkbmdlaa
end
