/-
  Texts of TopRace, part 9 of 16. The points after results: memory, and what the statement asks of the answers.
-/
import Derived.Test.YtdicnojnkbmdlaaKTopRace7
import Derived.Test.YtdicnojnkbmdlaaKTopRace6
import Derived.Test.YtdicnojnkbmdlaaKTopRace5
section
set_option linter.unusedVariables false
namespace Go.Proofs.Ytdicnojnkbmdlaa
open Go Go.Am
theorem most_of {P : List Int} {L : List Pr} {t : Int} (h : (mostS P L t).2 = 0) : ROK P L ∧ 0 ≤ t ∧ t < P.length := by
  unfold mostS at h
  split at h
  · rename_i h1; exact absurd h h1
  split at h
  · cases h
  rename_i h1 h2
  exact ⟨rok_of (Decidable.not_not.mp h1), by omega, by omega⟩
theorem nil40 (n : Nat) (l : List AV) (h : 0 < n) : binV Try.prog .eql 40 (.sl n l) (.v (.slice none 0 0)) = some (.v (.bool false)) := by
  simp only [binV, tk40, nilB]
  rw [if_pos h]
  rfl
theorem bs40e (lim : Nat) (H : Heap) (ev : Operand → AV) : effV Try.prog lim (.buildSlice 40 0 #[]) ev H = some (.own 1 H.length 0 0, H ++ [some []]) := by
  simp only [effV, tk40, ty3]
  rw [if_pos ⟨rfl, by decide, by decide⟩]
  rfl
theorem app40e {lim : Nat} {H : Heap} {b : Nat} {l : List Int} (hb : hget H b = some []) (hl : lim ≤ b) (hm : l.length ≤ 1000000) :
    ∃ H', appendV Try.prog lim H 40 (.own 1 b 0 0) (intsAV l) = some (.own 1 H.length 0 l.length, H') ∧ MGrew H b H' (l.map AV.i) := by
  refine ⟨_, ?_, MGrew.of _ _ _⟩
  simp only [appendV, tk40, ty3, srcCells, hb, Nat.mul_one, List.length_map]
  rw [if_pos (Nat.le_refl _)]
  simp only
  rw [if_pos ⟨rfl, by decide, by rw [List.take_of_length_le (by simp)]; induction l with | nil => rfl | cons x l ih => rw [List.map_cons, List.all_cons, ih (by simp at hm; omega)]; rfl⟩]
  simp only [List.drop_nil, List.take_nil, List.nil_append, Nat.zero_add]
  rw [if_pos ⟨hl, trivial, by simp, by omega, by omega⟩, List.take_of_length_le (by simp)]
theorem playA_ok {P : List Int} {L : List Pr} {R : List Int} (h1 : rchkS P L = 0) (h2 : R.length = L.length) (h3 : resOK R) : playA P L R = intsAV (playN P L R L.length) ∧ playE P L R = 0 := by
  constructor
  · rw [playA, if_neg (by rintro (h | h | h); exact h h1; exact h h2; exact h h3)]
  · rw [playE, if_neg (fun hh => hh h1), if_neg (fun hh => hh h2), if_neg (fun hh => hh h3)]
theorem playA_1 {P : List Int} {L : List Pr} {R : List Int} (h1 : rchkS P L ≠ 0) : playA P L R = nilP ∧ playE P L R = rchkS P L := ⟨by rw [playA, if_pos (.inl h1)], by rw [playE, if_pos h1]⟩
theorem playA_2 {P : List Int} {L : List Pr} {R : List Int} (h1 : rchkS P L = 0) (h2 : R.length ≠ L.length) : playA P L R = nilP ∧ playE P L R = 1 := ⟨by rw [playA, if_pos (.inr (.inl h2))], by rw [playE, if_neg (fun hh => hh h1), if_pos h2]⟩
theorem playA_3 {P : List Int} {L : List Pr} {R : List Int} (h1 : rchkS P L = 0) (h2 : R.length = L.length) (h3 : ¬ resOK R) : playA P L R = nilP ∧ playE P L R = 2 :=
  ⟨by rw [playA, if_pos (.inr (.inr h3))], by rw [playE, if_neg (fun hh => hh h1), if_neg (fun hh => hh h2), if_pos h3]⟩
end Go.Proofs.Ytdicnojnkbmdlaa
end
section
set_option linter.unusedVariables false
namespace Go.Proofs.Ytdicnojnkbmdlaa
open Go Go.Am

theorem most_eq {P : List Int} {L : List Pr} {t : Int} (h : (mostS P L t).2 = 0) : (mostS P L t).1 = mostN P L t L.length := by
  unfold mostS at h ⊢
  split at h
  · rename_i h1; exact absurd h h1
  split at h
  · cases h
  rename_i h1 h2
  rw [if_neg h1, if_neg h2]
/-- The first team that has more points than another one can have. -/
def badN (P : List Int) (goal : Int) : Nat → Int
  | 0 => -1
  | u + 1 => if badN P goal u ≠ -1 then badN P goal u else if goal < gt P u then u else -1
theorem bad_at {P : List Int} {goal : Int} {u : Nat} (h : badN P goal u = -1) (h2 : goal < gt P u) : ∀ k, u < k → badN P goal k = u
  | 0, hk => by omega
  | k + 1, hk => by
    rw [badN]
    by_cases hu : u = k
    · subst hu; rw [if_neg (fun hh => hh h), if_pos h2]
    · rw [bad_at h h2 k (by omega), if_pos (by omega)]
theorem bad_on {P : List Int} {goal : Int} {u : Nat} (h : badN P goal u = -1) (h1 : ¬ goal < gt P u) : badN P goal (u + 1) = -1 := by
  rw [badN, if_neg (fun hh => hh h), if_neg h1]
theorem bad_all {P : List Int} {goal : Int} : ∀ {n : Nat}, badN P goal n = -1 → ∀ i, i < n → gt P i ≤ goal
  | 0, _, i, hi => by omega
  | n + 1, h, i, hi => by
    rw [badN] at h
    split at h
    · rename_i h1; exact absurd h h1
    split at h
    · omega
    rename_i h1 h2
    by_cases hn : i = n
    · subst hn; omega
    · exact bad_all (Decidable.not_not.mp h1) i (by omega)
theorem bad_some {P : List Int} {goal : Int} : ∀ {n : Nat}, badN P goal n ≠ -1 → ∃ k : Nat, k < n ∧ badN P goal n = k ∧ goal < gt P k
  | 0, h => absurd rfl h
  | n + 1, h => by
    rw [badN] at h ⊢
    by_cases h1 : badN P goal n ≠ -1
    · rw [if_pos h1]
      obtain ⟨k, h2, h3⟩ := bad_some h1
      exact ⟨k, by omega, h3⟩
    · rw [if_neg h1] at h ⊢
      by_cases h2 : goal < gt P n
      · rw [if_pos h2]; exact ⟨n, by omega, rfl, h2⟩
      · rw [if_neg h2] at h; exact absurd rfl h
noncomputable def firstB (P : List Int) (L : List Pr) (t : Int) : Bool :=
  if (mostS P L t).2 ≠ 0 then false else if badN P (mostS P L t).1 P.length ≠ -1 then false else posB P L (mostS P L t).1 t
noncomputable def firstS (P : List Int) (L : List Pr) (t : Int) : List Int :=
  if (mostS P L t).2 ≠ 0 then [] else if badN P (mostS P L t).1 P.length ≠ -1 then [badN P (mostS P L t).1 P.length] else if posB P L (mostS P L t).1 t = true then [] else setN P L (mostS P L t).1 t P.length
section
variable {P : List Int} {L : List Pr} {t : Int}
theorem first_e (h : (mostS P L t).2 ≠ 0) : firstB P L t = false ∧ firstS P L t = [] := by simp only [firstB, firstS, if_pos h]; exact ⟨trivial, trivial⟩
theorem first_b (h : (mostS P L t).2 = 0) (hb : badN P (mostS P L t).1 P.length ≠ -1) : firstB P L t = false ∧ firstS P L t = [badN P (mostS P L t).1 P.length] :=
  ⟨by rw [firstB, if_neg (fun hh => hh h), if_pos hb], by rw [firstS, if_neg (fun hh => hh h), if_pos hb]⟩
theorem first_y (h : (mostS P L t).2 = 0) (hb : badN P (mostS P L t).1 P.length = -1) (hp : posB P L (mostS P L t).1 t = true) : firstB P L t = true ∧ firstS P L t = [] :=
  ⟨by rw [firstB, if_neg (fun hh => hh h), if_neg (fun hh => hh hb), hp], by rw [firstS, if_neg (fun hh => hh h), if_neg (fun hh => hh hb), if_pos hp]⟩
theorem first_n (h : (mostS P L t).2 = 0) (hb : badN P (mostS P L t).1 P.length = -1) (hp : posB P L (mostS P L t).1 t = false) : firstB P L t = false ∧ firstS P L t = setN P L (mostS P L t).1 t P.length :=
  ⟨by rw [firstB, if_neg (fun hh => hh h), if_neg (fun hh => hh hb), hp], by rw [firstS, if_neg (fun hh => hh h), if_neg (fun hh => hh hb), if_neg (by rw [hp]; decide)]⟩
end
/-- Results that make a team first, and in which it wins its own matches. -/
def VR (P : List Int) (L : List Pr) (t : Int) (R : List Int) : Prop :=
  resOK R ∧ R.length = L.length ∧ (∀ k, k < P.length → gt (playN P L R L.length) k ≤ gt (playN P L R L.length) t.toNat) ∧ ∀ u, u < L.length → ((gt L u).a = t → gt R u = 2) ∧ ((gt L u).b = t → gt R u = 0)
theorem bf_congr {N q : Nat} {Q : List Pr} {c c' : Nat → Int} {P : List Int} {goal t : Int} {x y y' z e : Nat → Int} {T V : Nat → Bool} (B : BF N q Q c P goal t x y z e T V) (hc : ∀ i, i < q → c' i = c i) (hy : ∀ i, i < q → y' i = y i) : BF N q Q c' P goal t x y' z e T V :=
  ⟨B.qa, fun i hi => by rw [hc i hi]; exact B.x0 i hi, fun i hi => by rw [hc i hi, hy i hi]; exact B.y0 i hi, fun i hi => by rw [hc i hi]; exact B.z0 i hi, B.e0, fun i hi => by rw [hy i hi]; exact B.pc i hi,
   fun k hk hkt => by rw [B.tc k hk hkt]; exact sumN_congr q fun i hi => by rw [hy i hi], fun i hi => by rw [hc i hi]; exact B.r1 i hi, fun i hi => by rw [hc i hi, hy i hi]; exact B.r2 i hi, fun i hi => by rw [hc i hi]; exact B.r3 i hi, fun i hi => by rw [hy i hi]; exact B.r4 i hi, B.r5, B.r6, B.r7⟩
theorem vr_of {P : List Int} {L : List Pr} {t goal pb tb n : Int} {f : List Int} {sn : List Bool} (g : ROK P L) (t0 : 0 ≤ t) (t1 : t < P.length) (hg : goal = mostN P L t L.length) (C : Cut P L (pQ L t) goal t pb tb n f sn) (hp : posB P L goal t = true) :
    VR P L t (resN (pQ L t) t L (yN f (pQ L t).length (pQ L t).length) L.length).2 := by
  have W : PQ L t (pQ L t) := (pq_prog L t L.length).to
  have hQ := pQ_nq L t
  obtain ⟨x, z, e, T, V, B, hx⟩ := C.bf
  have hy : ∀ i, i < (pQ L t).length → gt (yN f (pQ L t).length (pQ L t).length) i = gt f (3 * i + 1) := fun i hi => by rw [yN_gt _ _ _ (Nat.le_refl _), if_pos hi]
  have hY : ∀ i, 0 ≤ gt (yN f (pQ L t).length (pQ L t).length) i := fun i => by
    rw [yN_gt _ _ _ (Nat.le_refl _)]
    split
    · exact (B.y0 i (by assumption)).1
    · exact Int.le_refl _
  have B' := bf_congr (c' := fun i => cnlN L t (gt (pQ L t) i) L.length) (y' := fun i => gt (yN f (pQ L t).length (pQ L t).length) i) B (fun i hi => by show _ = cnlN L t (norm (gt (pQ L t) i)) L.length; rw [hQ i hi]) hy
  have hfull := C.full.2 hp
  have hl := res_len (pQ L t) t L (yN f (pQ L t).length (pQ L t).length) L.length
  have hr := res_ok hY (Q := pQ L t) (t := t) (L := L) L.length (Nat.le_refl _)
  have hgoal := res_goal g t0 hY (Q := pQ L t) L.length (Nat.le_refl _)
  refine ⟨fun i hi => hr.2.1 i, hl.2, fun k hk => ?_, fun u hu => ?_⟩
  · rw [hgoal, ← hg]
    by_cases hkt : (k : Int) = t
    · have : k = t.toNat := by omega
      rw [this, hgoal, ← hg]; exact Int.le_refl _
    · exact res_first g W hQ (yN_len _ _ _) B' hY (fun i hi => by rw [hx i, hfull i hi]; show cnlN L t (norm (gt (pQ L t) i)) L.length = _; rw [hQ i hi]) k hk hkt
  · have ho := res_own (Q := pQ L t) (t := t) hY hu
    refine ⟨ho.1, fun hb => ?_⟩
    by_cases ha : (gt L u).a = t
    · have := g.ed u hu; omega
    · exact ho.2 ha hb
/-- What is known of the flow that First reads. -/
theorem first_sum {P : List Int} {L : List Pr} {t : Int} (hm : (mostS P L t).2 = 0) (hp : ∀ k, k < P.length → gt P k ≤ (mostS P L t).1) {Q : List Pr} (W : PQ L t Q) {pb tb n : Int} (ly : LayG pb tb n Q.length P.length) (hn : n = 2 + P.length + Q.length) :
    ∃ E f sn, gE pb tb (cQ L t Q) Q P t (mostS P L t).1 = E ∧ maxF n 0 1 E = f ∧ (reachS n 0 E f).seen = sn ∧ gchkS n 0 1 E = 0 ∧ 3 * Q.length ≤ E.length ∧ E.length ≤ 3 * Q.length + P.length ∧ f.length = E.length ∧ sn.length = n.toNat ∧ (∀ i, i < Q.length → (gt E (3 * i)).c = cQ L t Q i) ∧
      (∀ i, i < Q.length → (0 ≤ gt f (3 * i) ∧ gt f (3 * i) ≤ 1073741824) ∧ 0 ≤ gt f (3 * i + 1) ∧ gt f (3 * i + 1) ≤ 1073741824) ∧ Cut P L Q (mostS P L t).1 t pb tb n f sn := by
  obtain ⟨g, t0, t1⟩ := most_of hm
  have hc := cut_race g t0 t1 (most_eq hm) hp W ly hn
  have hlen := gE_len pb tb (cQ L t Q) Q P t (mostS P L t).1
  obtain ⟨F, _⟩ := maxF_ok hc.1
  obtain ⟨_, so, _, _⟩ := reach_inv (maxF n 0 1 (gE pb tb (cQ L t Q) Q P t (mostS P L t).1)) (gok_of hc.1)
  have hr := fRng_cap (gok_of hc.1) F.rng
  refine ⟨_, _, _, rfl, rfl, rfl, hc.1, hlen.1, hlen.2, F.len, so.seen, fun i hi => ?_, fun i hi => ⟨hr _ (by omega), hr _ (by omega)⟩, hc.2⟩
  have := gE_pair pb tb (cQ L t Q) Q P t (mostS P L t).1 i 0 hi (by omega)
  rw [Nat.add_zero] at this
  rw [this]; rfl
theorem set_ne {P : List Int} {L : List Pr} {goal t : Int} (h : inT P L goal t t.toNat = false) (t0 : 0 ≤ t) {k : Nat} (hk : k < P.length) (hT : inT P L goal t k = true) : setN P L goal t P.length ≠ [] := fun hh => by
  have := ((set_ok h t0 P.length).2 k hk).2 hT
  rw [hh] at this; cases this
theorem full_on {f : List Int} {c : Nat → Int} {i : Nat} {full : Bool} (hf : full = true ↔ ∀ k, k < i → gt f (3 * k) = c k) (h : full = true) : (gt f (3 * i) == c i) = true ↔ ∀ k, k < i + 1 → gt f (3 * k) = c k := by
  rw [beq_iff_eq]
  refine ⟨fun he k hk => ?_, fun hh => hh i (by omega)⟩
  by_cases hki : k = i
  · subst hki; exact he
  · exact hf.1 h k (by omega)
theorem full_off {f : List Int} {c : Nat → Int} {i : Nat} {full : Bool} (hf : full = true ↔ ∀ k, k < i → gt f (3 * k) = c k) (h : full = false) : (false = true) ↔ ∀ k, k < i + 1 → gt f (3 * k) = c k := by
  constructor
  · intro hh; cases hh
  · intro hh; rw [← h]; exact hf.2 fun k hk => hh k (by omega)
/-- What First answers: the program, and the reference. -/
def FirstP (P : List Int) (L : List Pr) (t : Int) (r : AV) : Prop :=
  ∃ (R : List Int) (o : AV), r = .tup [.agg [.v (.bool (firstB P L t)), outA (firstS P L t), o], AV.i (mostS P L t).2] ∧ ((firstB P L t = false ∧ R = [] ∧ o = nilP) ∨ (firstB P L t = true ∧ o = intsAV R ∧ VR P L t R))
def FirstQ (P : List Int) (L : List Pr) (t : Int) (r : AV) : Prop :=
  ∃ (R : List Int), r = .tup [.agg [.v (.bool (firstB P L t)), outA (firstS P L t), outA R], AV.i (mostS P L t).2] ∧ ((firstB P L t = false ∧ R = []) ∨ (firstB P L t = true ∧ R.length = L.length))
theorem inT_new {lo b : Nat} {H H' : Heap} {P : List Int} {L : List Pr} {goal t : Int} {j m : Nat} (g : MGrew H b H' ((setN P L goal t j ++ [(j : Int)]).map AV.i)) (hlo : lo ≤ H.length) (h : inT P L goal t j = true) (hm : m = (setN P L goal t j).length + 1) : OutI lo H' (.own 1 H.length 0 m) (setN P L goal t (j + 1)) := by
  rw [setN, if_pos h]; exact OutI.new g hlo hm
theorem inT_old {lo : Nat} {H : Heap} {P : List Int} {L : List Pr} {goal t : Int} {j : Nat} {o : AV} (hO : OutI lo H o (setN P L goal t j)) (h : inT P L goal t j = false) : OutI lo H o (setN P L goal t (j + 1)) := by
  rw [setN, if_neg (by rw [h]; decide)]; exact hO
theorem setN_len (P : List Int) (L : List Pr) (goal t : Int) : ∀ u, (setN P L goal t u).length ≤ u
  | 0 => Nat.le_refl _
  | u + 1 => by
    have := setN_len P L goal t u
    rw [setN]
    split
    · simp; omega
    · omega
theorem in_not {P : List Int} {L : List Pr} {goal t : Int} (h : inT P L goal t t.toNat = false) (t0 : 0 ≤ t) {j : Nat} (hj : (j : Int) = t) : inT P L goal t j = false := by rw [← h, ← hj, Int.toNat_natCast]
end Go.Proofs.Ytdicnojnkbmdlaa
end
section
set_option linter.unusedVariables false
namespace Go.Proofs.Ytdicnojnkbmdlaa
open Go Go.Am
theorem bld46A (R : List Int) : buildV Try.prog 46 [(0, .v (.bool true)), (2, outA R)] = some (.agg [.v (.bool true), .v (.slice none 0 0), outA R]) := by
  unfold outA
  split
  · exact bld46rn _ _ _
  · exact bld46rs _ _ _
theorem storA (R : List Int) : storable (outA R) = true := by
  unfold outA
  split <;> rfl
end Go.Proofs.Ytdicnojnkbmdlaa
end
section
set_option linter.unusedVariables false
namespace Go.Proofs.Ytdicnojnkbmdlaa
open Go Go.Am
/-- A list of numbers as data: a slice, or nil if there are none. -/
def IsA (a : AV) (l : List Int) : Prop := a = intsAV l ∨ (l = [] ∧ a = nilP)
theorem IsA.len {a : AV} {l : List Int} (h : IsA a l) : lenV (tyOf Try.prog 40) a = some (AV.i (l.length : Nat)) := by
  rcases h with rfl | ⟨rfl, rfl⟩
  · simp only [lenV, ty40, kOf, Option.map_some]
  · simp only [lenV, ty40, kOf, Option.map_some]; rfl
theorem IsA.stor {a : AV} {l : List Int} (h : IsA a l) : storable a = true := by
  rcases h with rfl | ⟨rfl, rfl⟩ <;> rfl
theorem isA_ints (l : List Int) : IsA (intsAV l) l := .inl rfl
theorem isA_out (l : List Int) : IsA (outA l) l := by
  unfold outA
  split
  · rename_i h; exact .inr ⟨h, rfl⟩
  · exact .inl rfl
def memB (S : List Int) (k : Nat) : Bool := decide ((k : Int) ∈ S)
def sumS (P S : List Int) : Nat → Int
  | 0 => 0
  | i + 1 => sumS P S i + gt P (gt S i).toNat
def play2e (P : List Int) (L : List Pr) (t : Int) (R : List Int) : Prop := ∃ k, k < P.length ∧ gt (playN P L R L.length) t.toNat < gt (playN P L R L.length) k
open Classical in
noncomputable def posS (P : List Int) (L : List Pr) (t : Int) (S R : List Int) : Int :=
  if 0 < S.length ∨ R.length ≠ L.length ∨ ¬ resOK R then 4 else if play2e P L t R then 13 else 0
open Classical in
noncomputable def elimS (P : List Int) (L : List Pr) (t G : Int) (S R : List Int) : Int :=
  if 0 < R.length ∨ S.length = 0 ∨ ¬ setOK t S P.length then 4 else if sumS P S S.length + inN (memB S) L L.length ≤ S.length * G then 13 else 0
noncomputable def accS (P : List Int) (L : List Pr) (t : Int) (b : Bool) (S R : List Int) : Int :=
  if (mostS P L t).2 ≠ 0 then (mostS P L t).2 else if b = true then posS P L t S R else elimS P L t (mostS P L t).1 S R
theorem posS_a {P : List Int} {L : List Pr} {t : Int} {S R : List Int} (h : 0 < S.length ∨ R.length ≠ L.length ∨ ¬ resOK R) : posS P L t S R = 4 := by rw [posS, if_pos h]
theorem posS_b {P : List Int} {L : List Pr} {t : Int} {S R : List Int} (h1 : ¬ 0 < S.length) (h2 : R.length = L.length) (h3 : resOK R) (h : play2e P L t R) : posS P L t S R = 13 := by
  rw [posS, if_neg (by rintro (hh | hh | hh); exact h1 hh; exact hh h2; exact hh h3), if_pos h]
theorem posS_c {P : List Int} {L : List Pr} {t : Int} {S R : List Int} (h1 : ¬ 0 < S.length) (h2 : R.length = L.length) (h3 : resOK R) (h : ¬ play2e P L t R) : posS P L t S R = 0 := by
  rw [posS, if_neg (by rintro (hh | hh | hh); exact h1 hh; exact hh h2; exact hh h3), if_neg h]
theorem elimS_a {P : List Int} {L : List Pr} {t G : Int} {S R : List Int} (h : 0 < R.length ∨ S.length = 0 ∨ ¬ setOK t S P.length) : elimS P L t G S R = 4 := by rw [elimS, if_pos h]
theorem elimS_b {P : List Int} {L : List Pr} {t G : Int} {S R : List Int} (h1 : ¬ 0 < R.length) (h2 : ¬ S.length = 0) (h3 : setOK t S P.length) (h : sumS P S S.length + inN (memB S) L L.length ≤ S.length * G) : elimS P L t G S R = 13 := by
  rw [elimS, if_neg (by rintro (hh | hh | hh); exact h1 hh; exact h2 hh; exact hh h3), if_pos h]
theorem elimS_c {P : List Int} {L : List Pr} {t G : Int} {S R : List Int} (h1 : ¬ 0 < R.length) (h2 : ¬ S.length = 0) (h3 : setOK t S P.length) (h : ¬ sumS P S S.length + inN (memB S) L L.length ≤ S.length * G) : elimS P L t G S R = 0 := by
  rw [elimS, if_neg (by rintro (hh | hh | hh); exact h1 hh; exact h2 hh; exact hh h3), if_neg h]
theorem accS_e {P : List Int} {L : List Pr} {t : Int} {b : Bool} {S R : List Int} (h : (mostS P L t).2 ≠ 0) : accS P L t b S R = (mostS P L t).2 := by rw [accS, if_pos h]
theorem accS_t {P : List Int} {L : List Pr} {t : Int} {S R : List Int} (h : (mostS P L t).2 = 0) : accS P L t true S R = posS P L t S R := by rw [accS, if_neg (fun hh => hh h), if_pos rfl]
theorem accS_f {P : List Int} {L : List Pr} {t : Int} {S R : List Int} (h : (mostS P L t).2 = 0) : accS P L t false S R = elimS P L t (mostS P L t).1 S R := by rw [accS, if_neg (fun hh => hh h), if_neg (by decide)]
theorem sumS_rng {P S : List Int} (hp : ∀ i, i < P.length → 0 ≤ gt P i ∧ gt P i ≤ 800) : ∀ u, (∀ i, i < u → 0 ≤ gt S i ∧ gt S i < P.length) → 0 ≤ sumS P S u ∧ sumS P S u ≤ 800 * u
  | 0, _ => by rw [sumS]; omega
  | u + 1, h => by
    have ih := sumS_rng hp u fun i hi => h i (by omega)
    have h1 := h u (by omega)
    have h2 := hp (gt S u).toNat (by omega)
    rw [sumS]; omega
theorem inN_rng (T : Nat → Bool) (L : List Pr) : ∀ u, 0 ≤ inN T L u ∧ inN T L u ≤ 2 * u
  | 0 => by rw [inN]; omega
  | u + 1 => by
    have := inN_rng T L u
    rw [inN]
    split <;> omega
theorem inN_hit {T : Nat → Bool} {L : List Pr} {u : Nat} (ha : T (gt L u).a.toNat = true) (hb : T (gt L u).b.toNat = true) : inN T L (u + 1) = inN T L u + 2 := by
  rw [inN, if_pos]; unfold within; rw [ha, hb]; rfl
theorem inN_miss {T : Nat → Bool} {L : List Pr} {u : Nat} (h : T (gt L u).a.toNat = false ∨ T (gt L u).b.toNat = false) : inN T L (u + 1) = inN T L u := by
  rw [inN, if_neg, Int.add_zero]
  unfold within
  rcases h with h | h <;> rw [h] <;> simp
theorem set_lt {t : Int} {S : List Int} {N : Nat} (h : setOK t S N) : ∀ (j i : Nat), i < j → j < S.length → gt S i < gt S j
  | 0, i, hi, _ => by omega
  | j + 1, i, hi, hj => by
    have h1 := (h (j + 1) hj).2.2.2 (by omega)
    rw [Nat.add_sub_cancel] at h1
    by_cases hij : i = j
    · subst hij; exact h1
    · have := set_lt h j i (by omega) (by omega)
      omega
theorem sum_set {t : Int} {S : List Int} {N : Nat} (h : setOK t S N) (f : Nat → Int) : ∀ u, u ≤ S.length → sumN (fun k => if memB (S.take u) k = true then f k else 0) N = sumN (fun i => f (gt S i).toNat) u
  | 0, _ => by
    rw [sumN]
    refine Eq.trans (sumN_congr _ fun k hk => ?_) (sumN_zero _)
    rw [if_neg]; simp [memB]
  | u + 1, hu => by
    have ih := sum_set h f u (by omega)
    have h1 := h u (by omega)
    have ht : S.take (u + 1) = S.take u ++ [gt S u] := by rw [gt_eq _ _ (by omega), List.take_append_getElem]
    have hm : ∀ k : Nat, memB (S.take (u + 1)) k = true ↔ memB (S.take u) k = true ∨ (k : Int) = gt S u := fun k => by
      rw [ht]; simp [memB]
    have hn : ¬ memB (S.take u) (gt S u).toNat = true := fun hh => by
      simp only [memB, decide_eq_true_eq] at hh
      obtain ⟨i, hi, he⟩ := List.mem_iff_getElem.1 hh
      rw [List.length_take] at hi
      rw [List.getElem_take, ← gt_eq _ _ (by omega)] at he
      have := set_lt h u i (by omega) (by omega)
      omega
    rw [sumN, ← ih, sumN_upd (f := fun k => if memB (S.take u) k = true then f k else 0) (j := (gt S u).toNat) N (fun k hk hne => ?_) (by omega)]
    · show _ + ((if memB (S.take (u + 1)) (gt S u).toNat = true then f (gt S u).toNat else 0) - (if memB (S.take u) (gt S u).toNat = true then f (gt S u).toNat else 0)) = _
      rw [if_pos ((hm _).2 (.inr (by omega))), if_neg hn]; omega
    · show (if memB (S.take (u + 1)) k = true then f k else 0) = _
      by_cases hk2 : memB (S.take u) k = true
      · rw [if_pos hk2, if_pos ((hm k).2 (.inl hk2))]
      · rw [if_neg hk2, if_neg (fun hh => by rcases (hm k).1 hh with hh | hh; exact hk2 hh; omega)]
theorem sumS_is (P S : List Int) : ∀ u, sumS P S u = sumN (fun i => gt P (gt S i).toNat) u
  | 0 => rfl
  | u + 1 => by rw [sumS, sumN, sumS_is P S u]
theorem sumN_c (c : Int) : ∀ n, sumN (fun _ => c) n = n * c
  | 0 => by rw [sumN]; simp
  | n + 1 => by rw [sumN, sumN_c c n, Int.natCast_succ, Int.add_mul, Int.one_mul]
theorem set_def {t : Int} {S : List Int} {P : List Int} (h : setOK t S P.length) (L : List Pr) (G : Int) : defD P L G (memB S) = inN (memB S) L L.length - (S.length * G - sumS P S S.length) := by
  have h1 := sum_set h (fun k => G) S.length (Nat.le_refl _)
  have h2 := sum_set h (fun k => gt P k) S.length (Nat.le_refl _)
  rw [List.take_length] at h1 h2
  rw [defD, sumN_goal, h1, h2, sumN_c, sumS_is]
/-- An accepted verdict tells the truth. -/
theorem acc_true {P : List Int} {L : List Pr} {t : Int} {b : Bool} {S R : List Int} (h : accS P L t b S R = 0) : b = true ↔ canBe P L t := by
  by_cases hm : (mostS P L t).2 = 0
  · obtain ⟨g, t0, t1⟩ := most_of hm
    cases b with
    | true =>
      rw [accS_t hm, posS] at h
      split at h
      · cases h
      split at h
      · cases h
      rename_i h1 h2
      refine ⟨fun _ => ⟨R, ?_, ?_, fun k hk => ?_⟩, fun _ => rfl⟩
      · exact Classical.byContradiction fun hn => h1 (.inr (.inl hn))
      · exact Classical.byContradiction fun hn => h1 (.inr (.inr hn))
      · have : ¬ gt (playN P L R L.length) t.toNat < gt (playN P L R L.length) k := fun hh => h2 ⟨k, hk, hh⟩
        omega
    | false =>
      rw [accS_f hm, elimS] at h
      split at h
      · cases h
      split at h
      · cases h
      rename_i h1 h2
      refine ⟨fun hh => (by cases hh), fun hh => absurd hh (def_no g t0 (most_eq hm) (memB S) ?_)⟩
      have hs : setOK t S P.length := Classical.byContradiction fun hn => h1 (.inr (.inr hn))
      rw [set_def hs]
      omega
  · rw [accS_e hm] at h; exact absurd h hm
/-- The reference's list of the teams of a set. -/
def inL (S : List Int) (N : Nat) : Nat → List Bool
  | 0 => List.replicate N false
  | u + 1 => (inL S N u).set (gt S u).toNat true
theorem inL_len (S : List Int) (N : Nat) : ∀ u, (inL S N u).length = N
  | 0 => by simp [inL]
  | u + 1 => by rw [inL, List.length_set, inL_len S N u]
theorem inL_gt {S : List Int} {N : Nat} : ∀ u, u ≤ S.length → (∀ i, i < u → 0 ≤ gt S i ∧ gt S i < N) → ∀ k, k < N → gt (inL S N u) k = memB (S.take u) k
  | 0, _, _, k, _ => by rw [inL, rep_gt]; simp [memB]
  | u + 1, hu, h, k, hk => by
    have ih := inL_gt u (by omega) (fun i hi => h i (by omega)) k hk
    have h1 := h u (by omega)
    have ht : S.take (u + 1) = S.take u ++ [gt S u] := by rw [gt_eq _ _ (by omega), List.take_append_getElem]
    rw [inL, gt_set _ _ _ _ (by rw [inL_len]; omega), ht]
    by_cases he : (gt S u).toNat = k
    · rw [if_pos he]
      have : (k : Int) = gt S u := by omega
      simp [memB, this]
    · rw [if_neg he, ih]
      have : (k : Int) ≠ gt S u := by omega
      simp [memB, this]
theorem memB_int {S : List Int} {x : Int} (h : 0 ≤ x) : memB S x.toNat = decide (x ∈ S) := by unfold memB; rw [show ((x.toNat : Nat) : Int) = x by omega]
theorem all_end {o : List Int} {n : Nat} {x : Int} (h : ∀ k, k < n → ¬ x < gt o k) : ¬ ∃ k, k < n ∧ x < gt o k := fun ⟨k, hk, hl⟩ => h k hk hl
end Go.Proofs.Ytdicnojnkbmdlaa
end
section
set_option linter.unusedVariables false
namespace Go.Proofs.Ytdicnojnkbmdlaa
open Go Go.Am
theorem gt_take {l : List Int} {u i : Nat} (h : i < u) (hu : u ≤ l.length) : gt (l.take u) i = gt l i := by
  rw [gt_eq _ _ (by rw [List.length_take]; omega), List.getElem_take, ← gt_eq _ _ (by omega)]
theorem setT_rng {t : Int} {S : List Int} {N u : Nat} (h : setOK t (S.take u) N) (hu : u ≤ S.length) (j : Nat) (hj : j < u) : 0 ≤ gt S j ∧ gt S j < N := by
  have := h j (by rw [List.length_take]; omega)
  rw [gt_take hj hu] at this
  exact ⟨this.1, this.2.1⟩
theorem setT_on {t : Int} {S : List Int} {N u : Nat} (h : setOK t (S.take u) N) (hu : u < S.length) (h1 : 0 ≤ gt S u) (h2 : gt S u < N) (h3 : gt S u ≠ t) (h4 : 0 < u → gt S (u - 1) < gt S u) : setOK t (S.take (u + 1)) N := by
  intro i hi
  rw [List.length_take] at hi
  rw [gt_take (by omega) (by omega)]
  by_cases hiu : i = u
  · subst hiu
    refine ⟨h1, h2, h3, fun h0 => ?_⟩
    rw [gt_take (by omega) (by omega)]; exact h4 h0
  · have h5 := h i (by rw [List.length_take]; omega)
    rw [gt_take (by omega) (by omega)] at h5
    refine ⟨h5.1, h5.2.1, h5.2.2.1, fun h0 => ?_⟩
    have h6 := h5.2.2.2 h0
    rw [gt_take (by omega) (by omega)] at h6 ⊢
    exact h6
end Go.Proofs.Ytdicnojnkbmdlaa
end
section
set_option linter.unusedSimpArgs false
set_option linter.unusedVariables false
set_option maxHeartbeats 40000000
set_option maxRecDepth 4000
namespace Go.Proofs.Ytdicnojnkbmdlaa
open Go Go.Am

abbrev lc_ints_ok (a b c d e f g h i : AV) : Env := [(0,a),(1,b),(4,c),(5,d),(10,e),(12,f),(13,g),(14,h),(24,i)]
theorem ints_ok (lim : Nat) (H : Heap) (a : List Int) (ha : a.length ≤ 1000000) :
    ACall sig lim 36 [intsAV a, intsAV a] H fun r H' => r = .v (.bool true) ∧ H' = H := by
 refine ACall_pure (fa := fa36) rfl rfl rfl rfl ?_
 have tr : ∀ a0 a1 : AV, env0 fa36.keep [a0, a1] = [(0,a0),(1,a1),(4,.any),(5,.any),(10,.any),(12,.any),(13,.any),(14,.any),(24,.any)] := fun a0 a1 => rfl
 refine W_to (tr _ _) ?_; clear tr
 refine at_seq rfl ?_
 refine rg rfl ?_
 refine Rq ?_
 have tr : ∀ a b c d e f g h i j : AV, let l := lc_ints_ok a b c d e f g h i; trim ((4,j)::l) l = [(0,a),(1,b),(4,j),(5,d),(10,e),(12,f),(13,g),(14,h),(24,i)] := by intros; rfl
 refine R_nil (tr ..) ?_; clear tr
 refine then_n ?_
 refine at_seq rfl ?_
 refine at_seq rfl ?_
 refine rg rfl ?_
 refine Rq ?_
 refine Rq ?_
 refine Rq ?_
 refine Rq ?_
 refine Rq ?_
 have tr : ∀ a b c d e f g h i j k m n o : AV, let l := lc_ints_ok a b c d e f g h i; trim ((10,o)::(9,n)::(8,m)::(7,k)::(6,j)::l) l = [(0,a),(1,b),(4,c),(5,d),(10,o),(12,f),(13,g),(14,h),(24,i)] := by intros; rfl
 refine R_nil (tr ..) ?_; clear tr
 refine then_n ?_
 refine cdd (fun h1 => ?_) (fun h1 => ?_)
 ·
  try simp only [decide_eq_true_eq, decide_eq_false_iff_not, Bool.not_eq_true', Bool.not_eq_false', beq_iff_eq, beq_eq_false_iff_ne, ne_eq] at h1
  first | omega | exact absurd rfl (by assumption) | exact absurd trivial (by assumption)
 ·
  try simp only [decide_eq_true_eq, decide_eq_false_iff_not, Bool.not_eq_true', Bool.not_eq_false', beq_iff_eq, beq_eq_false_iff_ne, ne_eq] at h1
  refine at_skip rfl ?_
  refine then_n ?_
  refine at_seq rfl ?_
  refine at_seq rfl ?_
  refine rg rfl ?_
  refine Rq ?_
  refine Rq ?_
  refine Rq ?_
  have tr : ∀ a b c d e f g h i j k m : AV, let l := lc_ints_ok a b c d e f g h i; trim ((13,m)::(12,k)::(11,j)::l) l = [(0,a),(1,b),(4,c),(5,d),(10,e),(12,k),(13,m),(14,h),(24,i)] := by intros; rfl
  refine R_nil (tr ..) ?_; clear tr
  refine then_n ?_
  refine at_block rfl ?_
  refine loop_n rfl (fun mm kv H' => ∃ u : Nat, ∃ x4 x5 x14 x24 : AV, (kv = [(4, x4), (5, x5), (13, AV.i u), (14, x14), (24, x24)]) ∧ (mm = a.length - u) ∧ (H' = H) ∧ (u ≤ a.length)) ⟨0, _, _, _, _, rfl, rfl, rfl, by omega⟩ (by rfl) ?_
  rintro mm kv H' ⟨u, x4, x5, x14, x24, rfl, rfl, rfl, hu⟩
  have tr : ∀ a b c d e f g h i j k m n o : AV, upd [(0,a),(1,b),(4,c),(5,d),(10,e),(12,f),(13,g),(14,h),(24,i)] [(4,j),(5,k),(13,m),(14,n),(24,o)] = [(0,a),(1,b),(4,j),(5,k),(10,e),(12,f),(13,m),(14,n),(24,o)] := by intros; rfl
  refine W_to (tr ..) ?_; clear tr
  refine at_seq rfl ?_
  refine rg rfl ?_
  refine Rq ?_
  have tr : ∀ a b c d e f g h i j : AV, let l := lc_ints_ok a b c d e f g h i; trim ((14,j)::l) l = [(0,a),(1,b),(4,c),(5,d),(10,e),(12,f),(13,g),(14,j),(24,i)] := by intros; rfl
  refine R_nil (tr ..) ?_; clear tr
  refine then_n ?_
  refine at_seq rfl ?_
  refine cdd (fun h2 => ?_) (fun h2 => ?_)
  ·
   try simp only [decide_eq_true_eq, decide_eq_false_iff_not, Bool.not_eq_true', Bool.not_eq_false', beq_iff_eq, beq_eq_false_iff_ne, ne_eq] at h2
   refine at_skip rfl ?_
   refine then_n ?_
   refine at_seq rfl ?_
   refine at_block rfl ?_
   refine at_seq rfl ?_
   refine rg rfl ?_
   refine Rq ?_
   refine Rq ?_
   have tr : ∀ a b c d e f g h i j k : AV, let l := lc_ints_ok a b c d e f g h i; trim ((5,k)::(15,j)::l) l = [(0,a),(1,b),(4,c),(5,k),(10,e),(12,f),(13,g),(14,h),(24,i)] := by intros; rfl
   refine R_nil (tr ..) ?_; clear tr
   refine then_n ?_
   refine at_seq rfl ?_
   refine rd rfl rfl ?_
   refine Qq ?_
   refine Qq ?_
   refine Qq ?_
   refine Qq ?_
   refine Qq ?_
   refine Qq ?_
   refine Qq ?_
   refine Qq ?_
   refine Qq ?_
   refine Q_nil ?_
   have tr : ∀ a b c d e f g h i j k m n o p q r s : AV, let l := lc_ints_ok a b c d e f g h i; trim ((24,s)::(23,r)::(22,q)::(21,p)::(20,o)::(19,n)::(18,m)::(17,k)::(16,j)::l) l = [(0,a),(1,b),(4,c),(5,d),(10,e),(12,f),(13,g),(14,h),(24,s)] := by intros; rfl
   refine R_nil (tr ..) ?_; clear tr
   refine then_n ?_
   refine cdd (fun h3 => ?_) (fun h3 => ?_)
   ·
    try simp only [decide_eq_true_eq, decide_eq_false_iff_not, Bool.not_eq_true', Bool.not_eq_false', beq_iff_eq, beq_eq_false_iff_ne, ne_eq] at h3
    first | omega | exact absurd rfl (by assumption) | exact absurd trivial (by assumption)
   ·
    try simp only [decide_eq_true_eq, decide_eq_false_iff_not, Bool.not_eq_true', Bool.not_eq_false', beq_iff_eq, beq_eq_false_iff_ne, ne_eq] at h3
    refine at_skip rfl ?_
    refine blk_n ?_
    refine then_n ?_
    refine rg rfl ?_
    refine Rq ?_
    refine Rq ?_
    have tr : ∀ a b c d e f g h i j k : AV, let l := lc_ints_ok a b c d e f g h i; trim ((13,k)::(25,j)::l) l = [(0,a),(1,b),(4,c),(5,d),(10,e),(12,f),(13,k),(14,h),(24,i)] := by intros; rfl
    refine R_nil (tr ..) ?_; clear tr
    refine then_n ?_
    exact ⟨_, _, ⟨u + 1, _, _, _, _, rfl, rfl, rfl, by omega⟩, by rfl, by omega⟩
  ·
   try simp only [decide_eq_true_eq, decide_eq_false_iff_not, Bool.not_eq_true', Bool.not_eq_false', beq_iff_eq, beq_eq_false_iff_ne, ne_eq] at h2
   refine at_exit rfl ?_
   refine then_x ?_
   refine then_x ?_
   refine blk_x ?_
   refine then_n ?_
   refine at_seq rfl ?_
   refine rg rfl ?_
   refine Rq ?_
   have tr : ∀ a b c d e f g h i j : AV, let l := lc_ints_ok a b c d e f g h i; trim ((4,j)::l) l = [(0,a),(1,b),(4,j),(5,d),(10,e),(12,f),(13,g),(14,h),(24,i)] := by intros; rfl
   refine R_nil (tr ..) ?_; clear tr
   refine then_n ?_
   refine at_ret rfl ?_
   refine fpure ?_
   refine ⟨?_, rfl⟩
   rfl

abbrev lc_ints_nil (a b c d e f g h i : AV) : Env := [(0,a),(1,b),(4,c),(5,d),(10,e),(12,f),(13,g),(14,h),(24,i)]
theorem ints_nil (lim : Nat) (H : Heap) :
    ACall sig lim 36 [nilP, nilP] H fun r H' => r = .v (.bool true) ∧ H' = H := by
 refine ACall_pure (fa := fa36) rfl rfl rfl rfl ?_
 have tr : ∀ a0 a1 : AV, env0 fa36.keep [a0, a1] = [(0,a0),(1,a1),(4,.any),(5,.any),(10,.any),(12,.any),(13,.any),(14,.any),(24,.any)] := fun a0 a1 => rfl
 refine W_to (tr _ _) ?_; clear tr
 refine at_seq rfl ?_
 refine rg rfl ?_
 refine Rq ?_
 have tr : ∀ a b c d e f g h i j : AV, let l := lc_ints_nil a b c d e f g h i; trim ((4,j)::l) l = [(0,a),(1,b),(4,j),(5,d),(10,e),(12,f),(13,g),(14,h),(24,i)] := by intros; rfl
 refine R_nil (tr ..) ?_; clear tr
 refine then_n ?_
 refine at_seq rfl ?_
 refine at_seq rfl ?_
 refine rg rfl ?_
 refine Rq ?_
 refine Rq ?_
 refine Rq ?_
 refine Rq ?_
 refine Rq ?_
 have tr : ∀ a b c d e f g h i j k m n o : AV, let l := lc_ints_nil a b c d e f g h i; trim ((10,o)::(9,n)::(8,m)::(7,k)::(6,j)::l) l = [(0,a),(1,b),(4,c),(5,d),(10,o),(12,f),(13,g),(14,h),(24,i)] := by intros; rfl
 refine R_nil (tr ..) ?_; clear tr
 refine then_n ?_
 refine cdd (fun h1 => ?_) (fun h1 => ?_)
 ·
  try simp only [decide_eq_true_eq, decide_eq_false_iff_not, Bool.not_eq_true', Bool.not_eq_false', beq_iff_eq, beq_eq_false_iff_ne, ne_eq] at h1
  first | omega | exact absurd rfl (by assumption) | exact absurd trivial (by assumption)
 ·
  try simp only [decide_eq_true_eq, decide_eq_false_iff_not, Bool.not_eq_true', Bool.not_eq_false', beq_iff_eq, beq_eq_false_iff_ne, ne_eq] at h1
  refine at_skip rfl ?_
  refine then_n ?_
  refine at_seq rfl ?_
  refine at_seq rfl ?_
  refine rg rfl ?_
  refine Rq ?_
  refine Rq ?_
  refine Rq ?_
  have tr : ∀ a b c d e f g h i j k m : AV, let l := lc_ints_nil a b c d e f g h i; trim ((13,m)::(12,k)::(11,j)::l) l = [(0,a),(1,b),(4,c),(5,d),(10,e),(12,k),(13,m),(14,h),(24,i)] := by intros; rfl
  refine R_nil (tr ..) ?_; clear tr
  refine then_n ?_
  refine at_block rfl ?_
  refine loop_n rfl (fun mm kv H' => ∃ u : Nat, ∃ x4 x5 x14 x24 : AV, (kv = [(4, x4), (5, x5), (13, AV.i u), (14, x14), (24, x24)]) ∧ (mm = 0) ∧ (H' = H) ∧ (u = 0)) ⟨0, _, _, _, _, rfl, rfl, rfl, by rfl⟩ (by rfl) ?_
  rintro mm kv H' ⟨u, x4, x5, x14, x24, rfl, rfl, rfl, hu⟩
  have tr : ∀ a b c d e f g h i j k m n o : AV, upd [(0,a),(1,b),(4,c),(5,d),(10,e),(12,f),(13,g),(14,h),(24,i)] [(4,j),(5,k),(13,m),(14,n),(24,o)] = [(0,a),(1,b),(4,j),(5,k),(10,e),(12,f),(13,m),(14,n),(24,o)] := by intros; rfl
  refine W_to (tr ..) ?_; clear tr
  refine at_seq rfl ?_
  refine rg rfl ?_
  refine Rq ?_
  have tr : ∀ a b c d e f g h i j : AV, let l := lc_ints_nil a b c d e f g h i; trim ((14,j)::l) l = [(0,a),(1,b),(4,c),(5,d),(10,e),(12,f),(13,g),(14,j),(24,i)] := by intros; rfl
  refine R_nil (tr ..) ?_; clear tr
  refine then_n ?_
  refine at_seq rfl ?_
  refine cdd (fun h2 => ?_) (fun h2 => ?_)
  ·
   try simp only [decide_eq_true_eq, decide_eq_false_iff_not, Bool.not_eq_true', Bool.not_eq_false', beq_iff_eq, beq_eq_false_iff_ne, ne_eq] at h2
   exfalso; omega
  ·
   try simp only [decide_eq_true_eq, decide_eq_false_iff_not, Bool.not_eq_true', Bool.not_eq_false', beq_iff_eq, beq_eq_false_iff_ne, ne_eq] at h2
   refine at_exit rfl ?_
   refine then_x ?_
   refine then_x ?_
   refine blk_x ?_
   refine then_n ?_
   refine at_seq rfl ?_
   refine rg rfl ?_
   refine Rq ?_
   have tr : ∀ a b c d e f g h i j : AV, let l := lc_ints_nil a b c d e f g h i; trim ((4,j)::l) l = [(0,a),(1,b),(4,j),(5,d),(10,e),(12,f),(13,g),(14,h),(24,i)] := by intros; rfl
   refine R_nil (tr ..) ?_; clear tr
   refine then_n ?_
   refine at_ret rfl ?_
   refine fpure ?_
   refine ⟨?_, rfl⟩
   rfl

end Go.Proofs.Ytdicnojnkbmdlaa
end
section
set_option linter.unusedVariables false
namespace Go.Proofs.Ytdicnojnkbmdlaa
open Go Go.Am
theorem ints_outA (lim : Nat) (H : Heap) (w : List Int) (hw : w.length ≤ 1000000) : ACall sig lim 36 [outA w, outA w] H fun r H' => r = .v (.bool true) ∧ H' = H := by
  unfold outA
  split
  · exact ints_nil lim H
  · exact ints_ok lim H _ hw
theorem firstS_len (P : List Int) (L : List Pr) (t : Int) (h : P.length ≤ 1000) : (firstS P L t).length ≤ 1000 := by
  have := setN_len P L (mostS P L t).1 t P.length
  rw [firstS]
  split
  · simp
  split
  · simp
  split
  · simp
  · omega
theorem firstP_o {P : List Int} {L : List Pr} {t : Int} {R : List Int} {o : AV} (h : (firstB P L t = false ∧ R = [] ∧ o = nilP) ∨ (firstB P L t = true ∧ o = intsAV R ∧ VR P L t R)) : IsA o R ∧ R.length = if firstB P L t = true then L.length else 0 := by
  rcases h with ⟨h1, rfl, rfl⟩ | ⟨h1, rfl, h2⟩
  · exact ⟨.inr ⟨rfl, rfl⟩, by rw [h1]; rfl⟩
  · exact ⟨.inl rfl, by rw [h1]; exact h2.2.1⟩
theorem firstQ_o {P : List Int} {L : List Pr} {t : Int} {R : List Int} (h : (firstB P L t = false ∧ R = []) ∨ (firstB P L t = true ∧ R.length = L.length)) : R.length = if firstB P L t = true then L.length else 0 := by
  rcases h with ⟨h1, rfl⟩ | ⟨h1, h2⟩
  · rw [h1]; rfl
  · rw [h1]; exact h2
theorem first_err {P : List Int} {L : List Pr} {t : Int} (h : (mostS P L t).2 ≠ 0) : firstB P L t = false ∧ firstS P L t = [] := first_e h
/-- First's verdict without a set that is not needed, and its accepted certificate. -/
theorem setN_all {P : List Int} {L : List Pr} {goal t : Int} (h : inT P L goal t t.toNat = false) (t0 : 0 ≤ t) {k : Nat} (hk : k < P.length) : memB (setN P L goal t P.length) k = inT P L goal t k := by
  rw [Bool.eq_iff_iff, memB, decide_eq_true_eq]
  exact (set_ok h t0 P.length).2 k hk
theorem inN_ext {T T' : Nat → Bool} {L : List Pr} {N : Nat} (hT : ∀ k, k < N → T k = T' k) (hL : ∀ i, i < L.length → (gt L i).a.toNat < N ∧ (gt L i).b.toNat < N) : ∀ u, u ≤ L.length → inN T L u = inN T' L u
  | 0, _ => rfl
  | u + 1, h => by
    have e := hL u (by omega)
    rw [inN, inN, inN_ext hT hL u (by omega)]
    unfold within
    rw [hT _ e.1, hT _ e.2]
theorem def_ext {P : List Int} {L : List Pr} (g : ROK P L) {G : Int} {T T' : Nat → Bool} (hT : ∀ k, k < P.length → T k = T' k) : defD P L G T = defD P L G T' := by
  rw [defD, defD, inN_ext (N := P.length) hT (fun i hi => by have := g.ed i hi; omega) L.length (Nat.le_refl _)]
  congr 1
  exact sumN_congr _ fun k hk => by rw [hT k hk]
/-- What is known of a Cut from no error: that there is one. -/
theorem a_cut {P : List Int} {L : List Pr} {t : Int} (hm : (mostS P L t).2 = 0) (hb : badN P (mostS P L t).1 P.length = -1) : ∃ Q pb tb n f sn, Cut P L Q (mostS P L t).1 t pb tb n f sn := by
  obtain ⟨g, t0, t1⟩ := most_of hm
  have W : PQ L t (pQ L t) := (pq_prog L t L.length).to
  obtain ⟨E, f, sn, _, _, _, _, _, _, _, _, _, _, C⟩ := first_sum hm (bad_all hb) W (pb := 2) (tb := 2 + (pQ L t).length) (n := 2 + (pQ L t).length + P.length) ⟨by omega, by omega, by omega, by omega, by omega⟩ (by omega)
  exact ⟨_, _, _, _, _, _, C⟩
theorem first_acc_f {P : List Int} {L : List Pr} {t : Int} (hm : (mostS P L t).2 = 0) (h : firstB P L t = false) : accS P L t false (firstS P L t) [] = 0 := by
  obtain ⟨g, t0, t1⟩ := most_of hm
  rw [accS_f hm]
  by_cases hb : badN P (mostS P L t).1 P.length = -1
  · have hp : posB P L (mostS P L t).1 t = false := by
      cases hpb : posB P L (mostS P L t).1 t with
      | false => rfl
      | true => rw [(first_y hm hb hpb).1] at h; cases h
    rw [(first_n hm hb hp).2]
    obtain ⟨Q, pb, tb, n, f, sn, C⟩ := a_cut hm hb
    obtain ⟨hd, k, hk, hkT⟩ := C.elim hp
    have hs := (set_ok (P := P) (L := L) (goal := (mostS P L t).1) C.not t0 P.length).1
    have hne := set_ne C.not t0 hk hkT
    refine elimS_c (by simp) (fun hh => hne (List.length_eq_zero_iff.1 hh)) hs ?_
    rw [← def_ext g (fun k hk => setN_all C.not t0 hk), set_def hs] at hd
    omega
  · rw [(first_b hm hb).2]
    obtain ⟨k, hk, hbk, hkg⟩ := bad_some hb
    have hme := most_eq hm
    have hkt : (k : Int) ≠ t := fun hh => by
      have hup : ∀ u, gt P t.toNat ≤ mostN P L t u := by
        intro u
        induction u with
        | zero => exact Int.le_refl _
        | succ u ih => rw [mostN]; split <;> omega
      have := hup L.length
      subst hh
      rw [Int.toNat_natCast] at this
      omega
    have hg : gt [badN P (mostS P L t).1 P.length] 0 = k := by rw [hbk]; rfl
    refine elimS_c (by simp) (by simp) (fun i hi => ?_) ?_
    · have : i = 0 := by simp at hi; omega
      subst this
      rw [hg]
      exact ⟨by omega, by omega, hkt, fun hh => by omega⟩
    · have h0 := inN_rng (memB [badN P (mostS P L t).1 P.length]) L L.length
      rw [List.length_singleton, sumS, sumS, hg, Int.toNat_natCast]
      omega
theorem first_acc_t {P : List Int} {L : List Pr} {t : Int} (hm : (mostS P L t).2 = 0) (h : firstB P L t = true) {R : List Int} (hR : VR P L t R) : accS P L t true (firstS P L t) R = 0 := by
  rw [accS_t hm]
  have hS : firstS P L t = [] := by
    rw [firstB, if_neg (fun hh => hh hm)] at h
    split at h
    · cases h
    · rw [firstS, if_neg (fun hh => hh hm), if_neg (by assumption), if_pos h]
  rw [hS]
  exact posS_c (by simp) hR.2.1 hR.1 (fun ⟨k, hk, hkl⟩ => by have := hR.2.2.1 k hk; omega)
/-- A team can be first, exactly if First says so. -/
theorem first_can {P : List Int} {L : List Pr} {t : Int} (hm : (mostS P L t).2 = 0) {R : List Int} {o : AV} (h : (firstB P L t = false ∧ R = [] ∧ o = nilP) ∨ (firstB P L t = true ∧ o = intsAV R ∧ VR P L t R)) : firstB P L t = true ↔ canBe P L t := by
  rcases h with ⟨h1, rfl, rfl⟩ | ⟨h1, rfl, h2⟩
  · rw [h1]; exact acc_true (first_acc_f hm h1)
  · rw [h1]; exact acc_true (first_acc_t hm h1 h2)
end Go.Proofs.Ytdicnojnkbmdlaa
end
section
set_option linter.unusedSimpArgs false
set_option linter.unusedVariables false
set_option maxHeartbeats 40000000
set_option maxRecDepth 4000
namespace Go.Proofs.Ytdicnojnkbmdlaa
open Go Go.Am

abbrev lc_vfun_ok (a b : AV) : Env := [(0,a),(2,b)]
theorem vfun_ok (lim : Nat) (H : Heap) (x : Int) :
    ACall sig lim 76 [AV.i x] H fun r H' => r = .v (.bool (decide (x < 0 ∨ 2 < x))) ∧ H' = H := by
 refine ACall_pure (fa := fa76) rfl rfl rfl rfl ?_
 have tr : ∀ a0 : AV, env0 fa76.keep [a0] = [(0,a0),(2,.any)] := fun a0 => rfl
 refine W_to (tr _) ?_; clear tr
 refine at_seq rfl ?_
 refine rg rfl ?_
 refine Rq ?_
 have tr : ∀ a b c : AV, let l := lc_vfun_ok a b; trim ((2,c)::l) l = [(0,a),(2,c)] := by intros; rfl
 refine R_nil (tr ..) ?_; clear tr
 refine then_n ?_
 refine at_seq rfl ?_
 refine rg rfl ?_
 refine Rq ?_
 refine Rq ?_
 refine Rq ?_
 refine Rp_split (fun h1 => ?_) (fun h1 => ?_)
 ·
  try simp only [decide_eq_true_eq, decide_eq_false_iff_not, Bool.not_eq_true', Bool.not_eq_false', beq_iff_eq, beq_eq_false_iff_ne, ne_eq] at h1
  refine Rn ?_
  refine Rn ?_
  refine Rq ?_
  refine Rq ?_
  have tr : ∀ a b c d e f g h i : AV, let l := lc_vfun_ok a b; trim ((2,i)::(8,h)::(7,g)::(6,f)::(5,e)::(4,d)::(3,c)::l) l = [(0,a),(2,i)] := by intros; rfl
  refine R_nil (tr ..) ?_; clear tr
  refine then_n ?_
  refine at_ret rfl ?_
  refine fpure ?_
  refine ⟨?_, rfl⟩
  rw [decide_eq_true (.inl (by omega))]
 ·
  try simp only [decide_eq_true_eq, decide_eq_false_iff_not, Bool.not_eq_true', Bool.not_eq_false', beq_iff_eq, beq_eq_false_iff_ne, ne_eq] at h1
  refine Ry ?_
  refine Rq ?_
  refine Ry ?_
  refine Rq ?_
  refine Rq ?_
  refine Rq ?_
  have tr : ∀ a b c d e f g h i : AV, let l := lc_vfun_ok a b; trim ((2,i)::(8,h)::(7,g)::(6,f)::(5,e)::(4,d)::(3,c)::l) l = [(0,a),(2,i)] := by intros; rfl
  refine R_nil (tr ..) ?_; clear tr
  refine then_n ?_
  refine at_ret rfl ?_
  refine fpure ?_
  refine ⟨?_, rfl⟩
  congr 2
  rw [decide_eq_decide]
  omega

abbrev lc_indexf_ok (a b c d e f g h : AV) : Env := [(0,a),(1,b),(4,c),(5,d),(7,e),(8,f),(9,g),(16,h)]
theorem indexf_ok (lim : Nat) (H : Heap) (R : List Int) (hR : R.length ≤ 100000) :
    ACall sig lim 80 [intsAV R, .clo 76 []] H fun r H' => (∃ k : Int, r = AV.i k ∧ (0 ≤ k ↔ ¬ resOK R)) ∧ H' = H := by
 refine ACall_pure (fa := fa80) rfl rfl rfl rfl ?_
 have tr : ∀ a0 a1 : AV, env0 fa80.keep [a0, a1] = [(0,a0),(1,a1),(4,.any),(5,.any),(7,.any),(8,.any),(9,.any),(16,.any)] := fun a0 a1 => rfl
 refine W_to (tr _ _) ?_; clear tr
 refine at_seq rfl ?_
 refine rg rfl ?_
 refine Rq ?_
 have tr : ∀ a b c d e f g h i : AV, let l := lc_indexf_ok a b c d e f g h; trim ((4,i)::l) l = [(0,a),(1,b),(4,i),(5,d),(7,e),(8,f),(9,g),(16,h)] := by intros; rfl
 refine R_nil (tr ..) ?_; clear tr
 refine then_n ?_
 refine at_seq rfl ?_
 refine at_seq rfl ?_
 refine rg rfl ?_
 refine Rq ?_
 refine Rq ?_
 refine Rq ?_
 have tr : ∀ a b c d e f g h i j k : AV, let l := lc_indexf_ok a b c d e f g h; trim ((8,k)::(7,j)::(6,i)::l) l = [(0,a),(1,b),(4,c),(5,d),(7,j),(8,k),(9,g),(16,h)] := by intros; rfl
 refine R_nil (tr ..) ?_; clear tr
 refine then_n ?_
 refine at_block rfl ?_
 refine loop_n rfl (fun mm kv H' => ∃ u : Nat, ∃ x4 x5 x9 x16 : AV, (kv = [(4, x4), (5, x5), (8, AV.i u), (9, x9), (16, x16)]) ∧ (mm = R.length - u) ∧ (H' = H) ∧ (u ≤ R.length) ∧ (∀ i, i < u → 0 ≤ gt R i ∧ gt R i ≤ 2)) ⟨0, _, _, _, _, rfl, rfl, rfl, by omega, by intro i hi; omega⟩ (by rfl) ?_
 rintro mm kv H' ⟨u, x4, x5, x9, x16, rfl, rfl, rfl, hu, hq⟩
 have tr : ∀ a b c d e f g h i j k m n : AV, upd [(0,a),(1,b),(4,c),(5,d),(7,e),(8,f),(9,g),(16,h)] [(4,i),(5,j),(8,k),(9,m),(16,n)] = [(0,a),(1,b),(4,i),(5,j),(7,e),(8,k),(9,m),(16,n)] := by intros; rfl
 refine W_to (tr ..) ?_; clear tr
 refine at_seq rfl ?_
 refine rg rfl ?_
 refine Rq ?_
 have tr : ∀ a b c d e f g h i : AV, let l := lc_indexf_ok a b c d e f g h; trim ((9,i)::l) l = [(0,a),(1,b),(4,c),(5,d),(7,e),(8,f),(9,i),(16,h)] := by intros; rfl
 refine R_nil (tr ..) ?_; clear tr
 refine then_n ?_
 refine at_seq rfl ?_
 refine cdd (fun h1 => ?_) (fun h1 => ?_)
 ·
  try simp only [decide_eq_true_eq, decide_eq_false_iff_not, Bool.not_eq_true', Bool.not_eq_false', beq_iff_eq, beq_eq_false_iff_ne, ne_eq] at h1
  refine at_skip rfl ?_
  refine then_n ?_
  refine at_seq rfl ?_
  refine at_block rfl ?_
  refine at_seq rfl ?_
  refine rg rfl ?_
  refine Rq ?_
  refine Rq ?_
  have tr : ∀ a b c d e f g h i j : AV, let l := lc_indexf_ok a b c d e f g h; trim ((5,j)::(10,i)::l) l = [(0,a),(1,b),(4,c),(5,j),(7,e),(8,f),(9,g),(16,h)] := by intros; rfl
  refine R_nil (tr ..) ?_; clear tr
  refine then_n ?_
  refine at_seq rfl ?_
  refine rg rfl ?_
  refine Rq ?_
  refine Rq ?_
  refine Rq ?_
  refine Rq ?_
  refine Rq ?_
  refine R_callv (by simp (disch := first | omega | (simp only [List.length_map, List.length_append, List.length_set, List.length_cons, List.length_nil]; omega)) only [go_sem, ↓reduceIte, Nat.reduceEqDiff, reduceCtorEq] <;> rfl) (by simp only [List.map_cons, List.map_nil, List.cons_append, List.nil_append, go_sem, ↓reduceIte, Nat.reduceEqDiff]; rfl) ?_
  refine ACall_eq (vfun_ok _ _ _) ?_
  have tr : ∀ a b c d e f g h i j k m n o : AV, let l := lc_indexf_ok a b c d e f g h; trim ((16,o)::(15,n)::(14,m)::(13,k)::(12,j)::(11,i)::l) l = [(0,a),(1,b),(4,c),(5,d),(7,e),(8,f),(9,g),(16,o)] := by intros; rfl
  refine R_nil (tr ..) ?_; clear tr
  refine then_n ?_
  refine cdd (fun h2 => ?_) (fun h2 => ?_)
  ·
   try simp only [decide_eq_true_eq, decide_eq_false_iff_not, Bool.not_eq_true', Bool.not_eq_false', beq_iff_eq, beq_eq_false_iff_ne, ne_eq] at h2
   refine at_seq rfl ?_
   refine rg rfl ?_
   refine Rq ?_
   refine Rq ?_
   have tr : ∀ a b c d e f g h i j : AV, let l := lc_indexf_ok a b c d e f g h; trim ((4,j)::(17,i)::l) l = [(0,a),(1,b),(4,j),(5,d),(7,e),(8,f),(9,g),(16,h)] := by intros; rfl
   refine R_nil (tr ..) ?_; clear tr
   refine then_n ?_
   refine at_ret rfl ?_
   refine blk_r ?_
   refine then_r ?_
   refine then_r ?_
   refine blk_r ?_
   refine then_r ?_
   refine fpure ?_
   exact ⟨⟨_, rfl, fun _ hh => by have := hh u (by omega); omega, fun _ => by omega⟩, rfl⟩
  ·
   try simp only [decide_eq_true_eq, decide_eq_false_iff_not, Bool.not_eq_true', Bool.not_eq_false', beq_iff_eq, beq_eq_false_iff_ne, ne_eq] at h2
   refine at_skip rfl ?_
   refine blk_n ?_
   refine then_n ?_
   refine rg rfl ?_
   refine Rq ?_
   refine Rq ?_
   have tr : ∀ a b c d e f g h i j : AV, let l := lc_indexf_ok a b c d e f g h; trim ((8,j)::(18,i)::l) l = [(0,a),(1,b),(4,c),(5,d),(7,e),(8,j),(9,g),(16,h)] := by intros; rfl
   refine R_nil (tr ..) ?_; clear tr
   refine then_n ?_
   exact ⟨_, _, ⟨u + 1, _, _, _, _, rfl, rfl, rfl, by omega, by exact all_step hq (by omega)⟩, by rfl, by omega⟩
 ·
  try simp only [decide_eq_true_eq, decide_eq_false_iff_not, Bool.not_eq_true', Bool.not_eq_false', beq_iff_eq, beq_eq_false_iff_ne, ne_eq] at h1
  refine at_exit rfl ?_
  refine then_x ?_
  refine then_x ?_
  refine blk_x ?_
  refine then_n ?_
  refine at_seq rfl ?_
  refine rg rfl ?_
  refine Rq ?_
  have tr : ∀ a b c d e f g h i : AV, let l := lc_indexf_ok a b c d e f g h; trim ((4,i)::l) l = [(0,a),(1,b),(4,i),(5,d),(7,e),(8,f),(9,g),(16,h)] := by intros; rfl
  refine R_nil (tr ..) ?_; clear tr
  refine then_n ?_
  refine at_ret rfl ?_
  refine fpure ?_
  exact ⟨⟨_, rfl, fun hh => by omega, fun hh => absurd (fun i hi => hq i (by omega)) hh⟩, rfl⟩

abbrev lc_containsf_ok (a b c : AV) : Env := [(0,a),(1,b),(4,c)]
theorem containsf_ok (lim : Nat) (H : Heap) (R : List Int) (hR : R.length ≤ 100000) :
    ACall sig lim 75 [intsAV R, .clo 76 []] H fun r H' => (∃ b : Bool, r = .v (.bool b) ∧ (b = true ↔ ¬ resOK R)) ∧ H' = H := by
 refine ACall_pure (fa := fa75) rfl rfl rfl rfl ?_
 have tr : ∀ a0 a1 : AV, env0 fa75.keep [a0, a1] = [(0,a0),(1,a1),(4,.any)] := fun a0 a1 => rfl
 refine W_to (tr _ _) ?_; clear tr
 refine at_seq rfl ?_
 refine rg rfl ?_
 refine Rq ?_
 have tr : ∀ a b c d : AV, let l := lc_containsf_ok a b c; trim ((4,d)::l) l = [(0,a),(1,b),(4,d)] := by intros; rfl
 refine R_nil (tr ..) ?_; clear tr
 refine then_n ?_
 refine at_seq rfl ?_
 refine rg rfl ?_
 refine Rq ?_
 refine Rq ?_
 refine Rcall ?_
 refine ACall_mono (indexf_ok _ _ R hR) ?_
 rintro r H6 ⟨⟨k, rfl, hk⟩, rfl⟩
 refine Rq ?_
 refine Rq ?_
 have tr : ∀ a b c d e f g h : AV, let l := lc_containsf_ok a b c; trim ((4,h)::(8,g)::(7,f)::(6,e)::(5,d)::l) l = [(0,a),(1,b),(4,h)] := by intros; rfl
 refine R_nil (tr ..) ?_; clear tr
 refine then_n ?_
 refine at_ret rfl ?_
 refine fpure ?_
 exact ⟨⟨_, rfl, by rw [decide_eq_true_eq]; exact hk⟩, rfl⟩

abbrev lc_valid_ok (a b : AV) : Env := [(0,a),(2,b)]
theorem valid_ok (lim : Nat) (H : Heap) (R : List Int) (hR : R.length ≤ 100000) :
    ACall sig lim 63 [intsAV R] H fun r H' => (∃ b : Bool, r = .v (.bool b) ∧ (b = true ↔ resOK R)) ∧ H' = H := by
 refine ACall_pure (fa := fa63) rfl rfl rfl rfl ?_
 have tr : ∀ a0 : AV, env0 fa63.keep [a0] = [(0,a0),(2,.any)] := fun a0 => rfl
 refine W_to (tr _) ?_; clear tr
 refine at_seq rfl ?_
 refine rg rfl ?_
 refine Rq ?_
 have tr : ∀ a b c : AV, let l := lc_valid_ok a b; trim ((2,c)::l) l = [(0,a),(2,c)] := by intros; rfl
 refine R_nil (tr ..) ?_; clear tr
 refine then_n ?_
 refine at_seq rfl ?_
 refine rg rfl ?_
 refine Rq ?_
 refine Rcall ?_
 refine ACall_mono (containsf_ok _ _ R hR) ?_
 rintro r H6 ⟨⟨k, rfl, hk⟩, rfl⟩
 refine Rq ?_
 refine Rq ?_
 have tr : ∀ a b c d e f : AV, let l := lc_valid_ok a b; trim ((2,f)::(5,e)::(4,d)::(3,c)::l) l = [(0,a),(2,f)] := by intros; rfl
 refine R_nil (tr ..) ?_; clear tr
 refine then_n ?_
 refine at_ret rfl ?_
 refine fpure ?_
 refine ⟨⟨_, rfl, ?_⟩, rfl⟩
 cases k with
 | true => exact ⟨fun hh => (by cases hh), fun hh => absurd hh (hk.1 rfl)⟩
 | false => exact ⟨fun _ => Classical.not_not.mp fun hh => (by cases hk.2 hh), fun _ => rfl⟩

abbrev lc_clone_ok (a b c : AV) : Env := [(0,a),(2,b),(4,c)]
theorem clone_ok (lim : Nat) (H : Heap) (hlim : lim ≤ H.length) (l : List Int) (h0 : 0 < l.length) (h1 : l.length ≤ 1000) :
    ACall sig lim 77 [intsAV l] H fun r H' => ∃ b, r = .own 1 b 0 l.length ∧ H.length ≤ b ∧ hget H' b = some (l.map AV.i) ∧ ∀ c, c < H.length → hget H' c = hget H c := by
 refine ACall_own (fa := fa77) rfl rfl rfl rfl ?_
 have tr : ∀ a0 : AV, env0 fa77.keep [a0] = [(0,a0),(2,.any),(4,.any)] := fun a0 => rfl
 refine W_to (tr _) ?_; clear tr
 refine at_seq rfl ?_
 refine rg rfl ?_
 refine Rq ?_
 have tr : ∀ a b c d : AV, let l := lc_clone_ok a b c; trim ((2,d)::l) l = [(0,a),(2,d),(4,c)] := by intros; rfl
 refine R_nil (tr ..) ?_; clear tr
 refine then_n ?_
 refine at_seq rfl ?_
 refine at_seq rfl ?_
 refine rg rfl ?_
 refine Rq ?_
 refine R_q rfl (nil40 _ _ h0) ?_
 have tr : ∀ a b c d e : AV, let l := lc_clone_ok a b c; trim ((4,e)::(3,d)::l) l = [(0,a),(2,b),(4,e)] := by intros; rfl
 refine R_nil (tr ..) ?_; clear tr
 refine then_n ?_
 refine cdd (fun h1 => ?_) (fun h1 => ?_)
 ·
  try simp only [decide_eq_true_eq, decide_eq_false_iff_not, Bool.not_eq_true', Bool.not_eq_false', beq_iff_eq, beq_eq_false_iff_ne, ne_eq] at h1
  cases h1
 ·
  try simp only [decide_eq_true_eq, decide_eq_false_iff_not, Bool.not_eq_true', Bool.not_eq_false', beq_iff_eq, beq_eq_false_iff_ne, ne_eq] at h1
  refine at_skip rfl ?_
  refine then_n ?_
  refine at_seq rfl ?_
  refine rg rfl ?_
  refine A_buildSlice (bs40e _ _ _) ?_
  intro H1 n1
  have en1 := n1.len
  refine Rq ?_
  refine A_append (by simp (disch := first | omega | (simp only [List.length_map, List.length_append, List.length_set, List.length_cons, List.length_nil]; omega)) only [go_sem, ↓reduceIte, Nat.reduceEqDiff, reduceCtorEq]; exact app40e n1.new (by omega) (by omega)) ?_
  intro H2 g2
  have eg2 := g2.len
  refine Rq ?_
  have tr : ∀ a b c d e f g : AV, let l := lc_clone_ok a b c; trim ((2,g)::(7,f)::(6,e)::(5,d)::l) l = [(0,a),(2,g),(4,c)] := by intros; rfl
  refine R_nil (tr ..) ?_; clear tr
  refine then_n ?_
  refine at_ret rfl ?_
  refine fin_own rfl (by simp only [go_sem, ↓reduceIte, Nat.reduceEqDiff]; rfl) ?_
  exact ⟨_, rfl, by omega, g2.new, fun c hc => (g2.old c (by omega) (by omega)).trans (n1.old c hc)⟩

abbrev lc_play_ok (a b c d e f g h i j k : AV) : Env := [(0,a),(1,b),(2,c),(4,d),(5,e),(6,f),(7,g),(12,h),(13,i),(14,j),(15,k)]
theorem play_ok (lim : Nat) (H : Heap) (P : List Int) (L : List Pr) (R : List Int) (g : ROK P L) (hl : R.length = L.length) (hr : resOK R) :
    ACall sig lim 64 [.agg (raceC P L), intsAV R] H fun r H' => r = intsAV (playN P L R L.length) ∧ H' = H := by
 obtain ⟨g1, g2_, g3, g4, ge, g6⟩ := id g
 have q0 : True := trivial
 have qp : True := trivial
 have qx : True := trivial
 refine ACall_pure (fa := fa64) rfl rfl rfl rfl ?_
 have tr : ∀ a0 a1 : AV, env0 fa64.keep [a0, a1] = [(0,a0),(1,a1),(2,.any),(4,.any),(5,.any),(6,.any),(7,.any),(12,.any),(13,.any),(14,.any),(15,.any)] := fun a0 a1 => rfl
 refine W_to (tr _ _) ?_; clear tr
 refine at_seq rfl ?_
 refine rg rfl ?_
 refine A_box rfl (by simp (disch := first | omega | (simp only [List.length_map, List.length_append, List.length_set, List.length_cons, List.length_nil]; omega)) only [go_sem, ↓reduceIte, Nat.reduceEqDiff, reduceCtorEq] <;> rfl) ?_
 intro H1 n0
 have en0 := n0.len
 have q0 := n0.new
 refine Rq ?_
 have tr : ∀ a b c d e f g h i j k m n : AV, let l := lc_play_ok a b c d e f g h i j k; trim ((4,n)::(2,m)::l) l = [(0,a),(1,b),(2,m),(4,n),(5,e),(6,f),(7,g),(12,h),(13,i),(14,j),(15,k)] := by intros; rfl
 refine R_nil (tr ..) ?_; clear tr
 refine then_n ?_
 refine at_seq rfl ?_
 refine rg rfl ?_
 refine Rq ?_
 refine R_q rfl (by simp (disch := first | omega | (simp only [List.length_map, List.length_append, List.length_set, List.length_cons, List.length_nil]; omega)) only [go_sem, ↓reduceIte, Nat.reduceEqDiff, reduceCtorEq, q0, qp, qx] <;> rfl) ?_
 refine Rcall ?_
 refine ACall_mono (clone_ok _ _ (by omega) P (by omega) (by omega)) ?_
 rintro r H3 ⟨bp, rfl, hbp, qp, hold⟩
 have q0 := (hold _ (hget_lt q0)).trans q0
 refine Rq ?_
 have tr : ∀ a b c d e f g h i j k m n o p : AV, let l := lc_play_ok a b c d e f g h i j k; trim ((5,p)::(10,o)::(9,n)::(8,m)::l) l = [(0,a),(1,b),(2,c),(4,d),(5,p),(6,f),(7,g),(12,h),(13,i),(14,j),(15,k)] := by intros; rfl
 refine R_nil (tr ..) ?_; clear tr
 refine then_n ?_
 refine at_seq rfl ?_
 refine at_seq rfl ?_
 refine rg rfl ?_
 refine Rq ?_
 refine R_q rfl (by simp (disch := first | omega | (simp only [List.length_map, List.length_append, List.length_set, List.length_cons, List.length_nil]; omega)) only [go_sem, ↓reduceIte, Nat.reduceEqDiff, reduceCtorEq, q0, qp, qx] <;> rfl) ?_
 refine Rq ?_
 refine Rq ?_
 have tr : ∀ a b c d e f g h i j k m n o p : AV, let l := lc_play_ok a b c d e f g h i j k; trim ((14,p)::(13,o)::(12,n)::(11,m)::l) l = [(0,a),(1,b),(2,c),(4,d),(5,e),(6,f),(7,g),(12,n),(13,o),(14,p),(15,k)] := by intros; rfl
 refine R_nil (tr ..) ?_; clear tr
 refine then_n ?_
 refine at_block rfl ?_
 refine loop_n rfl (fun mm kv H' => ∃ u : Nat, ∃ x6 x7 x15 : AV, (kv = [(6, x6), (7, x7), (14, AV.i u), (15, x15)]) ∧ (mm = L.length - u) ∧ (hget H' H.length = some (raceC P L)) ∧ (hget H' bp = some ((playN P L R u).map AV.i)) ∧ (u ≤ L.length)) ⟨0, _, _, _, rfl, rfl, by exact q0, by exact qp, by omega⟩ (by rfl) ?_
 rintro mm kv HB ⟨u, x6, x7, x15, rfl, rfl, q0, qp, hu⟩
 have tr : ∀ a b c d e f g h i j k m n o p : AV, upd [(0,a),(1,b),(2,c),(4,d),(5,e),(6,f),(7,g),(12,h),(13,i),(14,j),(15,k)] [(6,m),(7,n),(14,o),(15,p)] = [(0,a),(1,b),(2,c),(4,d),(5,e),(6,m),(7,n),(12,h),(13,i),(14,o),(15,p)] := by intros; rfl
 refine W_to (tr ..) ?_; clear tr
 refine at_seq rfl ?_
 refine rg rfl ?_
 refine Rq ?_
 have tr : ∀ a b c d e f g h i j k m : AV, let l := lc_play_ok a b c d e f g h i j k; trim ((15,m)::l) l = [(0,a),(1,b),(2,c),(4,d),(5,e),(6,f),(7,g),(12,h),(13,i),(14,j),(15,m)] := by intros; rfl
 refine R_nil (tr ..) ?_; clear tr
 refine then_n ?_
 refine at_seq rfl ?_
 refine cdd (fun h1 => ?_) (fun h1 => ?_)
 ·
  try simp only [decide_eq_true_eq, decide_eq_false_iff_not, Bool.not_eq_true', Bool.not_eq_false', beq_iff_eq, beq_eq_false_iff_ne, ne_eq] at h1
  refine at_skip rfl ?_
  refine then_n ?_
  refine at_seq rfl ?_
  refine at_block rfl ?_
  refine at_seq rfl ?_
  refine rg rfl ?_
  have he := ge u (by omega)
  have hru := hr u (by omega)
  have hpl := play_len P L R u
  have hpr := play_rng g hl hr u (by omega)
  have hp1 := hpr.1 (gt L u).a.toNat (by omega)
  have hp2 := hpr.2 (by omega) (gt L u).b.toNat (by omega)
  have hpl1 : (play1 L R u (playN P L R u)).length = P.length := by rw [play1_len, hpl]
  have kqp := hget_lt qp
  have kq0 := hget_lt q0
  refine Rq ?_
  refine Rq ?_
  refine R_q rfl (by simp (disch := first | omega | (simp only [List.length_map, List.length_append, List.length_set, List.length_cons, List.length_nil]; omega)) only [go_sem, ↓reduceIte, Nat.reduceEqDiff, reduceCtorEq, q0, qp, qx] <;> rfl) ?_
  refine A_alloc rfl ?_
  intro HC n4
  have en4 := n4.len
  have q0 := (n4.old _ (hget_lt q0)).trans q0
  have qp := (n4.old _ (hget_lt qp)).trans qp
  have qx := n4.new
  refine Rq ?_
  have lq0 := hget_lt q0
  have lqp := hget_lt qp
  have lqx := hget_lt qx
  refine A_store ty58 (by simp (disch := first | omega | (simp only [List.length_map, List.length_append, List.length_set, List.length_cons, List.length_nil]; omega)) only [go_sem, ↓reduceIte, Nat.reduceEqDiff, reduceCtorEq, q0, qp, qx] <;> rfl) (by simp (disch := first | omega | (simp only [List.length_map, List.length_append, List.length_set, List.length_cons, List.length_nil]; omega)) only [go_sem, ↓reduceIte, Nat.reduceEqDiff, reduceCtorEq, q0, qp, qx] <;> rfl) qx ⟨by omega, rfl, by first | exact Nat.le_refl _ | simp⟩ (show _ = prC (gt L u) from rfl) ?_
  intro HD w4
  have ew4 := w4.len
  have q0 := (w4.old _ (by omega)).trans q0
  have qp := (w4.old _ (by omega)).trans qp
  have qx := w4.new
  have tr : ∀ a b c d e f g h i j k m n o p q : AV, let l := lc_play_ok a b c d e f g h i j k; trim ((6,q)::(7,p)::(18,o)::(17,n)::(16,m)::l) l = [(0,a),(1,b),(2,c),(4,d),(5,e),(6,q),(7,p),(12,h),(13,i),(14,j),(15,k)] := by intros; rfl
  refine R_nil (tr ..) ?_; clear tr
  refine then_n ?_
  refine at_seq rfl ?_
  refine rd rfl rfl ?_
  refine Qq ?_
  refine Qq ?_
  refine Q_q rfl (by simp (disch := first | omega | (simp only [List.length_map, List.length_append, List.length_set, List.length_cons, List.length_nil]; omega)) only [go_sem, ↓reduceIte, Nat.reduceEqDiff, reduceCtorEq, q0, qp, qx] <;> rfl) ?_
  refine Qq ?_
  refine Q_q rfl (by simp (disch := first | omega | (simp only [List.length_map, List.length_append, List.length_set, List.length_cons, List.length_nil]; omega)) only [go_sem, ↓reduceIte, Nat.reduceEqDiff, reduceCtorEq, q0, qp, qx] <;> rfl) ?_
  refine Qq ?_
  refine Qq ?_
  refine Qq ?_
  refine Q_q rfl (by simp (disch := first | omega | (simp only [List.length_map, List.length_append, List.length_set, List.length_cons, List.length_nil]; omega)) only [go_sem, ↓reduceIte, Nat.reduceEqDiff, reduceCtorEq, q0, qp, qx] <;> rfl) ?_
  refine Qq ?_
  refine Qq ?_
  refine Q_nil ?_
  have lq0 := hget_lt q0
  have lqp := hget_lt qp
  have lqx := hget_lt qx
  refine A_store ty3 (by simp (disch := first | omega | (simp only [List.length_map, List.length_append, List.length_set, List.length_cons, List.length_nil]; omega)) only [go_sem, ↓reduceIte, Nat.reduceEqDiff, reduceCtorEq, q0, qp, qx] <;> rfl) (by simp (disch := first | omega | (simp only [List.length_map, List.length_append, List.length_set, List.length_cons, List.length_nil]; omega)) only [go_sem, ↓reduceIte, Nat.reduceEqDiff, reduceCtorEq, q0, qp, qx] <;> rfl) qp ⟨by omega, rfl, by simp only [List.length_map, play1_len, hpl]; omega⟩ (k' := (play1 L R u (playN P L R u)).map AV.i) (by rw [setL_map]; rfl) ?_
  intro HE w5
  have ew5 := w5.len
  have q0 := (w5.old _ (by omega)).trans q0
  have qx := (w5.old _ (by omega)).trans qx
  have qp := w5.new
  have tr : ∀ a b c d e f g h i j k m n o p q r s t u v w : AV, let l := lc_play_ok a b c d e f g h i j k; trim ((29,w)::(28,v)::(27,u)::(26,t)::(25,s)::(24,r)::(23,q)::(22,p)::(21,o)::(20,n)::(19,m)::l) l = [(0,a),(1,b),(2,c),(4,d),(5,e),(6,f),(7,g),(12,h),(13,i),(14,j),(15,k)] := by intros; rfl
  refine R_nil (tr ..) ?_; clear tr
  refine then_n ?_
  refine rd rfl rfl ?_
  refine Qq ?_
  refine Qq ?_
  refine Q_q rfl (by simp (disch := first | omega | (simp only [List.length_map, List.length_append, List.length_set, List.length_cons, List.length_nil]; omega)) only [go_sem, ↓reduceIte, Nat.reduceEqDiff, reduceCtorEq, q0, qp, qx] <;> rfl) ?_
  refine Qq ?_
  refine Q_q rfl (by simp (disch := first | omega | (simp only [List.length_map, List.length_append, List.length_set, List.length_cons, List.length_nil]; omega)) only [go_sem, ↓reduceIte, Nat.reduceEqDiff, reduceCtorEq, q0, qp, qx] <;> rfl) ?_
  refine Qq ?_
  refine Qq ?_
  refine Qq ?_
  refine Q_q rfl (by simp (disch := first | omega | (simp only [List.length_map, List.length_append, List.length_set, List.length_cons, List.length_nil]; omega)) only [go_sem, ↓reduceIte, Nat.reduceEqDiff, reduceCtorEq, q0, qp, qx] <;> rfl) ?_
  refine Qq ?_
  refine Qq ?_
  refine Qq ?_
  refine Q_nil ?_
  have lq0 := hget_lt q0
  have lqp := hget_lt qp
  have lqx := hget_lt qx
  refine A_store ty3 (by simp (disch := first | omega | (simp only [List.length_map, List.length_append, List.length_set, List.length_cons, List.length_nil]; omega)) only [go_sem, ↓reduceIte, Nat.reduceEqDiff, reduceCtorEq, q0, qp, qx] <;> rfl) (by simp (disch := first | omega | (simp only [List.length_map, List.length_append, List.length_set, List.length_cons, List.length_nil]; omega)) only [go_sem, ↓reduceIte, Nat.reduceEqDiff, reduceCtorEq, q0, qp, qx] <;> rfl) qp ⟨by omega, rfl, by simp only [List.length_map, play1_len, hpl]; omega⟩ (k' := (play2 L R u (play1 L R u (playN P L R u))).map AV.i) (by rw [setL_map]; rfl) ?_
  intro HF w6
  have ew6 := w6.len
  have q0 := (w6.old _ (by omega)).trans q0
  have qx := (w6.old _ (by omega)).trans qx
  have qp := w6.new
  have tr : ∀ a b c d e f g h i j k m n o p q r s t u v w x : AV, let l := lc_play_ok a b c d e f g h i j k; trim ((41,x)::(40,w)::(39,v)::(38,u)::(37,t)::(36,s)::(35,r)::(34,q)::(33,p)::(32,o)::(31,n)::(30,m)::l) l = [(0,a),(1,b),(2,c),(4,d),(5,e),(6,f),(7,g),(12,h),(13,i),(14,j),(15,k)] := by intros; rfl
  refine R_nil (tr ..) ?_; clear tr
  refine blk_n ?_
  refine then_n ?_
  refine rg rfl ?_
  refine Rq ?_
  refine Rq ?_
  have tr : ∀ a b c d e f g h i j k m n : AV, let l := lc_play_ok a b c d e f g h i j k; trim ((14,n)::(42,m)::l) l = [(0,a),(1,b),(2,c),(4,d),(5,e),(6,f),(7,g),(12,h),(13,i),(14,n),(15,k)] := by intros; rfl
  refine R_nil (tr ..) ?_; clear tr
  refine then_n ?_
  exact ⟨_, _, ⟨u + 1, _, _, _, rfl, rfl, by exact q0, by exact qp, by omega⟩, by rfl, by omega⟩
 ·
  try simp only [decide_eq_true_eq, decide_eq_false_iff_not, Bool.not_eq_true', Bool.not_eq_false', beq_iff_eq, beq_eq_false_iff_ne, ne_eq] at h1
  refine at_exit rfl ?_
  refine then_x ?_
  refine then_x ?_
  refine blk_x ?_
  refine then_n ?_
  refine at_seq rfl ?_
  refine rg rfl ?_
  refine Rq ?_
  refine Rq ?_
  have tr : ∀ a b c d e f g h i j k m n : AV, let l := lc_play_ok a b c d e f g h i j k; trim ((4,n)::(43,m)::l) l = [(0,a),(1,b),(2,c),(4,n),(5,e),(6,f),(7,g),(12,h),(13,i),(14,j),(15,k)] := by intros; rfl
  refine R_nil (tr ..) ?_; clear tr
  refine then_n ?_
  refine at_ret rfl ?_
  obtain rfl : u = L.length := by omega
  refine fpure ?_
  exact ⟨frz_ownI (by omega) qp (play_len P L R L.length).symm, rfl⟩

abbrev lc_rplay_ok (a b c d e f g h i j k : AV) : Env := [(0,a),(1,b),(2,c),(4,d),(5,e),(6,f),(7,g),(13,h),(14,i),(15,j),(16,k)]
theorem rplay_ok (lim : Nat) (H : Heap) (P : List Int) (L : List Pr) (R : List Int) (g : ROK P L) (hl : R.length = L.length) (hr : resOK R) :
    ACall sig lim 61 [.agg (raceC P L), intsAV R] H fun r H' => r = intsAV (playN P L R L.length) ∧ H' = H := by
 obtain ⟨g1, g2_, g3, g4, ge, g6⟩ := id g
 have q0 : True := trivial
 have qp : True := trivial
 have qx : True := trivial
 refine ACall_pure (fa := fa61) rfl rfl rfl rfl ?_
 have tr : ∀ a0 a1 : AV, env0 fa61.keep [a0, a1] = [(0,a0),(1,a1),(2,.any),(4,.any),(5,.any),(6,.any),(7,.any),(13,.any),(14,.any),(15,.any),(16,.any)] := fun a0 a1 => rfl
 refine W_to (tr _ _) ?_; clear tr
 refine at_seq rfl ?_
 refine rg rfl ?_
 refine A_box rfl (by simp (disch := first | omega | (simp only [List.length_map, List.length_append, List.length_set, List.length_cons, List.length_nil]; omega)) only [go_sem, ↓reduceIte, Nat.reduceEqDiff, reduceCtorEq] <;> rfl) ?_
 intro H1 n0
 have en0 := n0.len
 have q0 := n0.new
 refine Rq ?_
 have tr : ∀ a b c d e f g h i j k m n : AV, let l := lc_rplay_ok a b c d e f g h i j k; trim ((4,n)::(2,m)::l) l = [(0,a),(1,b),(2,m),(4,n),(5,e),(6,f),(7,g),(13,h),(14,i),(15,j),(16,k)] := by intros; rfl
 refine R_nil (tr ..) ?_; clear tr
 refine then_n ?_
 refine at_seq rfl ?_
 refine rg rfl ?_
 refine A_buildSlice (bs40e _ _ _) ?_
 intro H2 n1
 have en1 := n1.len
 have q0 := (n1.old _ (hget_lt q0)).trans q0
 have qn := n1.new
 refine Rq ?_
 refine R_q rfl (by simp (disch := first | omega | (simp only [List.length_map, List.length_append, List.length_set, List.length_cons, List.length_nil]; omega)) only [go_sem, ↓reduceIte, Nat.reduceEqDiff, reduceCtorEq, q0, qp, qx] <;> rfl) ?_
 have lq0 := hget_lt q0
 refine A_append (by simp (disch := first | omega | (simp only [List.length_map, List.length_append, List.length_set, List.length_cons, List.length_nil]; omega)) only [go_sem, ↓reduceIte, Nat.reduceEqDiff, reduceCtorEq]; exact app40e qn (by omega) (by omega)) ?_
 intro H3 g2
 have eg2 := g2.len
 have q0 := (g2.old _ (by omega) lq0).trans q0
 have qp := g2.new
 obtain ⟨bp, hbp⟩ : ∃ bp, H2.length = bp := ⟨_, rfl⟩
 rewrite [hbp]
 rw [hbp] at qp
 refine Rq ?_
 have tr : ∀ a b c d e f g h i j k m n o p q : AV, let l := lc_rplay_ok a b c d e f g h i j k; trim ((5,q)::(11,p)::(10,o)::(9,n)::(8,m)::l) l = [(0,a),(1,b),(2,c),(4,d),(5,q),(6,f),(7,g),(13,h),(14,i),(15,j),(16,k)] := by intros; rfl
 refine R_nil (tr ..) ?_; clear tr
 refine then_n ?_
 refine at_seq rfl ?_
 refine at_seq rfl ?_
 refine rg rfl ?_
 refine Rq ?_
 refine R_q rfl (by simp (disch := first | omega | (simp only [List.length_map, List.length_append, List.length_set, List.length_cons, List.length_nil]; omega)) only [go_sem, ↓reduceIte, Nat.reduceEqDiff, reduceCtorEq, q0, qp, qx] <;> rfl) ?_
 refine Rq ?_
 refine Rq ?_
 have tr : ∀ a b c d e f g h i j k m n o p : AV, let l := lc_rplay_ok a b c d e f g h i j k; trim ((15,p)::(14,o)::(13,n)::(12,m)::l) l = [(0,a),(1,b),(2,c),(4,d),(5,e),(6,f),(7,g),(13,n),(14,o),(15,p),(16,k)] := by intros; rfl
 refine R_nil (tr ..) ?_; clear tr
 refine then_n ?_
 refine at_block rfl ?_
 refine loop_n rfl (fun mm kv H' => ∃ u : Nat, ∃ x6 x7 x16 : AV, (kv = [(6, x6), (7, x7), (15, AV.i u), (16, x16)]) ∧ (mm = L.length - u) ∧ (hget H' H.length = some (raceC P L)) ∧ (hget H' bp = some ((playN P L R u).map AV.i)) ∧ (u ≤ L.length)) ⟨0, _, _, _, rfl, rfl, by exact q0, by exact qp, by omega⟩ (by rfl) ?_
 rintro mm kv HB ⟨u, x6, x7, x16, rfl, rfl, q0, qp, hu⟩
 have tr : ∀ a b c d e f g h i j k m n o p : AV, upd [(0,a),(1,b),(2,c),(4,d),(5,e),(6,f),(7,g),(13,h),(14,i),(15,j),(16,k)] [(6,m),(7,n),(15,o),(16,p)] = [(0,a),(1,b),(2,c),(4,d),(5,e),(6,m),(7,n),(13,h),(14,i),(15,o),(16,p)] := by intros; rfl
 refine W_to (tr ..) ?_; clear tr
 refine at_seq rfl ?_
 refine rg rfl ?_
 refine Rq ?_
 have tr : ∀ a b c d e f g h i j k m : AV, let l := lc_rplay_ok a b c d e f g h i j k; trim ((16,m)::l) l = [(0,a),(1,b),(2,c),(4,d),(5,e),(6,f),(7,g),(13,h),(14,i),(15,j),(16,m)] := by intros; rfl
 refine R_nil (tr ..) ?_; clear tr
 refine then_n ?_
 refine at_seq rfl ?_
 refine cdd (fun h1 => ?_) (fun h1 => ?_)
 ·
  try simp only [decide_eq_true_eq, decide_eq_false_iff_not, Bool.not_eq_true', Bool.not_eq_false', beq_iff_eq, beq_eq_false_iff_ne, ne_eq] at h1
  refine at_skip rfl ?_
  refine then_n ?_
  refine at_seq rfl ?_
  refine at_block rfl ?_
  refine at_seq rfl ?_
  refine rg rfl ?_
  have he := ge u (by omega)
  have hru := hr u (by omega)
  have hpl := play_len P L R u
  have hpr := play_rng g hl hr u (by omega)
  have hp1 := hpr.1 (gt L u).a.toNat (by omega)
  have hp2 := hpr.2 (by omega) (gt L u).b.toNat (by omega)
  have hpl1 : (play1 L R u (playN P L R u)).length = P.length := by rw [play1_len, hpl]
  have kqp := hget_lt qp
  have kq0 := hget_lt q0
  refine Rq ?_
  refine Rq ?_
  refine R_q rfl (by simp (disch := first | omega | (simp only [List.length_map, List.length_append, List.length_set, List.length_cons, List.length_nil]; omega)) only [go_sem, ↓reduceIte, Nat.reduceEqDiff, reduceCtorEq, q0, qp, qx] <;> rfl) ?_
  refine A_alloc rfl ?_
  intro HC n4
  have en4 := n4.len
  have q0 := (n4.old _ (hget_lt q0)).trans q0
  have qp := (n4.old _ (hget_lt qp)).trans qp
  have qx := n4.new
  refine Rq ?_
  have lq0 := hget_lt q0
  have lqp := hget_lt qp
  have lqx := hget_lt qx
  refine A_store ty58 (by simp (disch := first | omega | (simp only [List.length_map, List.length_append, List.length_set, List.length_cons, List.length_nil]; omega)) only [go_sem, ↓reduceIte, Nat.reduceEqDiff, reduceCtorEq, q0, qp, qx] <;> rfl) (by simp (disch := first | omega | (simp only [List.length_map, List.length_append, List.length_set, List.length_cons, List.length_nil]; omega)) only [go_sem, ↓reduceIte, Nat.reduceEqDiff, reduceCtorEq, q0, qp, qx] <;> rfl) qx ⟨by omega, rfl, by first | exact Nat.le_refl _ | simp⟩ (show _ = prC (gt L u) from rfl) ?_
  intro HD w4
  have ew4 := w4.len
  have q0 := (w4.old _ (by omega)).trans q0
  have qp := (w4.old _ (by omega)).trans qp
  have qx := w4.new
  have tr : ∀ a b c d e f g h i j k m n o p q : AV, let l := lc_rplay_ok a b c d e f g h i j k; trim ((6,q)::(7,p)::(19,o)::(18,n)::(17,m)::l) l = [(0,a),(1,b),(2,c),(4,d),(5,e),(6,q),(7,p),(13,h),(14,i),(15,j),(16,k)] := by intros; rfl
  refine R_nil (tr ..) ?_; clear tr
  refine then_n ?_
  refine at_seq rfl ?_
  refine rd rfl rfl ?_
  refine Qq ?_
  refine Qq ?_
  refine Q_q rfl (by simp (disch := first | omega | (simp only [List.length_map, List.length_append, List.length_set, List.length_cons, List.length_nil]; omega)) only [go_sem, ↓reduceIte, Nat.reduceEqDiff, reduceCtorEq, q0, qp, qx] <;> rfl) ?_
  refine Qq ?_
  refine Q_q rfl (by simp (disch := first | omega | (simp only [List.length_map, List.length_append, List.length_set, List.length_cons, List.length_nil]; omega)) only [go_sem, ↓reduceIte, Nat.reduceEqDiff, reduceCtorEq, q0, qp, qx] <;> rfl) ?_
  refine Qq ?_
  refine Qq ?_
  refine Qq ?_
  refine Q_q rfl (by simp (disch := first | omega | (simp only [List.length_map, List.length_append, List.length_set, List.length_cons, List.length_nil]; omega)) only [go_sem, ↓reduceIte, Nat.reduceEqDiff, reduceCtorEq, q0, qp, qx] <;> rfl) ?_
  refine Qq ?_
  refine Qq ?_
  refine Q_nil ?_
  have lq0 := hget_lt q0
  have lqp := hget_lt qp
  have lqx := hget_lt qx
  refine A_store ty3 (by simp (disch := first | omega | (simp only [List.length_map, List.length_append, List.length_set, List.length_cons, List.length_nil]; omega)) only [go_sem, ↓reduceIte, Nat.reduceEqDiff, reduceCtorEq, q0, qp, qx] <;> rfl) (by simp (disch := first | omega | (simp only [List.length_map, List.length_append, List.length_set, List.length_cons, List.length_nil]; omega)) only [go_sem, ↓reduceIte, Nat.reduceEqDiff, reduceCtorEq, q0, qp, qx] <;> rfl) qp ⟨by omega, rfl, by simp only [List.length_map, play1_len, hpl]; omega⟩ (k' := (play1 L R u (playN P L R u)).map AV.i) (by rw [setL_map]; rfl) ?_
  intro HE w5
  have ew5 := w5.len
  have q0 := (w5.old _ (by omega)).trans q0
  have qx := (w5.old _ (by omega)).trans qx
  have qp := w5.new
  have tr : ∀ a b c d e f g h i j k m n o p q r s t u v w : AV, let l := lc_rplay_ok a b c d e f g h i j k; trim ((30,w)::(29,v)::(28,u)::(27,t)::(26,s)::(25,r)::(24,q)::(23,p)::(22,o)::(21,n)::(20,m)::l) l = [(0,a),(1,b),(2,c),(4,d),(5,e),(6,f),(7,g),(13,h),(14,i),(15,j),(16,k)] := by intros; rfl
  refine R_nil (tr ..) ?_; clear tr
  refine then_n ?_
  refine rd rfl rfl ?_
  refine Qq ?_
  refine Qq ?_
  refine Q_q rfl (by simp (disch := first | omega | (simp only [List.length_map, List.length_append, List.length_set, List.length_cons, List.length_nil]; omega)) only [go_sem, ↓reduceIte, Nat.reduceEqDiff, reduceCtorEq, q0, qp, qx] <;> rfl) ?_
  refine Qq ?_
  refine Q_q rfl (by simp (disch := first | omega | (simp only [List.length_map, List.length_append, List.length_set, List.length_cons, List.length_nil]; omega)) only [go_sem, ↓reduceIte, Nat.reduceEqDiff, reduceCtorEq, q0, qp, qx] <;> rfl) ?_
  refine Qq ?_
  refine Qq ?_
  refine Qq ?_
  refine Q_q rfl (by simp (disch := first | omega | (simp only [List.length_map, List.length_append, List.length_set, List.length_cons, List.length_nil]; omega)) only [go_sem, ↓reduceIte, Nat.reduceEqDiff, reduceCtorEq, q0, qp, qx] <;> rfl) ?_
  refine Qq ?_
  refine Qq ?_
  refine Qq ?_
  refine Q_nil ?_
  have lq0 := hget_lt q0
  have lqp := hget_lt qp
  have lqx := hget_lt qx
  refine A_store ty3 (by simp (disch := first | omega | (simp only [List.length_map, List.length_append, List.length_set, List.length_cons, List.length_nil]; omega)) only [go_sem, ↓reduceIte, Nat.reduceEqDiff, reduceCtorEq, q0, qp, qx] <;> rfl) (by simp (disch := first | omega | (simp only [List.length_map, List.length_append, List.length_set, List.length_cons, List.length_nil]; omega)) only [go_sem, ↓reduceIte, Nat.reduceEqDiff, reduceCtorEq, q0, qp, qx] <;> rfl) qp ⟨by omega, rfl, by simp only [List.length_map, play1_len, hpl]; omega⟩ (k' := (play2 L R u (play1 L R u (playN P L R u))).map AV.i) (by rw [setL_map]; rfl) ?_
  intro HF w6
  have ew6 := w6.len
  have q0 := (w6.old _ (by omega)).trans q0
  have qx := (w6.old _ (by omega)).trans qx
  have qp := w6.new
  have tr : ∀ a b c d e f g h i j k m n o p q r s t u v w x : AV, let l := lc_rplay_ok a b c d e f g h i j k; trim ((42,x)::(41,w)::(40,v)::(39,u)::(38,t)::(37,s)::(36,r)::(35,q)::(34,p)::(33,o)::(32,n)::(31,m)::l) l = [(0,a),(1,b),(2,c),(4,d),(5,e),(6,f),(7,g),(13,h),(14,i),(15,j),(16,k)] := by intros; rfl
  refine R_nil (tr ..) ?_; clear tr
  refine blk_n ?_
  refine then_n ?_
  refine rg rfl ?_
  refine Rq ?_
  refine Rq ?_
  have tr : ∀ a b c d e f g h i j k m n : AV, let l := lc_rplay_ok a b c d e f g h i j k; trim ((15,n)::(43,m)::l) l = [(0,a),(1,b),(2,c),(4,d),(5,e),(6,f),(7,g),(13,h),(14,i),(15,n),(16,k)] := by intros; rfl
  refine R_nil (tr ..) ?_; clear tr
  refine then_n ?_
  exact ⟨_, _, ⟨u + 1, _, _, _, rfl, rfl, by exact q0, by exact qp, by omega⟩, by rfl, by omega⟩
 ·
  try simp only [decide_eq_true_eq, decide_eq_false_iff_not, Bool.not_eq_true', Bool.not_eq_false', beq_iff_eq, beq_eq_false_iff_ne, ne_eq] at h1
  refine at_exit rfl ?_
  refine then_x ?_
  refine then_x ?_
  refine blk_x ?_
  refine then_n ?_
  refine at_seq rfl ?_
  refine rg rfl ?_
  refine Rq ?_
  refine Rq ?_
  have tr : ∀ a b c d e f g h i j k m n : AV, let l := lc_rplay_ok a b c d e f g h i j k; trim ((4,n)::(44,m)::l) l = [(0,a),(1,b),(2,c),(4,n),(5,e),(6,f),(7,g),(13,h),(14,i),(15,j),(16,k)] := by intros; rfl
  refine R_nil (tr ..) ?_; clear tr
  refine then_n ?_
  refine at_ret rfl ?_
  obtain rfl : u = L.length := by omega
  refine fpure ?_
  exact ⟨frz_ownI (by omega) qp (play_len P L R L.length).symm, rfl⟩

end Go.Proofs.Ytdicnojnkbmdlaa
end
