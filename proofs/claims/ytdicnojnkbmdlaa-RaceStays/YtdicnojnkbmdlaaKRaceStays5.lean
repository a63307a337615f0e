/-
  Texts of RaceStays, part 6 of 16. A race: points, matches that are left, pairs of teams. What the program and the reference compute, in plain terms.
-/
import Derived.Test.YtdicnojnkbmdlaaKRaceStays4
section
set_option linter.unusedVariables false
namespace Go.Proofs.Ytdicnojnkbmdlaa
open Go Go.Am

structure Pr where
  a : Int
  b : Int
deriving DecidableEq
instance : Inhabited Pr := ⟨⟨0, 0⟩⟩
abbrev prC (p : Pr) : List AV := [AV.i p.a, AV.i p.b]
def flatP (l : List Pr) : List AV := (l.map prC).flatten
abbrev prsAV (l : List Pr) : AV := .sl l.length (flatP l)
abbrev raceC (P : List Int) (L : List Pr) : List AV := [intsAV P, prsAV L]
abbrev nilP : AV := .v (.slice none 0 0)
theorem flatP_len (l : List Pr) : (flatP l).length = l.length * 2 := by
  induction l with
  | nil => rfl
  | cons s l ih => unfold flatP at ih ⊢; rw [List.map_cons, List.flatten_cons, List.length_append, ih]; simp; omega
theorem flatP_get : ∀ (l : List Pr) (u k : Nat), u < l.length → k < 2 → (flatP l)[u * 2 + k]? = (prC (gt l u))[k]?
  | [], u, k, h, _ => by simp at h
  | s :: l, 0, k, _, hk => by
    unfold flatP
    rw [List.map_cons, List.flatten_cons, Nat.zero_mul, Nat.zero_add, List.getElem?_append_left (by simpa using hk)]
    rfl
  | s :: l, u + 1, k, h, hk => by
    have ih := flatP_get l u k (by simpa using h) hk
    unfold flatP at ih ⊢
    rw [List.map_cons, List.flatten_cons, List.getElem?_append_right (by simp; omega)]
    rw [show (u + 1) * 2 + k - (prC s).length = u * 2 + k by simp; omega, ih]
    rfl
theorem ld_pr (l : List Pr) (u : Nat) (h : u < l.length) : partL { size := 2, bytes := 16, agg := true, k := TyK.array 2 3, zero := some [.int .i64 0, .int .i64 0] } (flatP l) (u * 2) = some (.agg (prC (gt l u))) := by
  rw [pl58 _ _ (by rw [flatP_len]; omega)]
  congr 2
  apply List.ext_getElem?
  intro j
  rw [List.getElem?_take, List.getElem?_drop]
  by_cases hj : j < 2
  · rw [if_pos hj, flatP_get l u j h hj]
  · rw [if_neg hj, List.getElem?_eq_none (by simp; omega)]
theorem flatP_app (w : List Pr) (c : Pr) : flatP (w ++ [c]) = flatP w ++ prC c := by
  unfold flatP
  rw [List.map_append, List.flatten_append]
  simp
theorem bld58 (x y : Int) : buildV Try.prog 58 [(0, AV.i x), (1, AV.i y)] = some (.agg [AV.i x, AV.i y]) := by
  simp only [buildV, ty58, ty3]
  rfl
theorem eq58 (p q : Pr) : binV Try.prog .eql 58 (.agg (prC p)) (.agg (prC q)) = some (.v (.bool (decide (p = q)))) := by
  have h : ∀ a b : Int, scalEq (tyOf Try.prog 3) (AV.i a) (AV.i b) = some (a == b) := fun a b => by simp only [scalEq, ty3, kOf, Option.map_some, if_true]
  have e : eqOk Try.prog 58 = true := eqOk58
  simp only [binV, aggEq, e, tk58, ty3]
  obtain ⟨pa, pb⟩ := p
  obtain ⟨qa, qb⟩ := q
  have c : cellsEq (tyOf Try.prog 3) (prC ⟨pa, pb⟩) (prC ⟨qa, qb⟩) 0 2 = some (decide (Pr.mk pa pb = Pr.mk qa qb)) := by
    simp only [cellsEq, List.getElem?_cons_zero, List.getElem?_cons_succ, h]
    by_cases h1 : pa = qa
    · subst h1
      rw [show (pa == pa) = true by simp]
      by_cases h2 : pb = qb
      · subst h2
        rw [show (pb == pb) = true by simp]
        simp
      · rw [show (pb == qb) = false by simpa using h2]
        simp [h2]
    · rw [show (pa == qa) = false by simpa using h1]
      simp [h1]
  simp only [ty3] at c
  simp [c]
theorem take2 (x y : AV) : List.take 2 [x, y] = [x, y] := rfl
attribute [go_sem] ld_pr bld58 eq58 take2

def norm (p : Pr) : Pr := ⟨min p.a p.b, max p.a p.b⟩
theorem norm_iff (p q : Pr) : (p.a = q.a ∧ p.b = q.b ∨ p.a = q.b ∧ p.b = q.a) ↔ norm p = norm q := by
  simp only [norm, Pr.mk.injEq]
  omega
/-- The different pairs of the first matches. -/
def pairsN (L : List Pr) : Nat → List Pr
  | 0 => []
  | u + 1 => if norm (gt L u) ∈ pairsN L u then pairsN L u else pairsN L u ++ [norm (gt L u)]
def refN (L : List Pr) : Nat → List Pr
  | 0 => []
  | u + 1 => if norm (gt L u) ∈ (refN L u).map norm then refN L u else refN L u ++ [gt L u]
theorem ref_norm (L : List Pr) : ∀ u, (refN L u).map norm = pairsN L u
  | 0 => rfl
  | u + 1 => by
    rw [refN, pairsN, ref_norm L u]
    split
    · exact ref_norm L u
    · rw [List.map_append, ref_norm L u]; rfl
theorem pairs_len (L : List Pr) : ∀ u, (pairsN L u).length ≤ u
  | 0 => Nat.le_refl _
  | u + 1 => by
    have := pairs_len L u
    rw [pairsN]
    split
    · omega
    · simp; omega
theorem ref_len (L : List Pr) (u : Nat) : (refN L u).length = (pairsN L u).length := by rw [← ref_norm, List.length_map]

/-- A list of pairs as it is gathered: nothing yet, or a block. -/
def OutP (lo : Nat) (H : Heap) (o : AV) (w : List Pr) : Prop := (w = [] ∧ o = nilP) ∨ (w ≠ [] ∧ ∃ b, o = .own 2 b 0 w.length ∧ lo ≤ b ∧ hget H b = some (flatP w))
theorem OutP.mono {lo : Nat} {H H' : Heap} {o : AV} {w : List Pr} (h : OutP lo H o w) (hh : ∀ b, lo ≤ b → ∀ k, hget H b = some k → hget H' b = some k) : OutP lo H' o w := by
  rcases h with h | ⟨h0, b, h1, h2, h3⟩
  · exact .inl h
  · exact .inr ⟨h0, b, h1, h2, hh b h2 _ h3⟩
theorem OutP.lt {lo b : Nat} {H : Heap} {o : AV} {w : List Pr} (h : OutP lo H o w) (ho : o = .own 2 b 0 w.length) : b < H.length := by
  rcases h with ⟨_, h⟩ | ⟨_, b', h1, _, h3⟩
  · rw [h] at ho; cases ho
  · rw [h1] at ho; cases ho; exact hget_lt h3
theorem bs41 (lim : Nat) (H : Heap) (x : Operand) (ev : Operand → AV) (c : Pr) (h : ev x = .agg (prC c)) :
    effV Try.prog lim (.buildSlice 41 1 #[(0, x)]) ev H = some (.own 2 H.length 0 1, H ++ [some (prC c)]) := by
  simp only [effV, tk41, ty58]
  rw [if_pos ⟨rfl, by decide, by decide⟩]
  simp only [List.map_cons, List.map_nil, h]
  rfl
theorem outP_append {lim lo hi : Nat} {H : Heap} {o : AV} {w : List Pr} {c : Pr} {b' : Nat} (h : OutP lo H o w) (hob : ∀ b, o = .own 2 b 0 w.length → b < hi) (hc : hget H b' = some (prC c)) (hl : lim ≤ lo) (hlo : lo ≤ H.length) (hw : w.length ≤ 100000) :
    ∃ b, lo ≤ b ∧ (b < hi ∨ b = H.length) ∧ ∃ H', appendV Try.prog lim H 41 o (.own 2 b' 0 1) = some (.own 2 H.length 0 (w.length + 1), H') ∧ MGrew H b H' (flatP (w ++ [c])) := by
  rcases h with ⟨rfl, rfl⟩ | ⟨h0, b, rfl, h2, h3⟩
  · refine ⟨H.length, hlo, .inr rfl, _, ?_, MGrew.ofNew _ (MNew.of _ _)⟩
    simp only [appendV, tk41, ty58, srcCells, hc]
    rw [if_pos (by simp)]
    simp only [List.length_cons, List.length_nil]
    rw [if_pos ⟨trivial, by decide, rfl⟩]
    rw [if_pos ⟨by omega, by omega⟩]
    rfl
  · refine ⟨b, h2, .inl (hob b rfl), _, ?_, MGrew.of _ _ _⟩
    simp only [appendV, tk41, ty58, srcCells, hc, h3]
    rw [if_pos (by simp)]
    simp only [List.length_cons, List.length_nil]
    rw [if_pos ⟨trivial, by decide, rfl⟩]
    simp only [List.drop_zero, flatP_len]
    rw [if_pos ⟨by omega, trivial, by omega, by omega, by omega⟩]
    rw [List.take_of_length_le (by rw [flatP_len]; omega), flatP_app]
    rfl
theorem frz_prs (H : Heap) (b d : Nat) (l : List Pr) : (flatP l).map (frz H b (d + 1)) = flatP l := by
  unfold flatP
  rw [List.map_flatten, List.map_map]
  congr 1
theorem OutP.frz {H : Heap} {base d : Nat} {o : AV} {w : List Pr} (h : OutP base H o w) : Go.Am.frz H base (d + 2) o = if w = [] then nilP else prsAV w := by
  rcases h with ⟨rfl, rfl⟩ | ⟨h0, b, rfl, h2, h3⟩
  · rfl
  · rw [frz_own (by omega) h3, List.drop_zero, frz_prs]
    rw [if_neg h0]
def pairsA (L : List Pr) : AV := if pairsN L L.length = [] then nilP else prsAV (pairsN L L.length)
theorem pairsA_len (L : List Pr) : lenV (tyOf Try.prog 41) (pairsA L) = some (AV.i ((pairsN L L.length).length : Nat)) := by
  unfold pairsA
  split
  · rename_i h; rw [h]; simp only [lenV, ty41, kOf, Option.map_some]; rfl
  · simp only [lenV, ty41, kOf, Option.map_some]
theorem pairs_new {lo b : Nat} {H H' : Heap} {L : List Pr} {u : Nat} (g : MGrew H b H' (flatP (pairsN L u ++ [norm (gt L u)]))) (hlo : lo ≤ H.length) (hn : ¬ norm (gt L u) ∈ pairsN L u) : OutP lo H' (.own 2 H.length 0 ((pairsN L u).length + 1)) (pairsN L (u + 1)) := by
  rw [pairsN, if_neg hn]
  exact .inr ⟨by simp, H.length, by simp, hlo, g.new⟩
theorem pairs_old {lo : Nat} {H : Heap} {o : AV} {L : List Pr} {u : Nat} (h : OutP lo H o (pairsN L u)) (hn : norm (gt L u) ∈ pairsN L u) : OutP lo H o (pairsN L (u + 1)) := by
  rw [pairsN, if_pos hn]; exact h
def prErr (n : Int) (p : Pr) : Int := if p.a < 0 ∨ n ≤ p.a ∨ p.b < 0 ∨ n ≤ p.b ∨ p.a = p.b then 1 else 0
theorem pr_of {n : Int} {p : Pr} (h : prErr n p = 0) : 0 ≤ p.a ∧ 0 ≤ p.b := by
  unfold prErr at h
  split at h
  · cases h
  · exact ⟨by omega, by omega⟩
def ptErr (x : Int) : Int := if x < 0 ∨ 800 < x then 2 else 0
def rchkS (P : List Int) (L : List Pr) : Int :=
  if P.length < 2 ∨ 20 < P.length then 2 else if ferr (fun i => ptErr (gt P i)) P.length ≠ 0 then ferr (fun i => ptErr (gt P i)) P.length else if 400 < L.length then 9 else
  if ferr (fun i => prErr P.length (gt L i)) L.length ≠ 0 then ferr (fun i => prErr P.length (gt L i)) L.length else if 40 < (pairsN L L.length).length then 9 else 0
/-- What a race without an error is. -/
structure ROK (P : List Int) (L : List Pr) : Prop where
  n2 : 2 ≤ P.length
  n20 : P.length ≤ 20
  pt : ∀ i, i < P.length → 0 ≤ gt P i ∧ gt P i ≤ 800
  el : L.length ≤ 400
  ed : ∀ i, i < L.length → 0 ≤ (gt L i).a ∧ (gt L i).a < P.length ∧ 0 ≤ (gt L i).b ∧ (gt L i).b < P.length ∧ (gt L i).a ≠ (gt L i).b
  pr : (pairsN L L.length).length ≤ 40
theorem rok_of {P : List Int} {L : List Pr} (h : rchkS P L = 0) : ROK P L := by
  unfold rchkS at h
  split at h
  · cases h
  split at h
  · rename_i h1; exact absurd h h1
  split at h
  · cases h
  split at h
  · rename_i h1; exact absurd h h1
  split at h
  · cases h
  rename_i h1 h2 h3 h4 h5
  refine ⟨by omega, by omega, fun i hi => ?_, by omega, fun i hi => ?_, by omega⟩
  · have := ferr_all (Decidable.not_not.mp h2) i hi
    simp only [ptErr] at this
    split at this
    · cases this
    · omega
  · have := ferr_all (Decidable.not_not.mp h4) i hi
    simp only [prErr] at this
    split at this
    · cases this
    · exact ⟨by omega, by omega, by omega, by omega, by omega⟩
/-- The most points of a team over the first matches. -/
def mostN (P : List Int) (L : List Pr) (t : Int) : Nat → Int
  | 0 => gt P t.toNat
  | u + 1 => if (gt L u).a = t ∨ (gt L u).b = t then mostN P L t u + 2 else mostN P L t u
theorem most_rng {P : List Int} {L : List Pr} {t : Int} (h0 : 0 ≤ gt P t.toNat) (h1 : gt P t.toNat ≤ 800) : ∀ u, 0 ≤ mostN P L t u ∧ mostN P L t u ≤ 800 + 2 * u
  | 0 => ⟨h0, by rw [mostN]; omega⟩
  | u + 1 => by
    have := most_rng h0 h1 u (L := L)
    rw [mostN]
    split <;> omega
def mostS (P : List Int) (L : List Pr) (t : Int) : Int × Int :=
  if rchkS P L ≠ 0 then (0, rchkS P L) else if t < 0 ∨ (P.length : Int) ≤ t then (0, 6) else (mostN P L t L.length, 0)
/-- The points after results. -/
def play1 (L : List Pr) (R : List Int) (u : Nat) (o : List Int) : List Int := o.set (gt L u).a.toNat (gt o (gt L u).a.toNat + gt R u)
def play2 (L : List Pr) (R : List Int) (u : Nat) (o : List Int) : List Int := o.set (gt L u).b.toNat (gt o (gt L u).b.toNat + (2 - gt R u))
def playN (P : List Int) (L : List Pr) (R : List Int) : Nat → List Int
  | 0 => P
  | u + 1 => play2 L R u (play1 L R u (playN P L R u))
theorem play1_len {L : List Pr} {R : List Int} {u : Nat} {o : List Int} : (play1 L R u o).length = o.length := by rw [play1, List.length_set]
theorem play2_len {L : List Pr} {R : List Int} {u : Nat} {o : List Int} : (play2 L R u o).length = o.length := by rw [play2, List.length_set]
theorem play_len (P : List Int) (L : List Pr) (R : List Int) (u : Nat) : (playN P L R u).length = P.length := by
  induction u with
  | zero => rfl
  | succ u ih => rw [playN, play2_len, play1_len, ih]
def resOK (R : List Int) : Prop := ∀ i, i < R.length → 0 ≤ gt R i ∧ gt R i ≤ 2
theorem play_rng {P : List Int} {L : List Pr} {R : List Int} (g : ROK P L) (hl : R.length = L.length) (hr : resOK R) : ∀ u, u ≤ L.length →
    (∀ j, j < P.length → 0 ≤ gt (playN P L R u) j ∧ gt (playN P L R u) j ≤ 800 + 4 * (u : Int)) ∧ (u < L.length → ∀ j, j < P.length → 0 ≤ gt (play1 L R u (playN P L R u)) j ∧ gt (play1 L R u (playN P L R u)) j ≤ 802 + 4 * (u : Int))
  | 0, h0 => by
    have h1 : ∀ j, j < P.length → 0 ≤ gt (playN P L R 0) j ∧ gt (playN P L R 0) j ≤ 800 + 4 * ((0 : Nat) : Int) := fun j hj => by have := g.pt j hj; rw [playN]; omega
    refine ⟨h1, fun hu j hj => ?_⟩
    have e := g.ed 0 hu
    have r := hr 0 (by omega)
    have a1 := h1 (gt L 0).a.toNat (by omega)
    have a2 := h1 j hj
    rw [play1, gt_set _ _ _ _ (by rw [play_len]; omega)]
    split <;> omega
  | u + 1, h => by
    have ih := (play_rng g hl hr u (by omega)).2 (by omega)
    have e := g.ed u (by omega)
    have r := hr u (by omega)
    have h1 : ∀ j, j < P.length → 0 ≤ gt (playN P L R (u + 1)) j ∧ gt (playN P L R (u + 1)) j ≤ 800 + 4 * ((u + 1 : Nat) : Int) := fun j hj => by
      have b1 := ih (gt L u).b.toNat (by omega)
      have b2 := ih j hj
      rw [playN, play2, gt_set _ _ _ _ (by rw [play1_len, play_len]; omega)]
      split <;> omega
    refine ⟨h1, fun hu j hj => ?_⟩
    have e' := g.ed (u + 1) hu
    have r' := hr (u + 1) (by omega)
    have a1 := h1 (gt L (u + 1)).a.toNat (by omega)
    have a2 := h1 j hj
    rw [play1, gt_set _ _ _ _ (by rw [play_len]; omega)]
    split <;> omega
open Classical in
noncomputable def playA (P : List Int) (L : List Pr) (R : List Int) : AV :=
  if rchkS P L ≠ 0 ∨ R.length ≠ L.length ∨ ¬ resOK R then nilP else intsAV (playN P L R L.length)
open Classical in
noncomputable def playE (P : List Int) (L : List Pr) (R : List Int) : Int :=
  if rchkS P L ≠ 0 then rchkS P L else if R.length ≠ L.length then 1 else if ¬ resOK R then 2 else 0
/-- The first team that can pass one. -/
def passN (P : List Int) (L : List Pr) (t : Int) : Nat → Int
  | 0 => -1
  | u + 1 => if passN P L t u ≠ -1 then passN P L t u else if (u : Int) ≠ t ∧ gt P t.toNat < mostN P L u L.length then u else -1
theorem pass_at {P : List Int} {L : List Pr} {t : Int} {u : Nat} (h : passN P L t u = -1) (h1 : (u : Int) ≠ t) (h2 : gt P t.toNat < mostN P L u L.length) : ∀ k, u < k → passN P L t k = u
  | 0, hk => by omega
  | k + 1, hk => by
    rw [passN]
    by_cases hu : u = k
    · subst hu; rw [if_neg (fun hh => hh h), if_pos ⟨h1, h2⟩]
    · rw [pass_at h h1 h2 k (by omega), if_pos (by omega)]
theorem pass_on {P : List Int} {L : List Pr} {t : Int} {u : Nat} (h : passN P L t u = -1) (h1 : ¬ ((u : Int) ≠ t ∧ gt P t.toNat < mostN P L u L.length)) : passN P L t (u + 1) = -1 := by
  rw [passN, if_neg (fun hh => hh h), if_neg h1]
def thruS (P : List Int) (L : List Pr) (t : Int) : Bool × Int × Int :=
  if (mostS P L t).2 ≠ 0 then (false, 0, (mostS P L t).2) else (decide (passN P L t P.length = -1), passN P L t P.length, 0)
end Go.Proofs.Ytdicnojnkbmdlaa
end
section
set_option linter.unusedVariables false
namespace Go.Proofs.Ytdicnojnkbmdlaa
open Go Go.Am

def sumN (f : Nat → Int) : Nat → Int
  | 0 => 0
  | n + 1 => sumN f n + f n
theorem sumN_congr {f g : Nat → Int} : ∀ n, (∀ i, i < n → f i = g i) → sumN f n = sumN g n
  | 0, _ => rfl
  | n + 1, h => by rw [sumN, sumN, sumN_congr n fun i hi => h i (by omega), h n (by omega)]
theorem sumN_le {f g : Nat → Int} : ∀ n, (∀ i, i < n → f i ≤ g i) → sumN f n ≤ sumN g n
  | 0, _ => Int.le_refl _
  | n + 1, h => by
    have := sumN_le n fun i hi => h i (by omega)
    have := h n (by omega)
    rw [sumN, sumN]; omega
theorem sumN_lt {f g : Nat → Int} {j : Nat} : ∀ n, (∀ i, i < n → f i ≤ g i) → j < n → f j < g j → sumN f n < sumN g n
  | 0, _, hj, _ => by omega
  | n + 1, h, hj, hl => by
    rw [sumN, sumN]
    by_cases hn : j = n
    · have := sumN_le n fun i hi => h i (by omega)
      subst hn; omega
    · have := sumN_lt n (fun i hi => h i (by omega)) (by omega) hl
      have := h n (by omega)
      omega
theorem sumN_add (f g : Nat → Int) : ∀ n, sumN (fun i => f i + g i) n = sumN f n + sumN g n
  | 0 => rfl
  | n + 1 => by rw [sumN, sumN, sumN, sumN_add f g n]; omega
theorem sumN_zero : ∀ n, sumN (fun _ => 0) n = 0
  | 0 => rfl
  | n + 1 => by rw [sumN, sumN_zero n]; rfl
theorem sumN_swap (f : Nat → Nat → Int) (m : Nat) : ∀ n, sumN (fun k => sumN (fun i => f k i) m) n = sumN (fun i => sumN (fun k => f k i) n) m
  | 0 => by rw [sumN]; exact (sumN_zero m).symm
  | n + 1 => by
    rw [sumN, sumN_swap f m n, ← sumN_add]
    rfl
theorem sumN_one (a : Nat) (x : Int) : ∀ n, sumN (fun k => if k = a then x else 0) n = if a < n then x else 0
  | 0 => by rw [if_neg (by omega)]; rfl
  | n + 1 => by
    rw [sumN, sumN_one a x n]
    by_cases h : n = a
    · rw [if_neg (by omega), if_pos h, if_pos (by omega)]; omega
    · rw [if_neg h]
      by_cases h2 : a < n
      · rw [if_pos h2, if_pos (by omega)]; omega
      · rw [if_neg h2, if_neg (by omega)]; rfl
theorem sumN_upd {f g : Nat → Int} {j : Nat} (n : Nat) (h : ∀ i, i < n → i ≠ j → g i = f i) (hj : j < n) : sumN g n = sumN f n + (g j - f j) := by
  have e : sumN g n = sumN (fun i => f i + if i = j then g j - f j else 0) n := sumN_congr n fun i hi => by
    by_cases hij : i = j
    · subst hij; rw [if_pos rfl]; omega
    · rw [if_neg hij, h i hi hij]; omega
  rw [e, sumN_add f (fun i => if i = j then g j - f j else 0), sumN_one, if_pos hj]
theorem sumN_nn {f : Nat → Int} (n : Nat) (h : ∀ i, i < n → 0 ≤ f i) : 0 ≤ sumN f n := by
  have := sumN_le (f := fun _ => 0) n h
  rwa [sumN_zero] at this

/-- A flow from pairs to teams: what comes to a pair, what goes on to its two teams, what goes on from a team; and what can be reached. -/
structure BF (N q : Nat) (Q : List Pr) (c : Nat → Int) (P : List Int) (goal t : Int) (x y z e : Nat → Int) (T V : Nat → Bool) : Prop where
  qa : ∀ i, i < q → 0 ≤ (gt Q i).a ∧ (gt Q i).a < N ∧ 0 ≤ (gt Q i).b ∧ (gt Q i).b < N ∧ (gt Q i).a ≠ (gt Q i).b ∧ (gt Q i).a ≠ t ∧ (gt Q i).b ≠ t
  x0 : ∀ i, i < q → 0 ≤ x i ∧ x i ≤ c i
  y0 : ∀ i, i < q → 0 ≤ y i ∧ y i ≤ c i
  z0 : ∀ i, i < q → 0 ≤ z i ∧ z i ≤ c i
  e0 : ∀ k : Nat, k < N → (k : Int) ≠ t → 0 ≤ e k ∧ e k ≤ goal - gt P k
  pc : ∀ i, i < q → x i = y i + z i
  tc : ∀ k : Nat, k < N → (k : Int) ≠ t → e k = sumN (fun i => (if (gt Q i).a = k then y i else 0) + (if (gt Q i).b = k then z i else 0)) q
  r1 : ∀ i, i < q → x i < c i → V i = true
  r2 : ∀ i, i < q → V i = true → y i < c i → T (gt Q i).a.toNat = true
  r3 : ∀ i, i < q → V i = true → z i < c i → T (gt Q i).b.toNat = true
  r4 : ∀ i, i < q → T (gt Q i).a.toNat = true → 0 < y i → V i = true
  r5 : ∀ i, i < q → T (gt Q i).b.toNat = true → 0 < z i → V i = true
  r6 : ∀ k : Nat, k < N → (k : Int) ≠ t → T k = true → e k = goal - gt P k
  r7 : ∀ k : Nat, k < N → T k = true → (k : Int) ≠ t

section
variable {N q : Nat} {Q : List Pr} {c : Nat → Int} {P : List Int} {goal t : Int} {x y z e : Nat → Int} {T V : Nat → Bool}
def within (T : Nat → Bool) (p : Pr) : Bool := T p.a.toNat && T p.b.toNat
/-- What goes on from some teams is what comes to them. -/
theorem BF.sum (B : BF N q Q c P goal t x y z e T V) (S : Nat → Bool) (hS : ∀ k : Nat, k < N → S k = true → (k : Int) ≠ t) :
    sumN (fun k => if S k = true then e k else 0) N = sumN (fun i => (if S (gt Q i).a.toNat = true then y i else 0) + (if S (gt Q i).b.toNat = true then z i else 0)) q := by
  have e1 : sumN (fun k => if S k = true then e k else 0) N = sumN (fun k => sumN (fun i => (if k = (gt Q i).a.toNat then (if S (gt Q i).a.toNat = true then y i else 0) else 0) + (if k = (gt Q i).b.toNat then (if S (gt Q i).b.toNat = true then z i else 0) else 0)) q) N := sumN_congr N fun k hk => by
    by_cases hs : S k = true
    · rw [if_pos hs, B.tc k hk (hS k hk hs)]
      refine sumN_congr q fun i hi => ?_
      have h := B.qa i hi
      by_cases ha : (gt Q i).a = k <;> by_cases hb : (gt Q i).b = k
      · omega
      · have ka : k = (gt Q i).a.toNat := by omega
        rw [if_pos ha, if_neg hb, if_pos ka, if_neg (show ¬ k = (gt Q i).b.toNat by omega), ← ka, if_pos hs]
      · have kb : k = (gt Q i).b.toNat := by omega
        rw [if_neg ha, if_pos hb, if_neg (show ¬ k = (gt Q i).a.toNat by omega), if_pos kb, ← kb, if_pos hs]
      · rw [if_neg ha, if_neg hb, if_neg (show ¬ k = (gt Q i).a.toNat by omega), if_neg (show ¬ k = (gt Q i).b.toNat by omega)]
    · rw [if_neg hs]
      refine (Eq.trans (sumN_congr q fun i hi => ?_) (sumN_zero q)).symm
      by_cases ha : k = (gt Q i).a.toNat <;> by_cases hb : k = (gt Q i).b.toNat
      · rw [if_pos ha, if_pos hb, if_neg (by rw [← ha]; exact hs), if_neg (by rw [← hb]; exact hs)]; rfl
      · rw [if_pos ha, if_neg hb, if_neg (by rw [← ha]; exact hs)]; rfl
      · rw [if_neg ha, if_pos hb, if_neg (by rw [← hb]; exact hs)]; rfl
      · rw [if_neg ha, if_neg hb]; rfl
  rw [e1, sumN_swap]
  refine sumN_congr q fun i hi => ?_
  have h := B.qa i hi
  rw [sumN_add (fun k => if k = (gt Q i).a.toNat then (if S (gt Q i).a.toNat = true then y i else 0) else 0), sumN_one, sumN_one, if_pos (show (gt Q i).a.toNat < N by omega), if_pos (show (gt Q i).b.toNat < N by omega)]
/-- Into the teams that can be reached nothing comes but from pairs that are among them. -/
theorem BF.into (B : BF N q Q c P goal t x y z e T V) (i : Nat) (hi : i < q) :
    (if T (gt Q i).a.toNat = true then y i else 0) + (if T (gt Q i).b.toNat = true then z i else 0) = if within T (gt Q i) = true then x i else 0 := by
  have h1 := B.x0 i hi
  have h2 := B.y0 i hi
  have h3 := B.z0 i hi
  have h4 := B.pc i hi
  have h5 := B.r2 i hi
  have h6 := B.r3 i hi
  have h7 := B.r4 i hi
  have h8 := B.r5 i hi
  unfold within
  cases ha : T (gt Q i).a.toNat <;> cases hb : T (gt Q i).b.toNat <;> simp only [Bool.and_true, Bool.and_false, Bool.false_eq_true, if_true, if_false]
  · rfl
  · by_cases hz : 0 < z i
    · have hv := h8 hb hz
      by_cases hy : y i < c i
      · have := h5 hv hy; rw [ha] at this; cases this
      · omega
    · omega
  · by_cases hy : 0 < y i
    · have hv := h7 ha hy
      by_cases hz : z i < c i
      · have := h6 hv hz; rw [hb] at this; cases this
      · omega
    · omega
  · omega
theorem BF.unsat (B : BF N q Q c P goal t x y z e T V) (i : Nat) (hi : i < q) (h : x i < c i) : within T (gt Q i) = true := by
  have h1 := B.x0 i hi
  have h2 := B.y0 i hi
  have h3 := B.z0 i hi
  have h4 := B.pc i hi
  have hv := B.r1 i hi h
  unfold within
  rw [B.r2 i hi hv (by omega), B.r3 i hi hv (by omega)]
  rfl
theorem BF.tight (B : BF N q Q c P goal t x y z e T V) : sumN (fun k => if T k = true then goal - gt P k else 0) N = sumN (fun i => if within T (gt Q i) = true then x i else 0) q := by
  rw [← sumN_congr q fun i hi => B.into i hi, ← B.sum T B.r7]
  refine sumN_congr N fun k hk => ?_
  by_cases h : T k = true
  · rw [if_pos h, if_pos h, B.r6 k hk (B.r7 k hk h) h]
  · rw [if_neg h, if_neg h]
/-- Where not all that could come to the pairs comes, the teams that can be reached have too many points among them. -/
theorem BF.elim (B : BF N q Q c P goal t x y z e T V) {j : Nat} (hj : j < q) (h : x j < c j) :
    sumN (fun k => if T k = true then goal - gt P k else 0) N < sumN (fun i => if within T (gt Q i) = true then c i else 0) q ∧ ∃ k, k < N ∧ T k = true := by
  refine ⟨?_, ?_⟩
  · rw [B.tight]
    refine sumN_lt (j := j) q (fun i hi => ?_) hj ?_
    · have := B.x0 i hi
      split <;> omega
    · rw [if_pos (B.unsat j hj h), if_pos (B.unsat j hj h)]; exact h
  · have h1 := B.unsat j hj h
    have h2 := B.qa j hj
    unfold within at h1
    exact ⟨(gt Q j).a.toNat, by omega, by revert h1; cases T (gt Q j).a.toNat <;> simp⟩
end

/-! Points after results. -/
theorem gt_play1 {L : List Pr} {R : List Int} {u : Nat} {o : List Int} (h0 : 0 ≤ (gt L u).a) (h1 : (gt L u).a < o.length) (k : Nat) : gt (play1 L R u o) k = gt o k + if (gt L u).a = k then gt R u else 0 := by
  rw [play1, gt_set _ _ _ _ (by omega)]
  by_cases h : (gt L u).a = k
  · rw [if_pos h, if_pos (by omega), show (gt L u).a.toNat = k by omega]
  · rw [if_neg h, if_neg (by omega)]; omega
theorem gt_play2 {L : List Pr} {R : List Int} {u : Nat} {o : List Int} (h0 : 0 ≤ (gt L u).b) (h1 : (gt L u).b < o.length) (k : Nat) : gt (play2 L R u o) k = gt o k + if (gt L u).b = k then 2 - gt R u else 0 := by
  rw [play2, gt_set _ _ _ _ (by omega)]
  by_cases h : (gt L u).b = k
  · rw [if_pos h, if_pos (by omega), show (gt L u).b.toNat = k by omega]
  · rw [if_neg h, if_neg (by omega)]; omega
theorem play_step {P : List Int} {L : List Pr} (g : ROK P L) (R : List Int) {u : Nat} (hu : u < L.length) (k : Nat) :
    gt (playN P L R (u + 1)) k = gt (playN P L R u) k + ((if (gt L u).a = k then gt R u else 0) + (if (gt L u).b = k then 2 - gt R u else 0)) := by
  have e := g.ed u hu
  rw [playN, gt_play2 e.2.2.1 (by rw [play1_len, play_len]; exact e.2.2.2.1), gt_play1 e.1 (by rw [play_len]; exact e.2.1)]
  omega
theorem play_goal {P : List Int} {L : List Pr} (g : ROK P L) {R : List Int} (hl : R.length = L.length) (hr : resOK R) {t : Int} (t0 : 0 ≤ t) : ∀ u, u ≤ L.length → gt (playN P L R u) t.toNat ≤ mostN P L t u
  | 0, _ => Int.le_refl _
  | u + 1, h => by
    have ih := play_goal g hl hr t0 u (by omega)
    have e := g.ed u (by omega)
    have r := hr u (by omega)
    rw [play_step g R (by omega), mostN]
    by_cases ha : (gt L u).a = t <;> by_cases hb : (gt L u).b = t
    · omega
    · rw [if_pos (by omega), if_neg (by omega), if_pos (.inl ha)]; omega
    · rw [if_neg (by omega), if_pos (by omega), if_pos (.inr hb)]; omega
    · rw [if_neg (by omega), if_neg (by omega), if_neg (by omega)]; omega
theorem play_up {P : List Int} {L : List Pr} (g : ROK P L) {R : List Int} (hl : R.length = L.length) (hr : resOK R) (k : Nat) : ∀ u, u ≤ L.length → gt P k ≤ gt (playN P L R u) k
  | 0, _ => Int.le_refl _
  | u + 1, h => by
    have ih := play_up g hl hr k u (by omega)
    have r := hr u (by omega)
    rw [play_step g R (by omega)]
    split <;> split <;> omega
/-- Twice the number of matches among some teams. -/
def inN (T : Nat → Bool) (L : List Pr) : Nat → Int
  | 0 => 0
  | u + 1 => inN T L u + if within T (gt L u) = true then 2 else 0
theorem play_in {P : List Int} {L : List Pr} (g : ROK P L) {R : List Int} (hl : R.length = L.length) (hr : resOK R) (T : Nat → Bool) : ∀ u, u ≤ L.length →
    sumN (fun k => if T k = true then gt P k else 0) P.length + inN T L u ≤ sumN (fun k => if T k = true then gt (playN P L R u) k else 0) P.length
  | 0, _ => by rw [inN]; show _ + 0 ≤ sumN (fun k => if T k = true then gt P k else 0) P.length; omega
  | u + 1, h => by
    have ih := play_in g hl hr T u (by omega)
    have e := g.ed u (by omega)
    have r := hr u (by omega)
    have k1 : sumN (fun k => if T k = true then gt (playN P L R (u + 1)) k else 0) P.length = sumN (fun k => (if T k = true then gt (playN P L R u) k else 0) + ((if k = (gt L u).a.toNat then (if T (gt L u).a.toNat = true then gt R u else 0) else 0) + (if k = (gt L u).b.toNat then (if T (gt L u).b.toNat = true then 2 - gt R u else 0) else 0))) P.length := sumN_congr _ fun k hk => by
      rw [play_step g R (by omega)]
      by_cases ha : (gt L u).a = k <;> by_cases hb : (gt L u).b = k
      · omega
      · rw [if_pos ha, if_neg hb, if_pos (show k = (gt L u).a.toNat by omega), if_neg (show ¬ k = (gt L u).b.toNat by omega), show (gt L u).a.toNat = k by omega]
        by_cases ht : T k = true
        · rw [if_pos ht, if_pos ht, if_pos ht]
        · rw [if_neg ht, if_neg ht, if_neg ht]; rfl
      · rw [if_neg ha, if_pos hb, if_neg (show ¬ k = (gt L u).a.toNat by omega), if_pos (show k = (gt L u).b.toNat by omega), show (gt L u).b.toNat = k by omega]
        by_cases ht : T k = true
        · rw [if_pos ht, if_pos ht, if_pos ht]
        · rw [if_neg ht, if_neg ht, if_neg ht]; rfl
      · rw [if_neg ha, if_neg hb, if_neg (show ¬ k = (gt L u).a.toNat by omega), if_neg (show ¬ k = (gt L u).b.toNat by omega)]
        by_cases ht : T k = true
        · rw [if_pos ht, if_pos ht]
        · rw [if_neg ht, if_neg ht]; rfl
    rw [k1, sumN_add, sumN_add (fun k => if k = (gt L u).a.toNat then (if T (gt L u).a.toNat = true then gt R u else 0) else 0), sumN_one, sumN_one, if_pos (show (gt L u).a.toNat < P.length by omega), if_pos (show (gt L u).b.toNat < P.length by omega), inN]
    unfold within
    cases T (gt L u).a.toNat <;> cases T (gt L u).b.toNat <;> simp <;> omega
/-- Teams that have too many points among them prove that a team cannot be first. -/
theorem elim_no {P : List Int} {L : List Pr} (g : ROK P L) {t goal : Int} (t0 : 0 ≤ t) (hg : goal = mostN P L t L.length) (T : Nat → Bool) (hT : sumN (fun k => if T k = true then goal else 0) P.length < sumN (fun k => if T k = true then gt P k else 0) P.length + inN T L L.length)
    {R : List Int} (hl : R.length = L.length) (hr : resOK R) : ∃ k, k < P.length ∧ gt (playN P L R L.length) t.toNat < gt (playN P L R L.length) k := by
  refine Classical.byContradiction fun hn => ?_
  have h1 := play_in g hl hr T L.length (Nat.le_refl _)
  have h2 := play_goal g hl hr t0 L.length (Nat.le_refl _)
  have h3 : sumN (fun k => if T k = true then gt (playN P L R L.length) k else 0) P.length ≤ sumN (fun k => if T k = true then goal else 0) P.length := sumN_le _ fun k hk => by
    have : ¬ gt (playN P L R L.length) t.toNat < gt (playN P L R L.length) k := fun hh => hn ⟨k, hk, hh⟩
    split <;> omega
  omega
end Go.Proofs.Ytdicnojnkbmdlaa
end
section
set_option linter.unusedVariables false
namespace Go.Proofs.Ytdicnojnkbmdlaa
open Go Go.Am

/-! How an edge is gone: its number + 1, or below 0 if against its direction; 0: none. -/
def ixE (c : Int) : Nat := if 0 < c then (c - 1).toNat else (-c - 1).toNat
def decE (c : Int) : Int := if 0 < c then c - 1 else if c < 0 then -c - 1 else 0
abbrev arcC (c : Int) : List AV := [AV.i (decE c), .v (.bool (decide (c < 0)))]
theorem arc_fwd (u : Nat) : arcC ((u : Int) + 1) = [AV.i u, .v (.bool false)] := by
  simp only [arcC, decE, List.cons.injEq, and_true]
  rw [if_pos (by omega), decide_eq_false (by omega)]
  exact ⟨by congr 2; omega, rfl⟩
theorem arc_back (u : Nat) : arcC (-(u : Int) - 1) = [AV.i u, .v (.bool true)] := by
  simp only [arcC, decE, List.cons.injEq, and_true]
  rw [if_neg (by omega), if_pos (by omega), decide_eq_true (by omega)]
  exact ⟨by congr 2; omega, rfl⟩
def flatA (l : List Int) : List AV := (l.map arcC).flatten
abbrev arcsAV (l : List Int) : AV := .sl l.length (flatA l)
theorem flatA_len (l : List Int) : (flatA l).length = l.length * 2 := by
  induction l with
  | nil => rfl
  | cons s l ih => unfold flatA at ih ⊢; rw [List.map_cons, List.flatten_cons, List.length_append, ih]; simp; omega
theorem flatA_get : ∀ (l : List Int) (u k : Nat), u < l.length → k < 2 → (flatA l)[u * 2 + k]? = (arcC (gt l u))[k]?
  | [], u, k, h, _ => by simp at h
  | s :: l, 0, k, _, hk => by
    unfold flatA
    rw [List.map_cons, List.flatten_cons, Nat.zero_mul, Nat.zero_add, List.getElem?_append_left (by simpa using hk)]
    rfl
  | s :: l, u + 1, k, h, hk => by
    have ih := flatA_get l u k (by simpa using h) hk
    unfold flatA at ih ⊢
    rw [List.map_cons, List.flatten_cons, List.getElem?_append_right (by simp; omega)]
    rw [show (u + 1) * 2 + k - (arcC s).length = u * 2 + k by simp; omega, ih]
    rfl
theorem ld_arc (l : List Int) (u : Nat) (h : u < l.length) : partL { size := 2, bytes := 16, agg := true, k := TyK.struct [(0, 3), (1, 4)], zero := some [.int .i64 0, .bool false] } (flatA l) (u * 2) = some (.agg (arcC (gt l u))) := by
  rw [pl71 _ _ (by rw [flatA_len]; omega)]
  congr 2
  apply List.ext_getElem?
  intro j
  rw [List.getElem?_take, List.getElem?_drop]
  by_cases hj : j < 2
  · rw [if_pos hj, flatA_get l u j h hj]
  · rw [if_neg hj, List.getElem?_eq_none (by simp; omega)]
theorem flatA_set : ∀ (l : List Int) (u : Nat) (c : Int), u < l.length → setL (flatA l) (u * 2) (arcC c) = flatA (l.set u c)
  | [], u, c, h => by simp at h
  | s :: l, 0, c, _ => rfl
  | s :: l, u + 1, c, h => by
    have ih := flatA_set l u c (by simpa using h)
    have e : flatA (s :: l) = AV.i (decE s) :: .v (.bool (decide (s < 0))) :: flatA l := rfl
    have e2 : flatA ((s :: l).set (u + 1) c) = AV.i (decE s) :: .v (.bool (decide (s < 0))) :: flatA (l.set u c) := rfl
    rw [e, e2, ← ih, show (u + 1) * 2 = u * 2 + 1 + 1 by omega]
    rfl
attribute [go_sem] ld_arc

theorem flatA_ren (g : Nat → Nat) (N : Nat) : (flatA (List.replicate N 0)).map (ren g 8) = flatA (List.replicate N 0) := by
  induction N with
  | zero => rfl
  | succ N ih =>
    have e : flatA (List.replicate (N + 1) 0) = arcC 0 ++ flatA (List.replicate N 0) := rfl
    rw [e, List.map_append, ih]
    rfl
structure BS where
  seen : List Bool
  way : List Int
  q : List Int
def pushS (st : BS) (x c : Int) : BS := ⟨st.seen.set x.toNat true, st.way.set x.toNat c, st.q ++ [x]⟩
/-- One edge, from the node v. -/
def stepE (E : List Ed) (f : List Int) (v : Int) (i : Nat) (st : BS) : BS :=
  if (gt E i).b = v then (if gt st.seen (gt E i).a.toNat = false ∧ 0 < gt f i then pushS st (gt E i).a (-(i : Int) - 1) else st)
  else if (gt E i).a = v then (if gt st.seen (gt E i).b.toNat = false ∧ gt f i < (gt E i).c then pushS st (gt E i).b ((i : Int) + 1) else st)
  else st
def scanN (E : List Ed) (f : List Int) (v : Int) (st : BS) : Nat → BS
  | 0 => st
  | u + 1 => stepE E f v u (scanN E f v st u)
def bfs (E : List Ed) (f : List Int) : Nat → BS → BS
  | 0, st => st
  | k + 1, st => match st.q with | [] => st | v :: r => bfs E f k (scanN E f v ⟨st.seen, st.way, r⟩ E.length)
def st0 (n s : Int) : BS := ⟨(List.replicate n.toNat false).set s.toNat true, List.replicate n.toNat 0, [s]⟩
def reachS (n s : Int) (E : List Ed) (f : List Int) : BS := bfs E f n.toNat (st0 n s)
def meas (st : BS) : Nat := st.seen.countP (fun b => !b) + st.q.length
structure SOK (n : Int) (st : BS) : Prop where
  seen : st.seen.length = n.toNat
  way : st.way.length = n.toNat
  q : ∀ x, x ∈ st.q → 0 ≤ x ∧ x < n
theorem push_ok {n : Int} {st : BS} {x c : Int} (so : SOK n st) (h0 : 0 ≤ x) (h1 : x < n) (hs : gt st.seen x.toNat = false) : SOK n (pushS st x c) ∧ meas (pushS st x c) = meas st := by
  refine ⟨⟨by simp [pushS, so.seen], by simp [pushS, so.way], fun y hy => ?_⟩, ?_⟩
  · simp only [pushS, List.mem_append, List.mem_singleton] at hy
    rcases hy with hy | rfl
    · exact so.q y hy
    · exact ⟨h0, h1⟩
  · have hl : x.toNat < st.seen.length := by rw [so.seen]; omega
    have hg : st.seen[x.toNat] = false := by rw [← gt_eq _ _ hl]; exact hs
    have hp : 0 < st.seen.countP (fun b => !b) := List.countP_pos_iff.2 ⟨false, by rw [← hg]; exact List.getElem_mem _, rfl⟩
    simp only [meas, pushS, List.length_append, List.length_cons, List.length_nil]
    rw [List.countP_set hl, hg]
    simp
    omega
theorem step_ok {n s t : Int} {E : List Ed} {f : List Int} (g : GOK n s t E) {v : Int} {u : Nat} (hu : u < E.length) {st : BS} (so : SOK n st) : SOK n (stepE E f v u st) ∧ meas (stepE E f v u st) = meas st := by
  have he := g.ed u hu
  unfold stepE
  split
  · split
    · rename_i h; exact push_ok so (by omega) (by omega) h.1
    · exact ⟨so, rfl⟩
  · split
    · split
      · rename_i h; exact push_ok so (by omega) (by omega) h.1
      · exact ⟨so, rfl⟩
    · exact ⟨so, rfl⟩
theorem scan_ok' {n s t : Int} {E : List Ed} {f : List Int} (g : GOK n s t E) {v : Int} {st : BS} (so : SOK n st) : ∀ u, u ≤ E.length → SOK n (scanN E f v st u) ∧ meas (scanN E f v st u) = meas st
  | 0, _ => ⟨so, rfl⟩
  | u + 1, h => by
    have ih := scan_ok' g so u (by omega) (f := f) (v := v)
    have := step_ok g (f := f) (v := v) (show u < E.length by omega) ih.1
    exact ⟨this.1, this.2.trans ih.2⟩
theorem rep_false (N : Nat) : (List.replicate N false).countP (fun b => !b) = N := by
  induction N with
  | zero => rfl
  | succ N ih => rw [List.replicate_succ, List.countP_cons, ih]; rfl
theorem st0_ok {n s t : Int} {E : List Ed} (g : GOK n s t E) : SOK n (st0 n s) ∧ meas (st0 n s) = n.toNat := by
  have h1 := g.s0
  have h2 := g.s1
  refine ⟨⟨by simp [st0], by simp [st0], fun x hx => ?_⟩, ?_⟩
  · simp only [st0, List.mem_singleton] at hx
    omega
  · have hl : s.toNat < (List.replicate n.toNat false).length := by simp; omega
    simp only [meas, st0]
    rw [List.countP_set hl, rep_false]
    simp
    omega
theorem pop_ok {n : Int} {seen : List Bool} {way : List Int} {v : Int} {r : List Int} (so : SOK n ⟨seen, way, v :: r⟩) : SOK n ⟨seen, way, r⟩ ∧ 0 ≤ v ∧ v < n ∧ meas ⟨seen, way, v :: r⟩ = meas ⟨seen, way, r⟩ + 1 :=
  ⟨⟨so.seen, so.way, fun x hx => so.q x (List.mem_cons_of_mem _ hx)⟩, (so.q v (List.mem_cons_self ..)).1, (so.q v (List.mem_cons_self ..)).2, by simp [meas]; omega⟩
/-- The queue, as a part of a block. -/
theorem q_pop {st : BS} {Q : List Int} {o : Nat} (hd : Q.drop o = st.q) (hl : o + st.q.length = Q.length) (hp : 0 < st.q.length) : st = ⟨st.seen, st.way, gt Q o :: Q.drop (o + 1)⟩ ∧ o < Q.length ∧ (Q.drop (o + 1)).length = Q.length - (o + 1) := by
  have h : o < Q.length := by omega
  refine ⟨?_, h, by simp⟩
  rw [← drop_gt Q o h, hd]
theorem bfs_pop {E : List Ed} {f : List Int} {k : Nat} {seen : List Bool} {way : List Int} {v : Int} {r : List Int} : bfs E f (k + 1) ⟨seen, way, v :: r⟩ = bfs E f k (scanN E f v ⟨seen, way, r⟩ E.length) := rfl
theorem bfs_end {E : List Ed} {f : List Int} {st : BS} (h : st.q.length = 0) : ∀ k, bfs E f k st = st
  | 0 => rfl
  | k + 1 => by
    have : st.q = [] := List.length_eq_zero_iff.1 h
    unfold bfs
    rw [this]
/-- How much more may go. -/
def roomV (E : List Ed) (f : List Int) (e : Int) (back : Bool) : Int := if back then gt f e.toNat else (gt E e.toNat).c - gt f e.toNat
theorem setL_b (l : List Bool) (w : Nat) (x : Bool) : setL (l.map AV.b) w [.v (.bool x)] = (l.set w x).map AV.b := by
  rw [setL_one, List.map_set]
theorem ms28 (lim : Nat) (H : Heap) (n : Int) (x y : Operand) (ev : Operand → AV) (h0 : 0 ≤ n) (hn : n ≤ 1000000) (h : ev x = AV.i n) (h' : ev y = AV.i n) :
    effV Try.prog lim (.makeSlice 28 x y) ev H = some (.own 1 H.length 0 n.toNat, H ++ [some ((List.replicate n.toNat false).map AV.b)]) := by
  simp only [effV, tk28, ty4, h, h']
  rw [if_pos ⟨rfl, by decide, by omega, by omega, by omega, by omega⟩]
  have key : ∀ k, (List.replicate k ([Value.bool false].map AV.v)).flatten = (List.replicate k false).map AV.b := by
    intro k
    induction k with
    | zero => rfl
    | succ k ih => rw [List.replicate_succ, List.flatten_cons, ih, List.replicate_succ]; rfl
  rw [key]
theorem ms40 (lim : Nat) (H : Heap) (n : Int) (x y : Operand) (ev : Operand → AV) (h0 : 0 ≤ n) (hn : n ≤ 1000000) (h : ev x = AV.i n) (h' : ev y = AV.i n) :
    effV Try.prog lim (.makeSlice 40 x y) ev H = some (.own 1 H.length 0 n.toNat, H ++ [some ((List.replicate n.toNat (0 : Int)).map AV.i)]) := by
  simp only [effV, tk40, ty3, h, h']
  rw [if_pos ⟨rfl, by decide, by omega, by omega, by omega, by omega⟩]
  have key : ∀ k, (List.replicate k ([Value.int .i64 0].map AV.v)).flatten = (List.replicate k (0 : Int)).map AV.i := by
    intro k
    induction k with
    | zero => rfl
    | succ k ih => rw [List.replicate_succ, List.flatten_cons, ih, List.replicate_succ]; rfl
  rw [key]
theorem ms67 (lim : Nat) (H : Heap) (n : Int) (x y : Operand) (ev : Operand → AV) (h0 : 0 ≤ n) (hn : n ≤ 1000000) (h : ev x = AV.i n) (h' : ev y = AV.i n) :
    effV Try.prog lim (.makeSlice 67 x y) ev H = some (.own 2 H.length 0 n.toNat, H ++ [some (flatA (List.replicate n.toNat 0))]) := by
  simp only [effV, tk67, ty71, h, h']
  rw [if_pos ⟨rfl, by decide, by omega, by omega, by omega, by omega⟩]
  have key : ∀ k, (List.replicate k ([Value.int .i64 0, Value.bool false].map AV.v)).flatten = flatA (List.replicate k 0) := by
    intro k
    induction k with
    | zero => rfl
    | succ k ih => rw [List.replicate_succ, List.flatten_cons, ih, List.replicate_succ]; rfl
  rw [key]
theorem bs40 (lim : Nat) (H : Heap) (x : Operand) (ev : Operand → AV) (v : Int) (h : ev x = AV.i v) :
    effV Try.prog lim (.buildSlice 40 1 #[(0, x)]) ev H = some (.own 1 H.length 0 1, H ++ [some [AV.i v]]) := by
  simp only [effV, tk40, ty3]
  rw [if_pos ⟨rfl, by decide, by decide⟩]
  simp only [List.map_cons, List.map_nil, h]
  rfl
theorem sl40 (b o m m' : Nat) (h : m = m' + 1) : sliceV Try.prog 40 (.own 1 b o m) (some (AV.i 1)) none = some (.own 1 b (o + 1) m') := by
  simp only [sliceV, tk40, ty3, bound]
  rw [if_pos ⟨trivial, by omega, by omega, by omega⟩]
  simp
  omega
theorem bld71 (u : Int) (b : Bool) : buildV Try.prog 71 [(0, AV.i u), (1, .v (.bool b))] = some (.agg [AV.i u, .v (.bool b)]) := by
  simp only [buildV, ty71, places, ty3, ty4]
  rfl
attribute [go_sem] bld71
theorem frz_ownA {H : Heap} {base d b n : Nat} {l : List Int} (hb : ¬ b < base) (hk : hget H b = some (flatA l)) (hn : n = l.length) : frz H base (d + 2) (.own 2 b 0 n) = arcsAV l := by
  rw [frz_own hb hk, List.drop_zero, hn]
  have : (flatA l).map (frz H base (d + 1)) = flatA l := by
    induction l with
    | nil => rfl
    | cons x l ih =>
      have e : flatA (x :: l) = arcC x ++ flatA l := rfl
      rw [e, List.map_append]
      congr 1
      induction l with
      | nil => rfl
      | cons y r ih2 =>
        have e2 : flatA (y :: r) = arcC y ++ flatA r := rfl
        rw [e2, List.map_append]
        congr 1
        clear ih ih2 e e2 hk hn
        induction r with
        | nil => rfl
        | cons z r ih => exact congrArg (arcC z ++ ·) ih
  rw [this]
/-- What a queue that is not empty gives. -/
theorem q_pop' {n : Int} {k o : Nat} {E : List Ed} {f : List Int} {st R : BS} {Q : List Int} (so : SOK n st) (hk : meas st ≤ k) (hb : bfs E f k st = R) (hd : Q.drop o = st.q) (hl : o + st.q.length = Q.length) (hp : 0 < st.q.length) :
    ∃ k', k = k' + 1 ∧ o < Q.length ∧ st.q.length = (Q.drop (o + 1)).length + 1 ∧ SOK n ⟨st.seen, st.way, Q.drop (o + 1)⟩ ∧ meas ⟨st.seen, st.way, Q.drop (o + 1)⟩ ≤ k' ∧ 0 ≤ gt Q o ∧ gt Q o < n ∧
      bfs E f k' (scanN E f (gt Q o) ⟨st.seen, st.way, Q.drop (o + 1)⟩ E.length) = R := by
  obtain ⟨h1, h2, h3⟩ := q_pop hd hl hp
  obtain ⟨seen, way, q⟩ := st
  simp only at h1 hl hp hd
  injection h1 with _ _ h1
  subst h1
  have p := pop_ok so
  rw [p.2.2.2] at hk
  cases k with
  | zero => omega
  | succ k => exact ⟨k, rfl, h2, rfl, p.1, Nat.le_of_succ_le_succ hk, p.2.1, p.2.2.1, hb⟩
theorem app40 {lim : Nat} {H : Heap} {b o m c : Nat} {Q : List Int} {v : Int} (hq : hget H b = some (Q.map AV.i)) (hc : hget H c = some [AV.i v]) (hl : lim ≤ b) (ho : o + m = Q.length) (hm : m ≤ 1000000) :
    ∃ H', appendV Try.prog lim H 40 (.own 1 b o m) (.own 1 c 0 1) = some (.own 1 H.length 0 (m + 1), H') ∧ MGrew H b H' ((Q.drop o ++ [v]).map AV.i) := by
  refine ⟨_, ?_, MGrew.of _ _ _⟩
  simp only [appendV, tk40, ty3, srcCells, hq, hc]
  rw [if_pos (by simp)]
  simp only [List.length_cons, List.length_nil]
  rw [if_pos ⟨trivial, by decide, rfl⟩]
  simp only [List.drop_zero, Nat.mul_one, List.length_map]
  rw [if_pos ⟨hl, trivial, by omega, by omega, by omega⟩]
  congr 3
  rw [List.take_of_length_le (by simp; omega)]
  simp [List.map_drop]
end Go.Proofs.Ytdicnojnkbmdlaa
end
section
set_option linter.unusedVariables false
namespace Go.Proofs.Ytdicnojnkbmdlaa
open Go Go.Am

def tailE (E : List Ed) (c : Int) : Int := if 0 < c then (gt E (ixE c)).a else (gt E (ixE c)).b
def headE (E : List Ed) (c : Int) : Int := if 0 < c then (gt E (ixE c)).b else (gt E (ixE c)).a
def roomI (E : List Ed) (f : List Int) (c : Int) : Int := if 0 < c then (gt E (ixE c)).c - gt f (ixE c) else gt f (ixE c)
structure ArcOK (E : List Ed) (f : List Int) (c : Int) : Prop where
  nz : c ≠ 0
  ix : ixE c < E.length
  room : 0 < roomI E f c
theorem ix_fwd (u : Nat) : ixE ((u : Int) + 1) = u := by rw [ixE, if_pos (by omega)]; omega
theorem ix_back (u : Nat) : ixE (-(u : Int) - 1) = u := by rw [ixE, if_neg (by omega)]; omega
theorem gt_app {α : Type} [Inhabited α] (l m : List α) (k : Nat) (h : k < l.length) : gt (l ++ m) k = gt l k := by
  simp [gt, List.getD_eq_getElem?_getD, List.getElem?_append_left h]
theorem gt_last {α : Type} [Inhabited α] (l : List α) (x : α) : gt (l ++ [x]) l.length = x := by
  simp [gt, List.getD_eq_getElem?_getD]
structure RInv (n s : Int) (E : List Ed) (f : List Int) (st : BS) (ord : List Int) : Prop where
  hd : gt ord 0 = s
  pos : 0 < ord.length
  rng : ∀ k, k < ord.length → 0 ≤ gt ord k ∧ gt ord k < n
  seen : ∀ v, 0 ≤ v → v < n → (gt st.seen v.toNat = true ↔ ∃ k, k < ord.length ∧ gt ord k = v)
  inj : ∀ j k, j < ord.length → k < ord.length → gt ord j = gt ord k → j = k
  arc : ∀ k, 0 < k → k < ord.length → ArcOK E f (gt st.way (gt ord k).toNat) ∧ headE E (gt st.way (gt ord k).toNat) = gt ord k ∧ ∃ j, j < k ∧ tailE E (gt st.way (gt ord k).toNat) = gt ord j
theorem push_inv {n s : Int} {E : List Ed} {f : List Int} {st : BS} {ord : List Int} {x c : Int} (so : SOK n st) (R : RInv n s E f st ord) (h0 : 0 ≤ x) (h1 : x < n) (hs : gt st.seen x.toNat = false)
    (ha : ArcOK E f c) (hh : headE E c = x) {j : Nat} (hj : j < ord.length) (ht : tailE E c = gt ord j) : RInv n s E f (pushS st x c) (ord ++ [x]) := by
  have new : ∀ k, k < ord.length → gt ord k ≠ x := fun k hk hx => by
    have := (R.seen x h0 h1).2 ⟨k, hk, hx⟩
    rw [hs] at this; cases this
  have hl : (ord ++ [x]).length = ord.length + 1 := by simp
  have cas : ∀ k, k < ord.length + 1 → k < ord.length ∧ gt (ord ++ [x]) k = gt ord k ∨ k = ord.length ∧ gt (ord ++ [x]) k = x := fun k hk => by
    by_cases h : k < ord.length
    · exact .inl ⟨h, gt_app _ _ _ h⟩
    · have : k = ord.length := by omega
      subst this
      exact .inr ⟨rfl, gt_last _ _⟩
  have hw : ∀ y, 0 ≤ y → y < n → gt (pushS st x c).way y.toNat = if x = y then c else gt st.way y.toNat := fun y hy0 hy1 => by
    rw [pushS, gt_set _ _ _ _ (by rw [so.way]; omega)]
    by_cases hxy : x = y
    · rw [if_pos hxy, if_pos (by rw [hxy])]
    · rw [if_neg hxy, if_neg (by omega)]
  have hsn : ∀ y, 0 ≤ y → y < n → gt (pushS st x c).seen y.toNat = if x = y then true else gt st.seen y.toNat := fun y hy0 hy1 => by
    rw [pushS, gt_set _ _ _ _ (by rw [so.seen]; omega)]
    by_cases hxy : x = y
    · rw [if_pos hxy, if_pos (by rw [hxy])]
    · rw [if_neg hxy, if_neg (by omega)]
  refine ⟨by rw [gt_app _ _ _ R.pos]; exact R.hd, by omega, fun k hk => ?_, fun v hv0 hv1 => ?_, fun i k hi hk h => ?_, fun k hk0 hk => ?_⟩
  · rcases cas k (by omega) with ⟨h2, h3⟩ | ⟨h2, h3⟩ <;> rw [h3]
    · exact R.rng k h2
    · exact ⟨h0, h1⟩
  · rw [hsn v hv0 hv1]
    by_cases hxv : x = v
    · rw [if_pos hxv]
      exact ⟨fun _ => ⟨ord.length, by omega, by rw [gt_last, hxv]⟩, fun _ => rfl⟩
    · rw [if_neg hxv, R.seen v hv0 hv1]
      constructor
      · rintro ⟨k, hk, hkv⟩
        exact ⟨k, by omega, by rw [gt_app _ _ _ hk, hkv]⟩
      · rintro ⟨k, hk, hkv⟩
        rcases cas k (by omega) with ⟨h2, h3⟩ | ⟨h2, h3⟩
        · exact ⟨k, h2, by rw [← h3, hkv]⟩
        · exact absurd (h3.symm.trans hkv) hxv
  · rcases cas i (by omega) with ⟨h2, h3⟩ | ⟨h2, h3⟩ <;> rcases cas k (by omega) with ⟨h4, h5⟩ | ⟨h4, h5⟩ <;> rw [h3, h5] at h
    · exact R.inj i k h2 h4 h
    · exact absurd h (new i h2)
    · exact absurd h.symm (new k h4)
    · omega
  · rcases cas k (by omega) with ⟨h2, h3⟩ | ⟨h2, h3⟩ <;> rw [h3]
    · have hr := R.rng k h2
      rw [hw _ hr.1 hr.2, if_neg (fun h => new k h2 h.symm)]
      obtain ⟨a1, a2, i, a3, a4⟩ := R.arc k hk0 h2
      exact ⟨a1, a2, i, a3, by rw [gt_app _ _ _ (by omega)]; exact a4⟩
    · rw [hw x h0 h1, if_pos rfl]
      exact ⟨ha, hh, j, by omega, by rw [gt_app _ _ _ hj]; exact ht⟩
/-- What is reached from a node is seen, as far as one edge goes. -/
def clos1 (E : List Ed) (f : List Int) (seen : List Bool) (v : Int) (i : Nat) : Prop :=
  ((gt E i).a = v → gt f i < (gt E i).c → gt seen (gt E i).b.toNat = true) ∧ ((gt E i).b = v → 0 < gt f i → gt seen (gt E i).a.toNat = true)
theorem seen_mono {st : BS} {x c : Int} {w : Nat} (h : gt st.seen w = true) : gt (pushS st x c).seen w = true := by
  unfold pushS
  by_cases hx : x.toNat < st.seen.length
  · rw [gt_set _ _ _ _ hx]
    split
    · rfl
    · exact h
  · rw [List.set_eq_of_length_le (by omega)]; exact h
theorem step_inv {n s t : Int} {E : List Ed} {f : List Int} (g : GOK n s t E) {v : Int} {u : Nat} (hu : u < E.length) {st : BS} {ord : List Int} {p : Nat} (so : SOK n st) (R : RInv n s E f st ord) (hq : st.q = ord.drop (p + 1)) (hp : p < ord.length) (hv : gt ord p = v) :
    ∃ e, RInv n s E f (stepE E f v u st) (ord ++ e) ∧ (stepE E f v u st).q = (ord ++ e).drop (p + 1) ∧ (∀ w, gt st.seen w = true → gt (stepE E f v u st).seen w = true) ∧ clos1 E f (stepE E f v u st).seen v u := by
  have he := g.ed u hu
  have none : ∀ {st' : BS}, st' = st → clos1 E f st.seen v u → ∃ e, RInv n s E f st' (ord ++ e) ∧ st'.q = (ord ++ e).drop (p + 1) ∧ (∀ w, gt st.seen w = true → gt st'.seen w = true) ∧ clos1 E f st'.seen v u := by
    rintro _ rfl hc
    exact ⟨[], by rw [List.append_nil]; exact R, by rw [List.append_nil]; exact hq, fun _ h => h, hc⟩
  have app : ∀ x, (ord ++ [x]).drop (p + 1) = ord.drop (p + 1) ++ [x] := fun x => by rw [List.drop_append_of_le_length (by omega)]
  unfold stepE
  by_cases hb : (gt E u).b = v
  · rw [if_pos hb]
    by_cases hc : gt st.seen (gt E u).a.toNat = false ∧ 0 < gt f u
    · rw [if_pos hc]
      have hset : gt (pushS st (gt E u).a (-(u : Int) - 1)).seen (gt E u).a.toNat = true := by rw [pushS, gt_set _ _ _ _ (by rw [so.seen]; omega), if_pos rfl]
      refine ⟨[(gt E u).a], push_inv so R (by omega) (by omega) hc.1 ⟨by omega, by rw [ix_back]; exact hu, by rw [roomI, if_neg (by omega), ix_back]; exact hc.2⟩ (by rw [headE, if_neg (by omega), ix_back]) hp (by rw [tailE, if_neg (by omega), ix_back, hb, hv]), by rw [app]; simp only [pushS, hq], fun w hw => seen_mono hw, ?_, fun _ _ => hset⟩
      intro h
      exact absurd (h.trans hb.symm) he.2.2.2.2.1
    · rw [if_neg hc]
      refine none rfl ⟨fun h => absurd (h.trans hb.symm) he.2.2.2.2.1, fun _ h0 => ?_⟩
      cases hx : gt st.seen (gt E u).a.toNat with
      | true => rfl
      | false => exact absurd ⟨hx, h0⟩ hc
  · rw [if_neg hb]
    by_cases ha : (gt E u).a = v
    · rw [if_pos ha]
      by_cases hc : gt st.seen (gt E u).b.toNat = false ∧ gt f u < (gt E u).c
      · rw [if_pos hc]
        have hset : gt (pushS st (gt E u).b ((u : Int) + 1)).seen (gt E u).b.toNat = true := by rw [pushS, gt_set _ _ _ _ (by rw [so.seen]; omega), if_pos rfl]
        exact ⟨[(gt E u).b], push_inv so R (by omega) (by omega) hc.1 ⟨by omega, by rw [ix_fwd]; exact hu, by rw [roomI, if_pos (by omega), ix_fwd]; omega⟩ (by rw [headE, if_pos (by omega), ix_fwd]) hp (by rw [tailE, if_pos (by omega), ix_fwd, ha, hv]), by rw [app]; simp only [pushS, hq], fun w hw => seen_mono hw, fun _ _ => hset, fun h => absurd h hb⟩
      · rw [if_neg hc]
        refine none rfl ⟨fun _ h0 => ?_, fun h => absurd h hb⟩
        cases hx : gt st.seen (gt E u).b.toNat with
        | true => rfl
        | false => exact absurd ⟨hx, h0⟩ hc
    · rw [if_neg ha]
      exact none rfl ⟨fun h => absurd h ha, fun h => absurd h hb⟩
theorem clos_mono {E : List Ed} {f : List Int} {a b : List Bool} {v : Int} {i : Nat} (h : clos1 E f a v i) (hm : ∀ w, gt a w = true → gt b w = true) : clos1 E f b v i :=
  ⟨fun h1 h2 => hm _ (h.1 h1 h2), fun h1 h2 => hm _ (h.2 h1 h2)⟩
theorem scan_inv {n s t : Int} {E : List Ed} {f : List Int} (g : GOK n s t E) {v : Int} {st : BS} {ord : List Int} {p : Nat} (so : SOK n st) (R : RInv n s E f st ord) (hq : st.q = ord.drop (p + 1)) (hp : p < ord.length) (hv : gt ord p = v) :
    ∀ u, u ≤ E.length → ∃ e, RInv n s E f (scanN E f v st u) (ord ++ e) ∧ (scanN E f v st u).q = (ord ++ e).drop (p + 1) ∧ (∀ w, gt st.seen w = true → gt (scanN E f v st u).seen w = true) ∧ ∀ i, i < u → clos1 E f (scanN E f v st u).seen v i
  | 0, _ => ⟨[], by rw [List.append_nil]; exact R, by rw [List.append_nil]; exact hq, fun _ h => h, fun i hi => by omega⟩
  | u + 1, h => by
    obtain ⟨e, r1, r2, r3, r4⟩ := scan_inv g so R hq hp hv u (by omega)
    obtain ⟨e', s1, s2, s3, s4⟩ := step_inv (v := v) g (show u < E.length by omega) (scan_ok' g so u (by omega)).1 r1 r2 (by rw [List.length_append]; omega) (by rw [gt_app _ _ _ hp]; exact hv)
    refine ⟨e ++ e', by rw [← List.append_assoc]; exact s1, by rw [← List.append_assoc]; exact s2, fun w hw => s3 w (r3 w hw), fun i hi => ?_⟩
    by_cases hiu : i < u
    · exact clos_mono (r4 i hiu) s3
    · have : i = u := by omega
      subst this
      exact s4
theorem bfs_inv {n s t : Int} {E : List Ed} {f : List Int} (g : GOK n s t E) : ∀ (k : Nat) (st : BS) (ord : List Int) (p : Nat), SOK n st → RInv n s E f st ord → st.q = ord.drop p → p ≤ ord.length → meas st ≤ k → (∀ j, j < p → ∀ i, i < E.length → clos1 E f st.seen (gt ord j) i) →
    ∃ ord', SOK n (bfs E f k st) ∧ RInv n s E f (bfs E f k st) ord' ∧ ∀ j, j < ord'.length → ∀ i, i < E.length → clos1 E f (bfs E f k st).seen (gt ord' j) i := by
  have stop : ∀ (k : Nat) (st : BS) (ord : List Int) (p : Nat), SOK n st → RInv n s E f st ord → st.q = ord.drop p → p ≤ ord.length → st.q.length = 0 → (∀ j, j < p → ∀ i, i < E.length → clos1 E f st.seen (gt ord j) i) →
      ∃ ord', SOK n (bfs E f k st) ∧ RInv n s E f (bfs E f k st) ord' ∧ ∀ j, j < ord'.length → ∀ i, i < E.length → clos1 E f (bfs E f k st).seen (gt ord' j) i := by
    intro k st ord p so R hq hp h0 hc
    rw [bfs_end h0]
    rw [hq, List.length_drop] at h0
    exact ⟨ord, so, R, fun j hj => hc j (by omega)⟩
  intro k
  induction k with
  | zero =>
    intro st ord p so R hq hp hm hc
    exact stop 0 st ord p so R hq hp (by unfold meas at hm; omega) hc
  | succ k ih =>
    intro st ord p so R hq hp hm hc
    by_cases h0 : st.q.length = 0
    · exact stop _ st ord p so R hq hp h0 hc
    · have hpl : p < ord.length := by rw [hq, List.length_drop] at h0; omega
      obtain ⟨seen, way, q⟩ := st
      simp only at hq
      rw [drop_gt ord p hpl] at hq
      subst hq
      have pp := pop_ok so
      rw [pp.2.2.2] at hm
      rw [bfs_pop]
      have R1 : RInv n s E f ⟨seen, way, ord.drop (p + 1)⟩ ord := ⟨R.hd, R.pos, R.rng, R.seen, R.inj, R.arc⟩
      obtain ⟨e, r1, r2, r3, r4⟩ := scan_inv g pp.1 R1 rfl hpl rfl E.length (Nat.le_refl _)
      have sk := scan_ok' g (f := f) (v := gt ord p) pp.1 E.length (Nat.le_refl _)
      refine ih _ (ord ++ e) (p + 1) sk.1 r1 r2 (by simp; omega) (by rw [sk.2]; exact Nat.le_of_succ_le_succ hm) fun j hj i hi => ?_
      rw [gt_app _ _ _ (by omega)]
      by_cases hjp : j < p
      · exact clos_mono (hc j hjp i hi) r3
      · have : j = p := by omega
        subst this
        exact r4 i hi
theorem rep_gt (N j : Nat) : gt (List.replicate N false) j = false := by
  unfold gt
  rw [List.getD_eq_getElem?_getD, List.getElem?_replicate]
  split <;> rfl
theorem reach_inv {n s t : Int} {E : List Ed} (f : List Int) (g : GOK n s t E) : ∃ ord, SOK n (reachS n s E f) ∧ RInv n s E f (reachS n s E f) ord ∧ ∀ j, j < ord.length → ∀ i, i < E.length → clos1 E f (reachS n s E f).seen (gt ord j) i := by
  have h0 := st0_ok g
  have h1 := g.s0
  have h2 := g.s1
  refine bfs_inv g _ _ [s] 0 h0.1 ⟨rfl, by simp, fun k hk => ?_, fun v hv0 hv1 => ?_, fun j k hj hk _ => ?_, fun k hk0 hk => ?_⟩ rfl (by simp) (Nat.le_of_eq h0.2) (fun j hj => by omega)
  · have : k = 0 := by simp at hk; omega
    subst this
    exact ⟨h1, h2⟩
  · rw [st0, gt_set _ _ _ _ (by simp; omega), rep_gt]
    by_cases hsv : s = v
    · rw [if_pos (by rw [hsv])]
      exact ⟨fun _ => ⟨0, by simp, hsv⟩, fun _ => rfl⟩
    · rw [if_neg (by omega)]
      refine ⟨fun h => by simp at h, ?_⟩
      rintro ⟨k, hk, hkv⟩
      have : k = 0 := by simp at hk; omega
      subst this
      exact absurd hkv hsv
  · simp at hj hk; omega
  · simp at hk; omega
end Go.Proofs.Ytdicnojnkbmdlaa
end
section
set_option linter.unusedVariables false
namespace Go.Proofs.Ytdicnojnkbmdlaa
open Go Go.Am

def TreeN (n s : Int) (E : List Ed) (f : List Int) (way : List Int) : Nat → Int → Prop
  | 0, v => v = s
  | k + 1, v => v ≠ s ∧ 0 ≤ v ∧ v < n ∧ ArcOK E f (gt way v.toNat) ∧ headE E (gt way v.toNat) = v ∧ TreeN n s E f way k (tailE E (gt way v.toNat))
def wayN (E : List Ed) (way : List Int) : Nat → Int → List Int
  | 0, _ => []
  | k + 1, v => gt way v.toNat :: wayN E way k (tailE E (gt way v.toNat))
theorem wayN_len {E : List Ed} {way : List Int} : ∀ (k : Nat) (v : Int), (wayN E way k v).length = k
  | 0, _ => rfl
  | k + 1, v => by rw [wayN, List.length_cons, wayN_len k]
theorem tree_uni {n s : Int} {E : List Ed} {f way : List Int} : ∀ {k m : Nat} {v : Int}, TreeN n s E f way k v → TreeN n s E f way m v → k = m
  | 0, 0, _, _, _ => rfl
  | 0, m + 1, v, h1, h2 => absurd h1 h2.1
  | k + 1, 0, v, h1, h2 => absurd h2 h1.1
  | k + 1, m + 1, v, h1, h2 => by rw [tree_uni h1.2.2.2.2.2 h2.2.2.2.2.2]
def posArc (E : List Ed) (ord : List Int) (k : Nat) (c : Int) : Prop := ∃ j i, i < j ∧ j ≤ k ∧ j < ord.length ∧ headE E c = gt ord j ∧ tailE E c = gt ord i
theorem tree_of {n s : Int} {E : List Ed} {f : List Int} {st : BS} {ord : List Int} (R : RInv n s E f st ord) : ∀ (k : Nat), k < ord.length →
    ∃ m, TreeN n s E f st.way m (gt ord k) ∧ ((wayN E st.way m (gt ord k)).map ixE).Nodup ∧ ∀ c, c ∈ wayN E st.way m (gt ord k) → posArc E ord k c ∧ ArcOK E f c := by
  intro k
  induction k using Nat.strongRecOn with
  | ind k ih =>
    intro hk
    by_cases h0 : k = 0
    · subst h0
      exact ⟨0, R.hd, by simp [wayN], fun c hc => by simp [wayN] at hc⟩
    · obtain ⟨a1, a2, i, a3, a4⟩ := R.arc k (by omega) hk
      obtain ⟨m, b1, b2, b3⟩ := ih i a3 (by omega)
      have hr := R.rng k hk
      have hs : gt ord k ≠ s := fun h => by
        have := R.inj k 0 hk R.pos (h.trans R.hd.symm)
        omega
      refine ⟨m + 1, ⟨hs, hr.1, hr.2, a1, a2, by rw [a4]; exact b1⟩, ?_, fun c hc => ?_⟩
      · rw [wayN, List.map_cons, List.nodup_cons, a4]
        refine ⟨fun hm => ?_, b2⟩
        obtain ⟨c, hc, hi⟩ := List.mem_map.1 hm
        obtain ⟨⟨j, l, q1, q2, q3, q4, q5⟩, _⟩ := b3 c hc
        generalize gt st.way (gt ord k).toNat = c0 at hi a1 a2 a4
        by_cases hp : 0 < c <;> by_cases hp0 : 0 < c0
        · have e : headE E c = headE E c0 := by rw [headE, headE, if_pos hp, if_pos hp0, hi]
          have := R.inj j k q3 hk (by rw [← q4, e, a2])
          omega
        · have e : headE E c = tailE E c0 := by rw [headE, tailE, if_pos hp, if_neg hp0, hi]
          have e2 : tailE E c = headE E c0 := by rw [headE, tailE, if_pos hp, if_neg hp0, hi]
          have := R.inj l k (by omega) hk (by rw [← q5, e2, a2])
          omega
        · have e : headE E c = tailE E c0 := by rw [headE, tailE, if_neg hp, if_pos hp0, hi]
          have e2 : tailE E c = headE E c0 := by rw [headE, tailE, if_neg hp, if_pos hp0, hi]
          have := R.inj l k (by omega) hk (by rw [← q5, e2, a2])
          omega
        · have e : headE E c = headE E c0 := by rw [headE, headE, if_neg hp, if_neg hp0, hi]
          have := R.inj j k q3 hk (by rw [← q4, e, a2])
          omega
      · rw [wayN, List.mem_cons, a4] at hc
        rcases hc with rfl | hc
        · exact ⟨⟨k, i, a3, Nat.le_refl _, hk, a2, a4⟩, a1⟩
        · obtain ⟨⟨j, l, q1, q2, q3, q4, q5⟩, q6⟩ := b3 c hc
          exact ⟨⟨j, l, q1, by omega, q3, q4, q5⟩, q6⟩
/-- The way along which a flow is raised. -/
structure WayOK (E : List Ed) (f : List Int) (w : List Int) : Prop where
  nd : (w.map ixE).Nodup
  arc : ∀ c, c ∈ w → ArcOK E f c
theorem tree_sink {n s t : Int} {E : List Ed} {f : List Int} (g : GOK n s t E) (h : gt (reachS n s E f).seen t.toNat = true) :
    ∃ m, TreeN n s E f (reachS n s E f).way m t ∧ WayOK E f (wayN E (reachS n s E f).way m t) := by
  obtain ⟨ord, so, R, _⟩ := reach_inv f g
  obtain ⟨k, hk, hkt⟩ := (R.seen t g.t0 g.t1).1 h
  obtain ⟨m, h1, h2, h3⟩ := tree_of R k hk
  rw [hkt] at h1 h2 h3
  exact ⟨m, h1, h2, fun c hc => (h3 c hc).2⟩
/-- The least room along a way. -/
def leastW (E : List Ed) (f : List Int) : Int → List Int → Int
  | m, [] => m
  | m, c :: r => leastW E f (min m (roomI E f c)) r
theorem least_le {E : List Ed} {f : List Int} : ∀ (w : List Int) (m : Int), leastW E f m w ≤ m ∧ ∀ c, c ∈ w → leastW E f m w ≤ roomI E f c
  | [], m => ⟨Int.le_refl _, fun c hc => by simp at hc⟩
  | c :: r, m => by
    have ih := least_le r (min m (roomI E f c)) (E := E) (f := f)
    unfold leastW
    refine ⟨?_, fun x hx => ?_⟩
    · have := ih.1
      omega
    · rcases List.mem_cons.1 hx with rfl | hx
      · have := ih.1
        omega
      · exact ih.2 x hx
theorem least_pos {E : List Ed} {f : List Int} : ∀ (w : List Int) (m : Int), 0 < m → (∀ c, c ∈ w → 0 < roomI E f c) → 0 < leastW E f m w
  | [], m, h, _ => h
  | c :: r, m, h, hr => by
    unfold leastW
    refine least_pos r _ ?_ fun x hx => hr x (List.mem_cons_of_mem _ hx)
    have := hr c (List.mem_cons_self ..)
    omega
theorem least_app {E : List Ed} {f : List Int} : ∀ (w : List Int) (m c : Int), leastW E f m (w ++ [c]) = min (leastW E f m w) (roomI E f c)
  | [], m, c => rfl
  | x :: r, m, c => by rw [List.cons_append]; unfold leastW; exact least_app r _ c
def addV (d : Int) (f : List Int) (c : Int) : Int := if 0 < c then gt f (ixE c) + d else gt f (ixE c) - d
def addE (d : Int) (f : List Int) (c : Int) : List Int := f.set (ixE c) (addV d f c)
def applyW (d : Int) : List Int → List Int → List Int
  | f, [] => f
  | f, c :: r => applyW d (addE d f c) r
theorem apply_app {d : Int} : ∀ (w : List Int) (f : List Int) (c : Int), applyW d f (w ++ [c]) = addE d (applyW d f w) c
  | [], f, c => rfl
  | x :: r, f, c => by rw [List.cons_append, applyW, applyW]; exact apply_app r _ c
theorem apply_len {d : Int} : ∀ (w : List Int) (f : List Int), (applyW d f w).length = f.length
  | [], f => rfl
  | x :: r, f => by rw [applyW, apply_len r, addE, List.length_set]
theorem addE_gt {d : Int} {f : List Int} {c : Int} (h : ixE c < f.length) (j : Nat) : gt (addE d f c) j = if ixE c = j then addV d f c else gt f j := by
  rw [addE, gt_set _ _ _ _ h]
theorem apply_rng {E : List Ed} {d : Int} (hd : 0 ≤ d) : ∀ (w : List Int) (f : List Int), f.length = E.length → fRng E f → (w.map ixE).Nodup → (∀ c, c ∈ w → ixE c < E.length ∧ d ≤ roomI E f c) → fRng E (applyW d f w)
  | [], f, _, hf, _, _ => hf
  | c :: r, f, hl, hf, hn, hw => by
    rw [List.map_cons, List.nodup_cons] at hn
    have hc := hw c (List.mem_cons_self ..)
    have hg := addE_gt (d := d) (f := f) (c := c) (by omega)
    unfold applyW
    refine apply_rng hd r _ (by rw [addE, List.length_set]; exact hl) (fun i hi => ?_) hn.2 fun x hx => ?_
    · rw [hg]
      have h1 := hf i hi
      by_cases hi2 : ixE c = i
      · rw [if_pos hi2]
        have h2 := hc.2
        unfold roomI at h2
        unfold addV
        split
        · rw [if_pos (by assumption)] at h2
          rw [hi2] at h2 ⊢
          omega
        · rw [if_neg (by assumption)] at h2
          rw [hi2] at h2 ⊢
          omega
      · rw [if_neg hi2]; exact h1
    · have hx2 := hw x (List.mem_cons_of_mem _ hx)
      have hne : ixE c ≠ ixE x := fun h => hn.1 (List.mem_map.2 ⟨x, hx, h.symm⟩)
      refine ⟨hx2.1, ?_⟩
      have : roomI E (addE d f c) x = roomI E f x := by
        unfold roomI
        rw [hg, if_neg hne]
      rw [this]
      exact hx2.2
theorem apply_take {E : List Ed} {d : Int} (hd : 0 ≤ d) {w f : List Int} (hl : f.length = E.length) (hf : fRng E f) (W : WayOK E f w) (hw : ∀ c, c ∈ w → d ≤ roomI E f c) (j : Nat) : fRng E (applyW d f (w.take j)) :=
  apply_rng hd _ f hl hf (List.Nodup.sublist (List.Sublist.map _ (List.take_sublist j w)) W.nd) fun c hc => ⟨(W.arc c (List.mem_of_mem_take hc)).ix, hw c (List.mem_of_mem_take hc)⟩

/-- What begins at a node less what ends there. -/
def exc (E : List Ed) (f : List Int) (v : Int) : Nat → Int
  | 0 => 0
  | u + 1 => exc E f v u + ((if (gt E u).a = v then gt f u else 0) - (if (gt E u).b = v then gt f u else 0))
theorem surp_exc {n : Int} {E : List Ed} {f : List Int} (he : ∀ i, i < E.length → 0 ≤ (gt E i).a ∧ (gt E i).a < n ∧ 0 ≤ (gt E i).b ∧ (gt E i).b < n) {v : Int} (h0 : 0 ≤ v) (h1 : v < n) :
    ∀ u, u ≤ E.length → gt (surpN n.toNat E f u) v.toNat = exc E f v u
  | 0, _ => by rw [surpN, gt_rep]; rfl
  | u + 1, h => by
    have ih := surp_exc he h0 h1 u (by omega) (f := f)
    have e := he u (by omega)
    have hl := surp_len n.toNat E f u
    rw [surpN, surp2, gt_set _ _ _ _ (by rw [surp1_len, hl]; omega), exc]
    have k : ∀ y, 0 ≤ y → y < n → gt (surp1 E f u (surpN n.toNat E f u)) y.toNat = gt (surpN n.toNat E f u) y.toNat + if (gt E u).a = y then gt f u else 0 := by
      intro y hy0 hy1
      rw [surp1, gt_set _ _ _ _ (by rw [hl]; omega)]
      by_cases hy : (gt E u).a = y
      · rw [if_pos (by rw [hy]), if_pos hy, hy]
      · rw [if_neg (by omega), if_neg hy]; omega
    by_cases hb : (gt E u).b = v
    · rw [if_pos (by rw [hb]), if_pos hb, hb, k v h0 h1, ih]; omega
    · rw [if_neg (by omega), if_neg hb, k v h0 h1, ih]; omega
theorem exc_set {E : List Ed} {f : List Int} {v x : Int} {i : Nat} (hi : i < f.length) : ∀ u, exc E (f.set i x) v u = exc E f v u + if i < u then ((if (gt E i).a = v then x - gt f i else 0) - (if (gt E i).b = v then x - gt f i else 0)) else 0
  | 0 => by rw [if_neg (by omega)]; rfl
  | u + 1 => by
    have ih := exc_set hi u (E := E) (v := v) (x := x)
    rw [exc, exc, ih, gt_set _ _ _ _ hi]
    by_cases hu : i = u
    · subst hu
      simp only [if_true, if_neg (Nat.lt_irrefl i), if_pos (Nat.lt_succ_self i)]
      split <;> split <;> omega
    · simp only [if_neg hu]
      by_cases h2 : i < u
      · simp only [if_pos h2, if_pos (show i < u + 1 by omega)]; omega
      · simp only [if_neg h2, if_neg (show ¬ i < u + 1 by omega)]; omega
theorem exc_add {E : List Ed} {f : List Int} {d c : Int} (hl : f.length = E.length) (hi : ixE c < E.length) (x : Int) :
    exc E (addE d f c) x E.length = exc E f x E.length + ((if tailE E c = x then d else 0) - (if headE E c = x then d else 0)) := by
  rw [addE, exc_set (by omega), if_pos hi]
  unfold addV tailE headE
  by_cases hc : 0 < c
  · simp only [if_pos hc]
    split <;> split <;> omega
  · simp only [if_neg hc]
    split <;> split <;> omega
theorem exc_way {n s : Int} {E : List Ed} {f0 way : List Int} {d : Int} : ∀ (k : Nat) (v : Int) (f : List Int), TreeN n s E f0 way k v → f.length = E.length → ∀ x,
    exc E (applyW d f (wayN E way k v)) x E.length = exc E f x E.length + ((if s = x then d else 0) - (if v = x then d else 0))
  | 0, v, f, h, _, x => by
    have : v = s := h
    subst this
    rw [wayN, applyW]
    omega
  | k + 1, v, f, h, hl, x => by
    rw [wayN, applyW, exc_way k _ _ h.2.2.2.2.2 (by rw [addE, List.length_set]; exact hl) x, exc_add hl h.2.2.2.1.ix, h.2.2.2.2.1]
    omega
theorem exc_rng {E : List Ed} {f : List Int} (hf : ∀ i, i < E.length → 0 ≤ gt f i ∧ gt f i ≤ 1073741824) (v : Int) : ∀ u, u ≤ E.length → -(1073741824 * (u : Int)) ≤ exc E f v u ∧ exc E f v u ≤ 1073741824 * (u : Int)
  | 0, _ => by simp [exc]
  | u + 1, h => by
    have ih := exc_rng hf v u (by omega)
    have := hf u (by omega)
    rw [exc]
    split <;> split <;> omega
structure FlowOK (n s t : Int) (E : List Ed) (f : List Int) : Prop where
  len : f.length = E.length
  rng : fRng E f
  con : ∀ v, 0 ≤ v → v < n → v ≠ s → v ≠ t → exc E f v E.length = 0
/-- What one search and one raise make of a flow. -/
def augW (n s t : Int) (E : List Ed) (f : List Int) (m : Nat) : List Int := applyW (leastW E f 1073741824 (wayN E (reachS n s E f).way m t)) f (wayN E (reachS n s E f).way m t)
theorem aug_ok {n s t : Int} {E : List Ed} {f : List Int} (g : GOK n s t E) (F : FlowOK n s t E f) {m : Nat} (T : TreeN n s E f (reachS n s E f).way m t) (W : WayOK E f (wayN E (reachS n s E f).way m t)) :
    FlowOK n s t E (augW n s t E f m) ∧ exc E f s E.length < exc E (augW n s t E f m) s E.length := by
  have hp := least_pos (E := E) (f := f) (wayN E (reachS n s E f).way m t) 1073741824 (by decide) fun c hc => (W.arc c hc).room
  have hl := least_le (E := E) (f := f) (wayN E (reachS n s E f).way m t) 1073741824
  have hx := exc_way (d := leastW E f 1073741824 (wayN E (reachS n s E f).way m t)) m t f T F.len
  refine ⟨⟨by rw [augW, apply_len, F.len], ?_, fun v h0 h1 h2 h3 => ?_⟩, ?_⟩
  · exact apply_rng (Int.le_of_lt hp) _ f F.len F.rng W.nd fun c hc => ⟨(W.arc c hc).ix, hl.2 c hc⟩
  · rw [augW, hx v, F.con v h0 h1 h2 h3, if_neg (Ne.symm h2), if_neg (Ne.symm h3)]; rfl
  · rw [augW, hx s, if_pos rfl, if_neg (Ne.symm g.st)]; omega
inductive Runs (n s t : Int) (E : List Ed) : List Int → List Int → Prop
  | stop (f : List Int) (h : gt (reachS n s E f).seen t.toNat = false) : Runs n s t E f f
  | step (f f' : List Int) (m : Nat) (h : gt (reachS n s E f).seen t.toNat = true) (T : TreeN n s E f (reachS n s E f).way m t) (r : Runs n s t E (augW n s t E f m) f') : Runs n s t E f f'
theorem runs_det {n s t : Int} {E : List Ed} {f a b : List Int} (h1 : Runs n s t E f a) (h2 : Runs n s t E f b) : a = b := by
  induction h1 with
  | stop f h =>
    cases h2 with
    | stop => rfl
    | step _ _ m h' => rw [h] at h'; cases h'
  | step f f' m h T r ih =>
    cases h2 with
    | stop _ h' => rw [h] at h'; cases h'
    | step _ _ m' h' T' r' =>
      have := tree_uni T T'
      subst this
      exact ih r'
theorem runs_ok {n s t : Int} {E : List Ed} {f a : List Int} (g : GOK n s t E) (h : Runs n s t E f a) (F : FlowOK n s t E f) : FlowOK n s t E a ∧ gt (reachS n s E a).seen t.toNat = false := by
  induction h with
  | stop f h => exact ⟨F, h⟩
  | step f f' m h T r ih =>
    obtain ⟨m', T', W'⟩ := tree_sink g h
    have := tree_uni T T'
    subst this
    exact ih (aug_ok g F T W').1
theorem zero_ok {n s t : Int} {E : List Ed} (g : GOK n s t E) : FlowOK n s t E (List.replicate E.length 0) := by
  refine ⟨by simp, fun i hi => ?_, fun v _ _ _ _ => ?_⟩
  · have := g.ed i hi
    rw [gt_rep]; omega
  · have : ∀ u, exc E (List.replicate E.length 0) v u = 0 := by
      intro u
      induction u with
      | zero => rfl
      | succ u ih => rw [exc, ih, gt_rep]; split <;> split <;> rfl
    exact this _
end Go.Proofs.Ytdicnojnkbmdlaa
end
section
set_option linter.unusedVariables false
namespace Go.Proofs.Ytdicnojnkbmdlaa
open Go Go.Am

theorem tree_step {n s : Int} {E : List Ed} {f way : List Int} {k : Nat} {v : Int} (T : TreeN n s E f way k v) (h : v ≠ s) :
    ∃ k' c, k = k' + 1 ∧ gt way v.toNat = c ∧ 0 ≤ v ∧ v < n ∧ ArcOK E f c ∧ TreeN n s E f way k' (tailE E c) ∧ wayN E way k v = c :: wayN E way k' (tailE E c) := by
  cases k with
  | zero => exact absurd T h
  | succ k => exact ⟨k, _, rfl, rfl, T.2.1, T.2.2.1, T.2.2.2.1, T.2.2.2.2.2, rfl⟩
theorem tree_end {n s : Int} {E : List Ed} {f way : List Int} {k : Nat} {v : Int} (T : TreeN n s E f way k v) (h : v = s) : wayN E way k v = [] := by
  cases k with
  | zero => rfl
  | succ k => exact absurd h T.1
theorem arc_pos {E : List Ed} {f : List Int} {c : Int} (A : ArcOK E f c) (h : 0 < c) : ixE c = (c - 1).toNat ∧ (c - 1).toNat < E.length ∧ roomI E f c = (gt E (c - 1).toNat).c - gt f (c - 1).toNat ∧ tailE E c = (gt E (c - 1).toNat).a ∧ ∀ d g, addV d g c = gt g (c - 1).toNat + d := by
  have e : ixE c = (c - 1).toNat := by rw [ixE, if_pos h]
  exact ⟨e, by rw [← e]; exact A.ix, by rw [roomI, if_pos h, e], by rw [tailE, if_pos h, e], fun d g => by rw [addV, if_pos h, e]⟩
theorem arc_neg {E : List Ed} {f : List Int} {c : Int} (A : ArcOK E f c) (h : ¬ 0 < c) : ixE c = (0 - c - 1).toNat ∧ (0 - c - 1).toNat < E.length ∧ roomI E f c = gt f (0 - c - 1).toNat ∧ tailE E c = (gt E (0 - c - 1).toNat).b ∧ ∀ d g, addV d g c = gt g (0 - c - 1).toNat - d := by
  have e : ixE c = (0 - c - 1).toNat := by rw [ixE, if_neg h]; congr 1; omega
  exact ⟨e, by rw [← e]; exact A.ix, by rw [roomI, if_neg h, e], by rw [tailE, if_neg h, e], fun d g => by rw [addV, if_neg h, e]⟩
/-- The same of the number of the edge and its direction. -/
theorem arc_dec {E : List Ed} {f : List Int} {c : Int} (A : ArcOK E f c) : 0 ≤ decE c ∧ decE c < E.length ∧ (decE c).toNat = ixE c ∧ roomV E f (decE c) (decide (c < 0)) = roomI E f c := by
  have hn := A.nz
  have hx := A.ix
  have e : 0 ≤ decE c ∧ (decE c).toNat = ixE c := by
    unfold decE ixE
    by_cases h : 0 < c
    · rw [if_pos h, if_pos h]; omega
    · rw [if_neg h, if_neg h, if_pos (by omega)]; omega
  refine ⟨e.1, by omega, e.2, ?_⟩
  unfold roomV roomI
  rw [e.2]
  by_cases h : 0 < c
  · rw [if_neg (by simp; omega), if_pos h]
  · rw [if_pos (by simp; omega), if_neg h]
theorem aug_step {E : List Ed} {f w W r : List Int} {d c : Int} (hd : 0 ≤ d) (hl : f.length = E.length) (hf : fRng E f) (WO : WayOK E f W) (hw : ∀ x, x ∈ W → d ≤ roomI E f x) (hW : w ++ c :: r = W) :
    (0 ≤ gt (applyW d f w) (ixE c) ∧ gt (applyW d f w) (ixE c) ≤ (gt E (ixE c)).c) ∧ (0 ≤ addV d (applyW d f w) c ∧ addV d (applyW d f w) c ≤ (gt E (ixE c)).c) ∧ (applyW d f w).length = E.length ∧
      applyW d f (w ++ [c]) = (applyW d f w).set (ixE c) (addV d (applyW d f w) c) ∧ ArcOK E f c := by
  have hm : c ∈ W := by rw [← hW]; simp
  have A := WO.arc c hm
  have h1 := apply_take hd hl hf WO hw w.length
  have h2 := apply_take hd hl hf WO hw (w.length + 1)
  rw [← hW, List.take_left] at h1
  rw [← hW, show w ++ c :: r = (w ++ [c]) ++ r by simp, show w.length + 1 = (w ++ [c]).length by simp, List.take_left, apply_app] at h2
  have hlen : (applyW d f w).length = E.length := by rw [apply_len, hl]
  have h3 := h2 (ixE c) A.ix
  rw [addE_gt (by rw [hlen]; exact A.ix), if_pos rfl] at h3
  exact ⟨h1 _ A.ix, h3, hlen, apply_app _ _ _, A⟩
theorem bs67 (lim : Nat) (H : Heap) (x : Operand) (ev : Operand → AV) (c : Int) (h : ev x = .agg (arcC c)) :
    effV Try.prog lim (.buildSlice 67 1 #[(0, x)]) ev H = some (.own 2 H.length 0 1, H ++ [some (arcC c)]) := by
  simp only [effV, tk67, ty71]
  rw [if_pos ⟨rfl, by decide, by decide⟩]
  simp only [List.map_cons, List.map_nil, h]
  rfl
/-- The way as it is gathered: nothing yet, or a block. -/
def OutA (lo : Nat) (H : Heap) (o : AV) (w : List Int) : Prop := (w = [] ∧ o = .v (.slice none 0 0)) ∨ ∃ b, o = .own 2 b 0 w.length ∧ lo ≤ b ∧ hget H b = some (flatA w)
theorem OutA.mono {lo : Nat} {H H' : Heap} {o : AV} {w : List Int} (h : OutA lo H o w) (hh : ∀ b, lo ≤ b → ∀ k, hget H b = some k → hget H' b = some k) : OutA lo H' o w := by
  rcases h with h | ⟨b, h1, h2, h3⟩
  · exact .inl h
  · exact .inr ⟨b, h1, h2, hh b h2 _ h3⟩
theorem OutA.lt {lo b : Nat} {H : Heap} {o : AV} {w : List Int} (h : OutA lo H o w) (ho : o = .own 2 b 0 w.length) : b < H.length := by
  rcases h with ⟨_, h⟩ | ⟨b', h1, _, h3⟩
  · rw [h] at ho; cases ho
  · rw [h1] at ho; cases ho; exact hget_lt h3
theorem flatA_app (w : List Int) (c : Int) : flatA (w ++ [c]) = flatA w ++ arcC c := by
  unfold flatA
  rw [List.map_append, List.flatten_append]
  simp
theorem outA_append {lim lo hi : Nat} {H : Heap} {o : AV} {w : List Int} {c : Int} {b' : Nat} (h : OutA lo H o w) (hob : ∀ b, o = .own 2 b 0 w.length → b < hi) (hc : hget H b' = some (arcC c)) (hl : lim ≤ lo) (hlo : lo ≤ H.length) (hw : w.length ≤ 100000) :
    ∃ b, lo ≤ b ∧ (b < hi ∨ b = H.length) ∧ ∃ H', appendV Try.prog lim H 67 o (.own 2 b' 0 1) = some (.own 2 H.length 0 (w.length + 1), H') ∧ MGrew H b H' (flatA (w ++ [c])) := by
  rcases h with ⟨rfl, rfl⟩ | ⟨b, rfl, h2, h3⟩
  · refine ⟨H.length, hlo, .inr rfl, _, ?_, MGrew.ofNew _ (MNew.of _ _)⟩
    simp only [appendV, tk67, ty71, srcCells, hc]
    rw [if_pos (by simp)]
    simp only [List.length_cons, List.length_nil]
    rw [if_pos ⟨trivial, by decide, rfl⟩]
    rw [if_pos ⟨by omega, by omega⟩]
    rfl
  · refine ⟨b, h2, .inl (hob b rfl), _, ?_, MGrew.of _ _ _⟩
    simp only [appendV, tk67, ty71, srcCells, hc, h3]
    rw [if_pos (by simp)]
    simp only [List.length_cons, List.length_nil]
    rw [if_pos ⟨trivial, by decide, rfl⟩]
    simp only [List.drop_zero, flatA_len]
    rw [if_pos ⟨by omega, trivial, by omega, by omega, by omega⟩]
    rw [List.take_of_length_le (by rw [flatA_len]; omega), flatA_app]
    rfl
theorem OutA.new {lo : Nat} {H H' : Heap} {b : Nat} {w : List Int} (g : MGrew H b H' (flatA w)) (hlo : lo ≤ H.length) {m : Nat} (hm : m = w.length) : OutA lo H' (.own 2 H.length 0 m) w := by
  subst hm
  exact .inr ⟨H.length, rfl, hlo, g.new⟩
end Go.Proofs.Ytdicnojnkbmdlaa
end
section
set_option linter.unusedVariables false
namespace Go.Proofs.Ytdicnojnkbmdlaa
open Go Go.Am

theorem ms27n (lim : Nat) (H : Heap) (n : Nat) (x y : Operand) (ev : Operand → AV) (hn : n ≤ 1000000) (h : ev x = AV.i n) (h' : ev y = AV.i n) :
    effV Try.prog lim (.makeSlice 27 x y) ev H = some (.own 1 H.length 0 n, H ++ [some ((List.replicate n (0 : Int)).map AV.i)]) := by
  have := ms27 lim H n x y ev (by omega) (by omega) h h'
  rwa [Int.toNat_natCast] at this
abbrev nilA : AV := .v (.slice none 0 0)
open Classical in
noncomputable def maxF (n s t : Int) (E : List Ed) : List Int := if h : ∃ a, Runs n s t E (List.replicate E.length 0) a then h.choose else []
open Classical in
noncomputable def maxA (n s t : Int) (E : List Ed) : AV := if gchkS n s t E ≠ 0 then nilA else intsAV (maxF n s t E)
open Classical in
noncomputable def maxB (n s t : Int) (E : List Ed) : AV := if gchkS n s t E ≠ 0 then nilA else boolsAV (reachS n s E (maxF n s t E)).seen
theorem maxF_eq {n s t : Int} {E : List Ed} {f : List Int} (h : Runs n s t E (List.replicate E.length 0) f) : maxF n s t E = f := by
  have hx : ∃ a, Runs n s t E (List.replicate E.length 0) a := ⟨f, h⟩
  unfold maxF
  rw [dif_pos hx]
  exact runs_det hx.choose_spec h
theorem maxA_err {n s t : Int} {E : List Ed} (h : gchkS n s t E ≠ 0) : maxA n s t E = nilA := by rw [maxA, if_pos h]
theorem maxB_err {n s t : Int} {E : List Ed} (h : gchkS n s t E ≠ 0) : maxB n s t E = nilA := by rw [maxB, if_pos h]
theorem maxA_ok {n s t : Int} {E : List Ed} {f : List Int} (h : gchkS n s t E = 0) (hr : Runs n s t E (List.replicate E.length 0) f) : maxA n s t E = intsAV f := by rw [maxA, if_neg (fun hh => hh h), maxF_eq hr]
theorem maxB_ok {n s t : Int} {E : List Ed} {f : List Int} (h : gchkS n s t E = 0) (hr : Runs n s t E (List.replicate E.length 0) f) : maxB n s t E = boolsAV (reachS n s E f).seen := by rw [maxB, if_neg (fun hh => hh h), maxF_eq hr]
theorem tree_pos {n s t : Int} {E : List Ed} {f way : List Int} {m : Nat} (g : GOK n s t E) (T : TreeN n s E f way m t) : 0 < m := by
  cases m with
  | zero => exact absurd T.symm g.st
  | succ m => omega
/-- A way is no longer than there are edges. -/
theorem way_short {n s t : Int} {E : List Ed} {f : List Int} {m : Nat} (g : GOK n s t E) (h : gt (reachS n s E f).seen t.toNat = true) (T : TreeN n s E f (reachS n s E f).way m t) : m ≤ E.length := by
  obtain ⟨m', T', W⟩ := tree_sink g h
  have := tree_uni T T'
  subst this
  have key : ∀ (N : Nat) (l : List Nat), l.Nodup → (∀ x, x ∈ l → x < N) → l.length ≤ N := by
    intro N
    induction N with
    | zero =>
      intro l hn hl
      cases l with
      | nil => exact Nat.le_refl _
      | cons x r => exact absurd (hl x (List.mem_cons_self ..)) (by omega)
    | succ N ih =>
      intro l hn hl
      by_cases hm : N ∈ l
      · have h1 := ih (l.erase N) (hn.erase N) fun x hx => by
          have h2 := (List.Nodup.mem_erase_iff hn).1 hx
          have := hl x h2.2
          omega
        rw [List.length_erase_of_mem hm] at h1
        omega
      · have := ih l hn fun x hx => by
          have h2 := hl x hx
          have : x ≠ N := fun h => hm (h ▸ hx)
          omega
        omega
  have := key E.length _ W.nd fun x hx => by
    obtain ⟨c, hc, rfl⟩ := List.mem_map.1 hx
    exact (W.arc c hc).ix
  rwa [List.length_map, wayN_len] at this
end Go.Proofs.Ytdicnojnkbmdlaa
end
section
set_option linter.unusedVariables false
namespace Go.Proofs.Ytdicnojnkbmdlaa
open Go Go.Am

theorem runs_all {n s t : Int} {E : List Ed} (g : GOK n s t E) : ∀ (k : Nat) (f : List Int), FlowOK n s t E f → (644245094400 - exc E f s E.length).toNat ≤ k → ∃ a, Runs n s t E f a
  | k, f, F, hk => by
    cases h : gt (reachS n s E f).seen t.toNat with
    | false => exact ⟨f, .stop f h⟩
    | true =>
      obtain ⟨m, T, W⟩ := tree_sink g h
      have AO := aug_ok g F T W
      have AO2 := AO.2
      have x0 := exc_rng (fRng_cap g AO.1.rng) s E.length (Nat.le_refl _)
      have g8 := g.el
      cases k with
      | zero => omega
      | succ k =>
        obtain ⟨a, ha⟩ := runs_all g k _ AO.1 (by omega)
        exact ⟨a, .step f a m h T ha⟩
theorem maxF_runs {n s t : Int} {E : List Ed} (h : gchkS n s t E = 0) : Runs n s t E (List.replicate E.length 0) (maxF n s t E) := by
  have g := gok_of h
  obtain ⟨a, ha⟩ := runs_all g _ _ (zero_ok g) (Nat.le_refl _)
  rw [maxF_eq ha]; exact ha
theorem maxA_is {n s t : Int} {E : List Ed} (h : gchkS n s t E = 0) : maxA n s t E = intsAV (maxF n s t E) := maxA_ok h (maxF_runs h)
theorem maxB_is {n s t : Int} {E : List Ed} (h : gchkS n s t E = 0) : maxB n s t E = boolsAV (reachS n s E (maxF n s t E)).seen := maxB_ok h (maxF_runs h)
theorem maxF_ok {n s t : Int} {E : List Ed} (h : gchkS n s t E = 0) : FlowOK n s t E (maxF n s t E) ∧ gt (reachS n s E (maxF n s t E)).seen t.toNat = false := runs_ok (gok_of h) (maxF_runs h) (zero_ok (gok_of h))
end Go.Proofs.Ytdicnojnkbmdlaa
end
section
set_option linter.unusedVariables false
namespace Go.Proofs.Ytdicnojnkbmdlaa
open Go Go.Am

/-- The matches without a team, among the first. -/
def othN (L : List Pr) (t : Int) : Nat → List Pr
  | 0 => []
  | u + 1 => if (gt L u).a ≠ t ∧ (gt L u).b ≠ t then othN L t u ++ [gt L u] else othN L t u
abbrev othS (L : List Pr) (t : Int) : List Pr := othN L t L.length
theorem oth_len (L : List Pr) (t : Int) : ∀ u, (othN L t u).length ≤ u
  | 0 => Nat.le_refl _
  | u + 1 => by
    have := oth_len L t u
    rw [othN]
    split
    · simp; omega
    · omega
/-- Twice the number of a pair's matches among the first of a list. -/
def cntN (O : List Pr) (p : Pr) : Nat → Int
  | 0 => 0
  | u + 1 => cntN O p u + if norm (gt O u) = p then 2 else 0
theorem cnt_app (O : List Pr) (m p : Pr) : ∀ u, u ≤ O.length → cntN (O ++ [m]) p u = cntN O p u
  | 0, _ => rfl
  | u + 1, h => by rw [cntN, cntN, cnt_app O m p u (by omega), gt_app _ _ _ (by omega)]
theorem cnt_rng (O : List Pr) (p : Pr) : ∀ u, 0 ≤ cntN O p u ∧ cntN O p u ≤ 2 * u
  | 0 => by rw [cntN]; omega
  | u + 1 => by
    have := cnt_rng O p u
    rw [cntN]
    split <;> omega
/-- The same over the first matches, without those of a team. -/
def cnlN (L : List Pr) (t : Int) (p : Pr) : Nat → Int
  | 0 => 0
  | u + 1 => cnlN L t p u + if ((gt L u).a ≠ t ∧ (gt L u).b ≠ t) ∧ norm (gt L u) = p then 2 else 0
theorem cnt_oth (L : List Pr) (t : Int) (p : Pr) : ∀ u, cntN (othN L t u) p (othN L t u).length = cnlN L t p u
  | 0 => rfl
  | u + 1 => by
    have ih := cnt_oth L t p u
    rw [othN, cnlN]
    by_cases h : (gt L u).a ≠ t ∧ (gt L u).b ≠ t
    · rw [if_pos h, List.length_append, List.length_singleton, cntN, cnt_app _ _ _ _ (Nat.le_refl _), gt_last, ih]
      by_cases hp : norm (gt L u) = p
      · rw [if_pos hp, if_pos ⟨h, hp⟩]
      · rw [if_neg hp, if_neg (fun hh => hp hh.2)]
    · rw [if_neg h, ih, if_neg (fun hh => h hh.1)]; omega
/-- The pairs are told apart, and each match's pair is among them. -/
structure PQ (L : List Pr) (t : Int) (Q : List Pr) : Prop where
  nd : ∀ i j, i < Q.length → j < Q.length → norm (gt Q i) = norm (gt Q j) → i = j
  all : ∀ u, u < L.length → (gt L u).a ≠ t ∧ (gt L u).b ≠ t → ∃ i, i < Q.length ∧ norm (gt Q i) = norm (gt L u)
  src : ∀ i, i < Q.length → ∃ u, u < L.length ∧ ((gt L u).a ≠ t ∧ (gt L u).b ≠ t) ∧ norm (gt Q i) = norm (gt L u)
theorem within_norm (T : Nat → Bool) {p m : Pr} (h : norm p = norm m) : within T p = within T m := by
  rcases (norm_iff p m).2 h with ⟨h1, h2⟩ | ⟨h1, h2⟩
  · unfold within; rw [h1, h2]
  · unfold within; rw [h1, h2]; exact Bool.and_comm _ _
theorem within_in {L : List Pr} {t : Int} {Q : List Pr} (W : PQ L t Q) (T : Nat → Bool) (t0 : 0 ≤ t) (ht : T t.toNat = false) : ∀ u, u ≤ L.length →
    sumN (fun i => if within T (gt Q i) = true then cnlN L t (norm (gt Q i)) u else 0) Q.length = inN T L u
  | 0, _ => by
    refine Eq.trans (sumN_congr _ fun i hi => ?_) (sumN_zero _)
    rw [cnlN]; split <;> rfl
  | u + 1, h => by
    have ih := within_in W T t0 ht u (by omega)
    rw [inN, ← ih]
    by_cases ho : (gt L u).a ≠ t ∧ (gt L u).b ≠ t
    · obtain ⟨j, hj, hn⟩ := W.all u (by omega) ho
      rw [sumN_upd (f := fun i => if within T (gt Q i) = true then cnlN L t (norm (gt Q i)) u else 0) (j := j) _ (fun i hi hij => ?_) hj]
      · show _ + ((if within T (gt Q j) = true then cnlN L t (norm (gt Q j)) (u + 1) else 0) - (if within T (gt Q j) = true then cnlN L t (norm (gt Q j)) u else 0)) = _
        rw [within_norm T hn, cnlN]
        cases within T (gt L u)
        · simp
        · rw [if_pos rfl, if_pos (⟨ho, hn.symm⟩ : ((gt L u).a ≠ t ∧ (gt L u).b ≠ t) ∧ norm (gt L u) = norm (gt Q j))]
          simp only [if_true]; omega
      · show (if within T (gt Q i) = true then cnlN L t (norm (gt Q i)) (u + 1) else 0) = _
        rw [cnlN]
        cases within T (gt Q i)
        · rfl
        · rw [if_neg (show ¬ (((gt L u).a ≠ t ∧ (gt L u).b ≠ t) ∧ norm (gt L u) = norm (gt Q i)) from fun hh => hij (W.nd i j hi hj (hh.2.symm.trans hn.symm))), Int.add_zero]
    · have hw : within T (gt L u) = false := by
        unfold within
        by_cases ha : (gt L u).a = t
        · rw [ha, ht]; rfl
        · have hb : (gt L u).b = t := Classical.byContradiction fun hb => ho ⟨ha, hb⟩
          rw [hb, ht]; exact Bool.and_false _
      rw [hw, if_neg (by simp), Int.add_zero]
      refine sumN_congr _ fun i hi => ?_
      rw [cnlN]
      cases within T (gt Q i)
      · rfl
      · rw [if_neg (show ¬ (((gt L u).a ≠ t ∧ (gt L u).b ≠ t) ∧ norm (gt L u) = norm (gt Q i)) from fun hh => ho hh.1), Int.add_zero]

/-! Results out of what the first team of each pair gets. -/
def idxP : List Pr → Pr → Nat
  | [], _ => 0
  | x :: l, p => if x = p then 0 else idxP l p + 1
theorem idxP_at : ∀ {l : List Pr} {p : Pr}, p ∈ l → idxP l p < l.length ∧ gt l (idxP l p) = p
  | [], p, h => by cases h
  | x :: l, p, h => by
    unfold idxP
    by_cases hx : x = p
    · rw [if_pos hx]; exact ⟨by simp, hx⟩
    · rw [if_neg hx]
      have hm : p ∈ l := by
        rcases List.mem_cons.1 h with h | h
        · exact absurd h.symm hx
        · exact h
      have := idxP_at hm
      exact ⟨by simp; omega, this.2⟩
def res1 (Q : List Pr) (t : Int) (L : List Pr) (u : Nat) (s : List Int × List Int) : List Int × List Int :=
  if (gt L u).a = t then (s.1, s.2.set u 2) else if (gt L u).b = t then s else
    (s.1.set (idxP Q (norm (gt L u))) (gt s.1 (idxP Q (norm (gt L u))) - min (gt s.1 (idxP Q (norm (gt L u)))) 2),
     s.2.set u (if (gt L u).a ≠ (gt Q (idxP Q (norm (gt L u)))).a then 2 - min (gt s.1 (idxP Q (norm (gt L u)))) 2 else min (gt s.1 (idxP Q (norm (gt L u)))) 2))
def resN (Q : List Pr) (t : Int) (L : List Pr) (Y : List Int) : Nat → List Int × List Int
  | 0 => (Y, List.replicate L.length 0)
  | u + 1 => res1 Q t L u (resN Q t L Y u)
theorem res_len (Q : List Pr) (t : Int) (L : List Pr) (Y : List Int) : ∀ u, (resN Q t L Y u).1.length = Y.length ∧ (resN Q t L Y u).2.length = L.length
  | 0 => ⟨rfl, by simp [resN]⟩
  | u + 1 => by
    have ih := res_len Q t L Y u
    rw [resN, res1]
    split
    · exact ⟨ih.1, by rw [List.length_set]; exact ih.2⟩
    split
    · exact ih
    · exact ⟨by rw [List.length_set]; exact ih.1, by rw [List.length_set]; exact ih.2⟩
/-- What is still to be given, and what a match has been given. -/
theorem res_ok {Q : List Pr} {t : Int} {L : List Pr} {Y : List Int} (hY : ∀ i, 0 ≤ gt Y i) : ∀ u, u ≤ L.length →
    (∀ i, 0 ≤ gt (resN Q t L Y u).1 i ∧ gt (resN Q t L Y u).1 i ≤ gt Y i) ∧ (∀ i, 0 ≤ gt (resN Q t L Y u).2 i ∧ gt (resN Q t L Y u).2 i ≤ 2) ∧ ∀ j, u ≤ j → gt (resN Q t L Y u).2 j = 0
  | 0, _ => ⟨fun i => ⟨hY i, Int.le_refl _⟩, fun i => by rw [resN, gt_rep]; omega, fun j _ => by rw [resN, gt_rep]⟩
  | u + 1, h => by
    obtain ⟨h1, h2, h3⟩ := res_ok (Q := Q) (t := t) (L := L) hY u (by omega)
    have hl := res_len Q t L Y u
    rw [resN, res1]
    split
    · refine ⟨h1, fun i => ?_, fun j hj => ?_⟩
      · rw [gt_set _ _ _ _ (by omega)]
        have := h2 i
        split <;> omega
      · rw [gt_set _ _ _ _ (by omega), if_neg (by omega)]
        exact h3 j (by omega)
    split
    · exact ⟨h1, h2, fun j hj => h3 j (by omega)⟩
    · have hi := h1 (idxP Q (norm (gt L u)))
      refine ⟨fun i => ?_, fun i => ?_, fun j hj => ?_⟩
      · by_cases hq : idxP Q (norm (gt L u)) < (resN Q t L Y u).1.length
        · rw [gt_set _ _ _ _ hq]
          have := h1 i
          split
          · rename_i he; subst he; omega
          · omega
        · rw [List.set_eq_of_length_le (by omega)]; exact h1 i
      · rw [gt_set _ _ _ _ (by omega)]
        have := h2 i
        split
        · split <;> omega
        · omega
      · rw [gt_set _ _ _ _ (by omega), if_neg (by omega)]
        exact h3 j (by omega)
/-- Later matches change nothing of an earlier one. -/
theorem res_keep {Q : List Pr} {t : Int} {L : List Pr} {Y : List Int} {j : Nat} : ∀ u, j < u → u ≤ L.length → gt (resN Q t L Y u).2 j = gt (resN Q t L Y (j + 1)).2 j
  | 0, h, _ => by omega
  | u + 1, h, hu => by
    by_cases hj : j = u
    · rw [hj]
    · have ih := res_keep (Q := Q) (t := t) (L := L) (Y := Y) (j := j) u (by omega) (by omega)
      have hl := res_len Q t L Y u
      rw [← ih, resN, res1]
      split
      · rw [gt_set _ _ _ _ (by omega), if_neg (by omega)]
      split
      · rfl
      · rw [gt_set _ _ _ _ (by omega), if_neg (by omega)]
/-- The pairs in the order of their teams. -/
def NQ (Q : List Pr) : Prop := ∀ i, i < Q.length → norm (gt Q i) = gt Q i
theorem gt_mem {α : Type} [Inhabited α] {l : List α} {i : Nat} (h : i < l.length) : gt l i ∈ l := by
  rw [gt_eq _ _ h]; exact List.getElem_mem _
/-- The points of another team after the results: its own, and what it gets in its pairs. -/
theorem res_play {P : List Int} {L : List Pr} (g : ROK P L) {t : Int} {Q : List Pr} (W : PQ L t Q) (hQ : NQ Q) {Y : List Int} (hY : ∀ i, 0 ≤ gt Y i) (hl : Y.length = Q.length) {R : List Int} (hR : R = (resN Q t L Y L.length).2) (k : Nat) (hk : (k : Int) ≠ t) : ∀ u, u ≤ L.length →
    gt (playN P L R u) k = gt P k + sumN (fun i => (if (gt Q i).a = k then gt Y i - gt (resN Q t L Y u).1 i else 0) + (if (gt Q i).b = k then cnlN L t (gt Q i) u - (gt Y i - gt (resN Q t L Y u).1 i) else 0)) Q.length ∧
      ∀ i, i < Q.length → gt Y i - gt (resN Q t L Y u).1 i = min (gt Y i) (cnlN L t (gt Q i) u)
  | 0, _ => by
    refine ⟨?_, fun i hi => ?_⟩
    · have : sumN (fun i => (if (gt Q i).a = k then gt Y i - gt (resN Q t L Y 0).1 i else 0) + (if (gt Q i).b = k then cnlN L t (gt Q i) 0 - (gt Y i - gt (resN Q t L Y 0).1 i) else 0)) Q.length = 0 := by
        refine Eq.trans (sumN_congr _ fun i hi => ?_) (sumN_zero _)
        rw [resN, cnlN]
        split <;> split <;> simp
      rw [this, playN]; omega
    · have := hY i
      rw [resN, cnlN]; simp only []; omega
  | u + 1, h => by
    obtain ⟨ih, ix⟩ := res_play g W hQ hY hl hR k hk u (by omega)
    have e := g.ed u (by omega)
    have hll := res_len Q t L Y u
    have hru : gt R u = gt (resN Q t L Y (u + 1)).2 u := by rw [hR]; exact res_keep _ (by omega) (Nat.le_refl _)
    rw [play_step g R (by omega), ih, hru]
    by_cases ha : (gt L u).a = t
    · have e1 : resN Q t L Y (u + 1) = ((resN Q t L Y u).1, (resN Q t L Y u).2.set u 2) := by rw [resN, res1, if_pos ha]
      have e2 : ∀ p, cnlN L t p (u + 1) = cnlN L t p u := fun p => by rw [cnlN, if_neg (fun hh => hh.1.1 ha), Int.add_zero]
      simp only [e1, e2]
      refine ⟨?_, ix⟩
      rw [gt_set _ _ _ _ (by omega), if_pos rfl, if_neg (by omega)]
      split <;> omega
    by_cases hb : (gt L u).b = t
    · have e1 : resN Q t L Y (u + 1) = resN Q t L Y u := by rw [resN, res1, if_neg ha, if_pos hb]
      have e2 : ∀ p, cnlN L t p (u + 1) = cnlN L t p u := fun p => by rw [cnlN, if_neg (fun hh => hh.1.2 hb), Int.add_zero]
      simp only [e1, e2]
      refine ⟨?_, ix⟩
      rw [(res_ok hY u (by omega)).2.2 u (Nat.le_refl _)]
      rw [if_neg (show ¬ (gt L u).b = k by omega)]
      split <;> omega
    · obtain ⟨j0, hj0, hn0⟩ := W.all u (by omega) ⟨ha, hb⟩
      have hmem : norm (gt L u) ∈ Q := by rw [← hn0, hQ j0 hj0]; exact gt_mem hj0
      obtain ⟨hj, hjn⟩ := idxP_at hmem
      generalize hjj : idxP Q (norm (gt L u)) = j at hj hjn
      have hg := (res_ok hY (Q := Q) (t := t) u (show u ≤ L.length by omega)).1 j
      have hxj := ix j hj
      have e1 : resN Q t L Y (u + 1) = ((resN Q t L Y u).1.set j (gt (resN Q t L Y u).1 j - min (gt (resN Q t L Y u).1 j) 2), (resN Q t L Y u).2.set u (if (gt L u).a ≠ (gt Q j).a then 2 - min (gt (resN Q t L Y u).1 j) 2 else min (gt (resN Q t L Y u).1 j) 2)) := by rw [resN, res1, if_neg ha, if_neg hb, hjj]
      have e2 : ∀ i, i < Q.length → cnlN L t (gt Q i) (u + 1) = cnlN L t (gt Q i) u + if i = j then 2 else 0 := fun i hi => by
        rw [cnlN]
        by_cases hij : i = j
        · subst hij; rw [if_pos ⟨⟨ha, hb⟩, hjn.symm⟩, if_pos rfl]
        · rw [if_neg hij, if_neg]
          intro hh
          refine hij (W.nd i j hi hj ?_)
          rw [hQ i hi, hQ j hj, ← hh.2, hjn]
      have e3 : ∀ i, gt (resN Q t L Y (u + 1)).1 i = if j = i then gt (resN Q t L Y u).1 j - min (gt (resN Q t L Y u).1 j) 2 else gt (resN Q t L Y u).1 i := fun i => by rw [e1]; exact gt_set _ _ _ _ (by omega)
      have hcr : 0 ≤ cnlN L t (gt Q j) u := by rw [← cnt_oth]; exact (cnt_rng _ _ _).1
      refine ⟨?_, fun i hi => ?_⟩
      · have eo : ∀ i, i < Q.length → i ≠ j → (if (gt Q i).a = k then gt Y i - gt (resN Q t L Y (u + 1)).1 i else 0) + (if (gt Q i).b = k then cnlN L t (gt Q i) (u + 1) - (gt Y i - gt (resN Q t L Y (u + 1)).1 i) else 0) = (if (gt Q i).a = k then gt Y i - gt (resN Q t L Y u).1 i else 0) + (if (gt Q i).b = k then cnlN L t (gt Q i) u - (gt Y i - gt (resN Q t L Y u).1 i) else 0) := fun i hi hij => by
          rw [e3 i, if_neg (show ¬ j = i from fun hh => hij hh.symm), e2 i hi, if_neg hij, Int.add_zero]
        rw [sumN_upd (f := fun i => (if (gt Q i).a = k then gt Y i - gt (resN Q t L Y u).1 i else 0) + (if (gt Q i).b = k then cnlN L t (gt Q i) u - (gt Y i - gt (resN Q t L Y u).1 i) else 0)) (j := j) _ eo hj]
        · rw [e3 j, if_pos (show j = j from rfl), e2 j hj, if_pos (show j = j from rfl), e1]
          simp only []
          rw [gt_set _ _ _ _ (show u < (resN Q t L Y u).2.length by omega), if_pos (show u = u from rfl)]
          have hnm : (gt Q j).a = min (gt L u).a (gt L u).b ∧ (gt Q j).b = max (gt L u).a (gt L u).b := by rw [hjn]; exact ⟨rfl, rfl⟩
          obtain ⟨m1, m2⟩ := hnm
          have hab := e.2.2.2.2
          generalize (gt Q j).a = qa at m1 ⊢
          generalize (gt Q j).b = qb at m2 ⊢
          generalize (gt L u).a = la at m1 m2 hab ⊢
          generalize (gt L u).b = lb at m1 m2 hab ⊢
          generalize gt (resN Q t L Y u).1 j = gj at hg hxj ⊢
          generalize gt Y j = yj at hg hxj ⊢
          generalize cnlN L t (gt Q j) u = cj at hxj hcr ⊢
          generalize sumN _ _ = sm
          clear ih ix hru hll e1 e2 e3 hmem
          by_cases hlt : la < lb
          · have q1 : qa = la := by omega
            have q2 : qb = lb := by omega
            subst q1 q2
            rw [if_neg (show ¬ (qa ≠ qa) from fun hh => hh rfl)]
            by_cases h1 : qa = k <;> by_cases h2 : qb = k
            · omega
            · simp only [if_pos h1, if_neg h2]; omega
            · simp only [if_neg h1, if_pos h2]; omega
            · simp only [if_neg h1, if_neg h2]; omega
          · have q1 : qa = lb := by omega
            have q2 : qb = la := by omega
            subst q1 q2
            rw [if_pos hab]
            by_cases h1 : qa = k <;> by_cases h2 : qb = k
            · omega
            · simp only [if_pos h1, if_neg h2]; omega
            · simp only [if_neg h1, if_pos h2]; omega
            · simp only [if_neg h1, if_neg h2]; omega
      · rw [e3 i, e2 i hi]
        by_cases hij : i = j
        · subst hij
          rw [if_pos rfl, if_pos rfl]
          have := hY i
          omega
        · rw [if_neg (fun hh => hij hh.symm), if_neg hij, Int.add_zero]
          exact ix i hi
/-- Where all comes that can come to the pairs, the results make the team first. -/
theorem res_first {P : List Int} {L : List Pr} (g : ROK P L) {t goal : Int} {Q : List Pr} (W : PQ L t Q) (hQ : NQ Q) {Y : List Int} (hl : Y.length = Q.length) {x z e : Nat → Int} {T V : Nat → Bool}
    (B : BF P.length Q.length Q (fun i => cnlN L t (gt Q i) L.length) P goal t x (fun i => gt Y i) z e T V) (hY : ∀ i, 0 ≤ gt Y i) (full : ∀ i, i < Q.length → x i = cnlN L t (gt Q i) L.length)
    (k : Nat) (hkl : k < P.length) (hk : (k : Int) ≠ t) : gt (playN P L (resN Q t L Y L.length).2 L.length) k ≤ goal := by
  obtain ⟨h1, h2⟩ := res_play g W hQ hY hl rfl k hk L.length (Nat.le_refl _)
  rw [h1]
  have e1 : sumN (fun i => (if (gt Q i).a = k then gt Y i - gt (resN Q t L Y L.length).1 i else 0) + (if (gt Q i).b = k then cnlN L t (gt Q i) L.length - (gt Y i - gt (resN Q t L Y L.length).1 i) else 0)) Q.length = e k := by
    rw [B.tc k hkl hk]
    refine sumN_congr _ fun i hi => ?_
    have b1 := B.y0 i hi
    have b2 := B.pc i hi
    have b3 := full i hi
    have b4 := h2 i hi
    have b5 : min (gt Y i) (cnlN L t (gt Q i) L.length) = gt Y i := by have : gt Y i ≤ cnlN L t (gt Q i) L.length := b1.2; omega
    have b6 : x i = gt Y i + z i := b2
    rw [b4, b5, show cnlN L t (gt Q i) L.length - gt Y i = z i by omega]
  rw [e1]
  have := B.e0 k hkl hk
  omega
/-- The team itself wins its matches. -/
theorem res_own {Q : List Pr} {t : Int} {L : List Pr} {Y : List Int} (hY : ∀ i, 0 ≤ gt Y i) {u : Nat} (hu : u < L.length) :
    ((gt L u).a = t → gt (resN Q t L Y L.length).2 u = 2) ∧ ((gt L u).a ≠ t → (gt L u).b = t → gt (resN Q t L Y L.length).2 u = 0) := by
  have hl := res_len Q t L Y u
  rw [res_keep L.length hu (Nat.le_refl _), resN, res1]
  refine ⟨fun ha => ?_, fun ha hb => ?_⟩
  · rw [if_pos ha, gt_set _ _ _ _ (by omega), if_pos rfl]
  · rw [if_neg ha, if_pos hb]
    exact (res_ok hY u (by omega)).2.2 u (Nat.le_refl _)
theorem res_goal {P : List Int} {L : List Pr} (g : ROK P L) {Q : List Pr} {t : Int} (t0 : 0 ≤ t) {Y : List Int} (hY : ∀ i, 0 ≤ gt Y i) : ∀ u, u ≤ L.length → gt (playN P L (resN Q t L Y L.length).2 u) t.toNat = mostN P L t u
  | 0, _ => rfl
  | u + 1, h => by
    have ih := res_goal g t0 hY u (by omega) (Q := Q)
    have e := g.ed u (by omega)
    have r := res_own (Q := Q) (t := t) hY (show u < L.length by omega)
    rw [play_step g _ (by omega), ih, mostN]
    by_cases ha : (gt L u).a = t <;> by_cases hb : (gt L u).b = t
    · omega
    · rw [if_pos (by omega), if_neg (by omega), if_pos (.inl ha), r.1 ha]; omega
    · rw [if_neg (by omega), if_pos (by omega), if_pos (.inr hb), r.2 ha hb]; omega
    · rw [if_neg (by omega), if_neg (by omega), if_neg (by omega)]; omega
end Go.Proofs.Ytdicnojnkbmdlaa
end
