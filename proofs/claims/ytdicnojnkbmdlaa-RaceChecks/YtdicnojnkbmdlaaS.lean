/-
  A race: points, matches that are left, pairs of teams. What the program and the reference compute, in plain terms.
-/
import Derived.Test.YtdicnojnkbmdlaaP
import Derived.Test.YtdicnojnkbmdlaaAmU
set_option linter.unusedVariables false
namespace Go.Proofs.Ytdicnojnkbmdlaa
open Go Go.Am

structure Pr where
  a : Int
  b : Int
deriving DecidableEq
instance : Inhabited Pr := ⟨⟨0, 0⟩⟩
abbrev prC (p : Pr) : List AV := [AV.i p.a, AV.i p.b]
def flatP (l : List Pr) : List AV := (l.map prC).flatten
abbrev prsAV (l : List Pr) : AV := .sl l.length (flatP l)
abbrev raceC (P : List Int) (L : List Pr) : List AV := [intsAV P, prsAV L]
abbrev nilP : AV := .v (.slice none 0 0)
theorem flatP_len (l : List Pr) : (flatP l).length = l.length * 2 := by
  induction l with
  | nil => rfl
  | cons s l ih => unfold flatP at ih ⊢; rw [List.map_cons, List.flatten_cons, List.length_append, ih]; simp; omega
theorem flatP_get : ∀ (l : List Pr) (u k : Nat), u < l.length → k < 2 → (flatP l)[u * 2 + k]? = (prC (gt l u))[k]?
  | [], u, k, h, _ => by simp at h
  | s :: l, 0, k, _, hk => by
    unfold flatP
    rw [List.map_cons, List.flatten_cons, Nat.zero_mul, Nat.zero_add, List.getElem?_append_left (by simpa using hk)]
    rfl
  | s :: l, u + 1, k, h, hk => by
    have ih := flatP_get l u k (by simpa using h) hk
    unfold flatP at ih ⊢
    rw [List.map_cons, List.flatten_cons, List.getElem?_append_right (by simp; omega)]
    rw [show (u + 1) * 2 + k - (prC s).length = u * 2 + k by simp; omega, ih]
    rfl
theorem ld_pr (l : List Pr) (u : Nat) (h : u < l.length) : partL { size := 2, bytes := 16, agg := true, k := TyK.array 2 3, zero := some [.int .i64 0, .int .i64 0] } (flatP l) (u * 2) = some (.agg (prC (gt l u))) := by
  rw [pl58 _ _ (by rw [flatP_len]; omega)]
  congr 2
  apply List.ext_getElem?
  intro j
  rw [List.getElem?_take, List.getElem?_drop]
  by_cases hj : j < 2
  · rw [if_pos hj, flatP_get l u j h hj]
  · rw [if_neg hj, List.getElem?_eq_none (by simp; omega)]
theorem flatP_app (w : List Pr) (c : Pr) : flatP (w ++ [c]) = flatP w ++ prC c := by
  unfold flatP
  rw [List.map_append, List.flatten_append]
  simp
theorem bld58 (x y : Int) : buildV Try.prog 58 [(0, AV.i x), (1, AV.i y)] = some (.agg [AV.i x, AV.i y]) := by
  simp only [buildV, ty58, ty3]
  rfl
theorem eq58 (p q : Pr) : binV Try.prog .eql 58 (.agg (prC p)) (.agg (prC q)) = some (.v (.bool (decide (p = q)))) := by
  have h : ∀ a b : Int, scalEq (tyOf Try.prog 3) (AV.i a) (AV.i b) = some (a == b) := fun a b => by simp only [scalEq, ty3, kOf, Option.map_some, if_true]
  have e : eqOk Try.prog 58 = true := eqOk58
  simp only [binV, aggEq, e, tk58, ty3]
  obtain ⟨pa, pb⟩ := p
  obtain ⟨qa, qb⟩ := q
  have c : cellsEq (tyOf Try.prog 3) (prC ⟨pa, pb⟩) (prC ⟨qa, qb⟩) 0 2 = some (decide (Pr.mk pa pb = Pr.mk qa qb)) := by
    simp only [cellsEq, List.getElem?_cons_zero, List.getElem?_cons_succ, h]
    by_cases h1 : pa = qa
    · subst h1
      rw [show (pa == pa) = true by simp]
      by_cases h2 : pb = qb
      · subst h2
        rw [show (pb == pb) = true by simp]
        simp
      · rw [show (pb == qb) = false by simpa using h2]
        simp [h2]
    · rw [show (pa == qa) = false by simpa using h1]
      simp [h1]
  simp only [ty3] at c
  simp [c]
theorem take2 (x y : AV) : List.take 2 [x, y] = [x, y] := rfl
attribute [go_sem] ld_pr bld58 eq58 take2

def norm (p : Pr) : Pr := ⟨min p.a p.b, max p.a p.b⟩
theorem norm_iff (p q : Pr) : (p.a = q.a ∧ p.b = q.b ∨ p.a = q.b ∧ p.b = q.a) ↔ norm p = norm q := by
  simp only [norm, Pr.mk.injEq]
  omega
/-- The different pairs of the first matches. -/
def pairsN (L : List Pr) : Nat → List Pr
  | 0 => []
  | u + 1 => if norm (gt L u) ∈ pairsN L u then pairsN L u else pairsN L u ++ [norm (gt L u)]
def refN (L : List Pr) : Nat → List Pr
  | 0 => []
  | u + 1 => if norm (gt L u) ∈ (refN L u).map norm then refN L u else refN L u ++ [gt L u]
theorem ref_norm (L : List Pr) : ∀ u, (refN L u).map norm = pairsN L u
  | 0 => rfl
  | u + 1 => by
    rw [refN, pairsN, ref_norm L u]
    split
    · exact ref_norm L u
    · rw [List.map_append, ref_norm L u]; rfl
theorem pairs_len (L : List Pr) : ∀ u, (pairsN L u).length ≤ u
  | 0 => Nat.le_refl _
  | u + 1 => by
    have := pairs_len L u
    rw [pairsN]
    split
    · omega
    · simp; omega
theorem ref_len (L : List Pr) (u : Nat) : (refN L u).length = (pairsN L u).length := by rw [← ref_norm, List.length_map]

/-- A list of pairs as it is gathered: nothing yet, or a block. -/
def OutP (lo : Nat) (H : Heap) (o : AV) (w : List Pr) : Prop := (w = [] ∧ o = nilP) ∨ (w ≠ [] ∧ ∃ b, o = .own 2 b 0 w.length ∧ lo ≤ b ∧ hget H b = some (flatP w))
theorem OutP.mono {lo : Nat} {H H' : Heap} {o : AV} {w : List Pr} (h : OutP lo H o w) (hh : ∀ b, lo ≤ b → ∀ k, hget H b = some k → hget H' b = some k) : OutP lo H' o w := by
  rcases h with h | ⟨h0, b, h1, h2, h3⟩
  · exact .inl h
  · exact .inr ⟨h0, b, h1, h2, hh b h2 _ h3⟩
theorem OutP.lt {lo b : Nat} {H : Heap} {o : AV} {w : List Pr} (h : OutP lo H o w) (ho : o = .own 2 b 0 w.length) : b < H.length := by
  rcases h with ⟨_, h⟩ | ⟨_, b', h1, _, h3⟩
  · rw [h] at ho; cases ho
  · rw [h1] at ho; cases ho; exact hget_lt h3
theorem bs41 (lim : Nat) (H : Heap) (x : Operand) (ev : Operand → AV) (c : Pr) (h : ev x = .agg (prC c)) :
    effV Try.prog lim (.buildSlice 41 1 #[(0, x)]) ev H = some (.own 2 H.length 0 1, H ++ [some (prC c)]) := by
  simp only [effV, tk41, ty58]
  rw [if_pos ⟨rfl, by decide, by decide⟩]
  simp only [List.map_cons, List.map_nil, h]
  rfl
theorem outP_append {lim lo hi : Nat} {H : Heap} {o : AV} {w : List Pr} {c : Pr} {b' : Nat} (h : OutP lo H o w) (hob : ∀ b, o = .own 2 b 0 w.length → b < hi) (hc : hget H b' = some (prC c)) (hl : lim ≤ lo) (hlo : lo ≤ H.length) (hw : w.length ≤ 100000) :
    ∃ b, lo ≤ b ∧ (b < hi ∨ b = H.length) ∧ ∃ H', appendV Try.prog lim H 41 o (.own 2 b' 0 1) = some (.own 2 H.length 0 (w.length + 1), H') ∧ MGrew H b H' (flatP (w ++ [c])) := by
  rcases h with ⟨rfl, rfl⟩ | ⟨h0, b, rfl, h2, h3⟩
  · refine ⟨H.length, hlo, .inr rfl, _, ?_, MGrew.ofNew _ (MNew.of _ _)⟩
    simp only [appendV, tk41, ty58, srcCells, hc]
    rw [if_pos (by simp)]
    simp only [List.length_cons, List.length_nil]
    rw [if_pos ⟨trivial, by decide, rfl⟩]
    rw [if_pos ⟨by omega, by omega⟩]
    rfl
  · refine ⟨b, h2, .inl (hob b rfl), _, ?_, MGrew.of _ _ _⟩
    simp only [appendV, tk41, ty58, srcCells, hc, h3]
    rw [if_pos (by simp)]
    simp only [List.length_cons, List.length_nil]
    rw [if_pos ⟨trivial, by decide, rfl⟩]
    simp only [List.drop_zero, flatP_len]
    rw [if_pos ⟨by omega, trivial, by omega, by omega, by omega⟩]
    rw [List.take_of_length_le (by rw [flatP_len]; omega), flatP_app]
    rfl
theorem frz_prs (H : Heap) (b d : Nat) (l : List Pr) : (flatP l).map (frz H b (d + 1)) = flatP l := by
  unfold flatP
  rw [List.map_flatten, List.map_map]
  congr 1
theorem OutP.frz {H : Heap} {base d : Nat} {o : AV} {w : List Pr} (h : OutP base H o w) : Go.Am.frz H base (d + 2) o = if w = [] then nilP else prsAV w := by
  rcases h with ⟨rfl, rfl⟩ | ⟨h0, b, rfl, h2, h3⟩
  · rfl
  · rw [frz_own (by omega) h3, List.drop_zero, frz_prs]
    rw [if_neg h0]
def pairsA (L : List Pr) : AV := if pairsN L L.length = [] then nilP else prsAV (pairsN L L.length)
theorem pairsA_len (L : List Pr) : lenV (tyOf Try.prog 41) (pairsA L) = some (AV.i ((pairsN L L.length).length : Nat)) := by
  unfold pairsA
  split
  · rename_i h; rw [h]; simp only [lenV, ty41, kOf, Option.map_some]; rfl
  · simp only [lenV, ty41, kOf, Option.map_some]
theorem pairs_new {lo b : Nat} {H H' : Heap} {L : List Pr} {u : Nat} (g : MGrew H b H' (flatP (pairsN L u ++ [norm (gt L u)]))) (hlo : lo ≤ H.length) (hn : ¬ norm (gt L u) ∈ pairsN L u) : OutP lo H' (.own 2 H.length 0 ((pairsN L u).length + 1)) (pairsN L (u + 1)) := by
  rw [pairsN, if_neg hn]
  exact .inr ⟨by simp, H.length, by simp, hlo, g.new⟩
theorem pairs_old {lo : Nat} {H : Heap} {o : AV} {L : List Pr} {u : Nat} (h : OutP lo H o (pairsN L u)) (hn : norm (gt L u) ∈ pairsN L u) : OutP lo H o (pairsN L (u + 1)) := by
  rw [pairsN, if_pos hn]; exact h
def prErr (n : Int) (p : Pr) : Int := if p.a < 0 ∨ n ≤ p.a ∨ p.b < 0 ∨ n ≤ p.b ∨ p.a = p.b then 1 else 0
theorem pr_of {n : Int} {p : Pr} (h : prErr n p = 0) : 0 ≤ p.a ∧ 0 ≤ p.b := by
  unfold prErr at h
  split at h
  · cases h
  · exact ⟨by omega, by omega⟩
def ptErr (x : Int) : Int := if x < 0 ∨ 800 < x then 2 else 0
def rchkS (P : List Int) (L : List Pr) : Int :=
  if P.length < 2 ∨ 20 < P.length then 2 else if ferr (fun i => ptErr (gt P i)) P.length ≠ 0 then ferr (fun i => ptErr (gt P i)) P.length else if 400 < L.length then 9 else
  if ferr (fun i => prErr P.length (gt L i)) L.length ≠ 0 then ferr (fun i => prErr P.length (gt L i)) L.length else if 40 < (pairsN L L.length).length then 9 else 0
/-- What a race without an error is. -/
structure ROK (P : List Int) (L : List Pr) : Prop where
  n2 : 2 ≤ P.length
  n20 : P.length ≤ 20
  pt : ∀ i, i < P.length → 0 ≤ gt P i ∧ gt P i ≤ 800
  el : L.length ≤ 400
  ed : ∀ i, i < L.length → 0 ≤ (gt L i).a ∧ (gt L i).a < P.length ∧ 0 ≤ (gt L i).b ∧ (gt L i).b < P.length ∧ (gt L i).a ≠ (gt L i).b
  pr : (pairsN L L.length).length ≤ 40
theorem rok_of {P : List Int} {L : List Pr} (h : rchkS P L = 0) : ROK P L := by
  unfold rchkS at h
  split at h
  · cases h
  split at h
  · rename_i h1; exact absurd h h1
  split at h
  · cases h
  split at h
  · rename_i h1; exact absurd h h1
  split at h
  · cases h
  rename_i h1 h2 h3 h4 h5
  refine ⟨by omega, by omega, fun i hi => ?_, by omega, fun i hi => ?_, by omega⟩
  · have := ferr_all (Decidable.not_not.mp h2) i hi
    simp only [ptErr] at this
    split at this
    · cases this
    · omega
  · have := ferr_all (Decidable.not_not.mp h4) i hi
    simp only [prErr] at this
    split at this
    · cases this
    · exact ⟨by omega, by omega, by omega, by omega, by omega⟩
/-- The most points of a team over the first matches. -/
def mostN (P : List Int) (L : List Pr) (t : Int) : Nat → Int
  | 0 => gt P t.toNat
  | u + 1 => if (gt L u).a = t ∨ (gt L u).b = t then mostN P L t u + 2 else mostN P L t u
theorem most_rng {P : List Int} {L : List Pr} {t : Int} (h0 : 0 ≤ gt P t.toNat) (h1 : gt P t.toNat ≤ 800) : ∀ u, 0 ≤ mostN P L t u ∧ mostN P L t u ≤ 800 + 2 * u
  | 0 => ⟨h0, by rw [mostN]; omega⟩
  | u + 1 => by
    have := most_rng h0 h1 u (L := L)
    rw [mostN]
    split <;> omega
def mostS (P : List Int) (L : List Pr) (t : Int) : Int × Int :=
  if rchkS P L ≠ 0 then (0, rchkS P L) else if t < 0 ∨ (P.length : Int) ≤ t then (0, 6) else (mostN P L t L.length, 0)
/-- The points after results. -/
def play1 (L : List Pr) (R : List Int) (u : Nat) (o : List Int) : List Int := o.set (gt L u).a.toNat (gt o (gt L u).a.toNat + gt R u)
def play2 (L : List Pr) (R : List Int) (u : Nat) (o : List Int) : List Int := o.set (gt L u).b.toNat (gt o (gt L u).b.toNat + (2 - gt R u))
def playN (P : List Int) (L : List Pr) (R : List Int) : Nat → List Int
  | 0 => P
  | u + 1 => play2 L R u (play1 L R u (playN P L R u))
theorem play1_len {L : List Pr} {R : List Int} {u : Nat} {o : List Int} : (play1 L R u o).length = o.length := by rw [play1, List.length_set]
theorem play2_len {L : List Pr} {R : List Int} {u : Nat} {o : List Int} : (play2 L R u o).length = o.length := by rw [play2, List.length_set]
theorem play_len (P : List Int) (L : List Pr) (R : List Int) (u : Nat) : (playN P L R u).length = P.length := by
  induction u with
  | zero => rfl
  | succ u ih => rw [playN, play2_len, play1_len, ih]
def resOK (R : List Int) : Prop := ∀ i, i < R.length → 0 ≤ gt R i ∧ gt R i ≤ 2
theorem play_rng {P : List Int} {L : List Pr} {R : List Int} (g : ROK P L) (hl : R.length = L.length) (hr : resOK R) : ∀ u, u ≤ L.length →
    (∀ j, j < P.length → 0 ≤ gt (playN P L R u) j ∧ gt (playN P L R u) j ≤ 800 + 4 * (u : Int)) ∧ (u < L.length → ∀ j, j < P.length → 0 ≤ gt (play1 L R u (playN P L R u)) j ∧ gt (play1 L R u (playN P L R u)) j ≤ 802 + 4 * (u : Int))
  | 0, h0 => by
    have h1 : ∀ j, j < P.length → 0 ≤ gt (playN P L R 0) j ∧ gt (playN P L R 0) j ≤ 800 + 4 * ((0 : Nat) : Int) := fun j hj => by have := g.pt j hj; rw [playN]; omega
    refine ⟨h1, fun hu j hj => ?_⟩
    have e := g.ed 0 hu
    have r := hr 0 (by omega)
    have a1 := h1 (gt L 0).a.toNat (by omega)
    have a2 := h1 j hj
    rw [play1, gt_set _ _ _ _ (by rw [play_len]; omega)]
    split <;> omega
  | u + 1, h => by
    have ih := (play_rng g hl hr u (by omega)).2 (by omega)
    have e := g.ed u (by omega)
    have r := hr u (by omega)
    have h1 : ∀ j, j < P.length → 0 ≤ gt (playN P L R (u + 1)) j ∧ gt (playN P L R (u + 1)) j ≤ 800 + 4 * ((u + 1 : Nat) : Int) := fun j hj => by
      have b1 := ih (gt L u).b.toNat (by omega)
      have b2 := ih j hj
      rw [playN, play2, gt_set _ _ _ _ (by rw [play1_len, play_len]; omega)]
      split <;> omega
    refine ⟨h1, fun hu j hj => ?_⟩
    have e' := g.ed (u + 1) hu
    have r' := hr (u + 1) (by omega)
    have a1 := h1 (gt L (u + 1)).a.toNat (by omega)
    have a2 := h1 j hj
    rw [play1, gt_set _ _ _ _ (by rw [play_len]; omega)]
    split <;> omega
open Classical in
noncomputable def playA (P : List Int) (L : List Pr) (R : List Int) : AV :=
  if rchkS P L ≠ 0 ∨ R.length ≠ L.length ∨ ¬ resOK R then nilP else intsAV (playN P L R L.length)
open Classical in
noncomputable def playE (P : List Int) (L : List Pr) (R : List Int) : Int :=
  if rchkS P L ≠ 0 then rchkS P L else if R.length ≠ L.length then 1 else if ¬ resOK R then 2 else 0
/-- The first team that can pass one. -/
def passN (P : List Int) (L : List Pr) (t : Int) : Nat → Int
  | 0 => -1
  | u + 1 => if passN P L t u ≠ -1 then passN P L t u else if (u : Int) ≠ t ∧ gt P t.toNat < mostN P L u L.length then u else -1
theorem pass_at {P : List Int} {L : List Pr} {t : Int} {u : Nat} (h : passN P L t u = -1) (h1 : (u : Int) ≠ t) (h2 : gt P t.toNat < mostN P L u L.length) : ∀ k, u < k → passN P L t k = u
  | 0, hk => by omega
  | k + 1, hk => by
    rw [passN]
    by_cases hu : u = k
    · subst hu; rw [if_neg (fun hh => hh h), if_pos ⟨h1, h2⟩]
    · rw [pass_at h h1 h2 k (by omega), if_pos (by omega)]
theorem pass_on {P : List Int} {L : List Pr} {t : Int} {u : Nat} (h : passN P L t u = -1) (h1 : ¬ ((u : Int) ≠ t ∧ gt P t.toNat < mostN P L u L.length)) : passN P L t (u + 1) = -1 := by
  rw [passN, if_neg (fun hh => hh h), if_neg h1]
def thruS (P : List Int) (L : List Pr) (t : Int) : Bool × Int × Int :=
  if (mostS P L t).2 ≠ 0 then (false, 0, (mostS P L t).2) else (decide (passN P L t P.length = -1), passN P L t P.length, 0)
end Go.Proofs.Ytdicnojnkbmdlaa
