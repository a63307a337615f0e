/-
  The way that a plan takes through the states, and what a plan is.
-/
import Derived.Test.YtmkalakojfpfgaaQ5
set_option linter.unusedVariables false
namespace Go.Proofs.Ytmkalakojfpfgaa
open Go Go.Am
abbrev potB (rows : Tb) (q : Int) (c : List Int) (la : Int) : Int := pot rows q (gt rows 0).length c la
/-- Whether the next over of a cheapest way may be this bowler's. -/
def Hit (rows : Tb) (q : Int) (c : List Int) (la : Int) (j : Nat) : Prop :=
  (j : Int) ≠ la ∧ gt c j < q ∧ potB rows q (aft c j) j ≠ -1 ∧ gt (gt rows (sumL c).toNat) j + potB rows q (aft c j) j = potB rows q c la
def FirstJ (rows : Tb) (q : Int) (c : List Int) (la : Int) (j : Nat) : Prop := j < c.length ∧ Hit rows q c la j ∧ ∀ k, k < j → ¬ Hit rows q c la k
theorem first_uni {rows : Tb} {q : Int} {c : List Int} {la : Int} {j j' : Nat} (h : FirstJ rows q c la j) (h' : FirstJ rows q c la j') : j = j' := by
  rcases Nat.lt_trichotomy j j' with h1 | h1 | h1
  · exact absurd h.2.1 (h'.2.2 _ h1)
  · exact h1
  · exact absurd h'.2.1 (h.2.2 _ h1)
abbrev zeroC (rows : Tb) : List Int := List.replicate (gt rows 0).length 0
inductive Reach (rows : Tb) (q la0 : Int) : List Int → List Int → Int → Prop
  | nil : Reach rows q la0 [] (zeroC rows) la0
  | snoc {w c : List Int} {la : Int} {j : Nat} : Reach rows q la0 w c la → FirstJ rows q c la j → Reach rows q la0 (w ++ [(j : Int)]) (aft c j) j
theorem reach_uni {rows : Tb} {q la0 : Int} {w c : List Int} {la : Int} (h : Reach rows q la0 w c la) : ∀ {w' c' : List Int} {la' : Int}, Reach rows q la0 w' c' la' → w.length = w'.length → w = w' ∧ c = c' ∧ la = la' := by
  induction h with
  | nil =>
    intro w' c' la' h' hl
    cases h' with
    | nil => exact ⟨rfl, rfl, rfl⟩
    | snoc a b => simp at hl
  | snoc a b ih =>
    intro w' c' la' h' hl
    cases h' with
    | nil => simp at hl
    | snoc a' b' =>
      obtain ⟨rfl, rfl, rfl⟩ := ih a' (by simpa using hl)
      obtain rfl := first_uni b b'
      exact ⟨rfl, rfl, rfl⟩
theorem scan_hit {rows : Tb} {q : Int} {i : Nat} {c : List Int} {la : Int} {g : Nat → Int} : ∀ b, scanJ rows q i c la g b ≠ -1 → ∃ j, j < b ∧ (j : Int) ≠ la ∧ gt c j < q ∧ g j ≠ -1 ∧ gt (gt rows i) j + g j = scanJ rows q i c la g b
  | 0, h => absurd rfl h
  | b + 1, h => by
    rw [scanJ] at h ⊢
    split
    · rename_i h1
      exact ⟨b, by omega, h1.1, h1.2.1, h1.2.2.1, rfl⟩
    · rename_i h1
      rw [if_neg h1] at h
      obtain ⟨j, h2, h3⟩ := scan_hit b h
      exact ⟨j, by omega, h3⟩
theorem hit_ex {rows : Tb} {q : Int} {c : List Int} {la : Int} (hl : c.length = (gt rows 0).length) (hs : sumL c < rows.length) (hp : potB rows q c la ≠ -1) (hn : ∀ k, k < (gt rows 0).length → ¬ Hit rows q c la k) : False := by
  have e := pot_lt (q := q) (la := la) hl hs
  unfold potB at hp
  rw [e] at hp
  obtain ⟨j, hj, h1, h2, h3, h4⟩ := scan_hit _ hp
  exact hn j hj ⟨h1, h2, h3, by rw [h4]; exact e.symm⟩
theorem hit_step {rows : Tb} {q : Int} {c : List Int} {la : Int} {j : Nat} (h : ∀ k, k < j → ¬ Hit rows q c la k) (h' : ¬ Hit rows q c la j) : ∀ k, k < j + 1 → ¬ Hit rows q c la k := by
  intro k hk
  rcases Nat.lt_succ_iff_lt_or_eq.1 hk with hk | rfl
  · exact h k hk
  · exact h'
theorem enc_zero (q : Int) : ∀ b, encC q (List.replicate b 0) = 0
  | 0 => rfl
  | b + 1 => by rw [List.replicate_succ, encC, enc_zero q b]; simp
theorem sum_zero : ∀ b, sumL (List.replicate b 0) = 0
  | 0 => rfl
  | b + 1 => by rw [List.replicate_succ, sumL, sum_zero b]; rfl
theorem zero_st {rows : Tb} {q la0 : Int} (g : Good rows q la0) : StOK q (gt rows 0).length (zeroC rows) la0 := by
  have := g.q1
  exact ⟨⟨by simp, fun x hx => by rw [List.mem_replicate] at hx; omega⟩, g.l1, g.l2⟩
theorem zero_idx (rows : Tb) (q la0 : Int) : idxS q (gt rows 0).length (zeroC rows) la0 = la0 + 1 := by rw [idxS, enc_zero]; omega
abbrev planN : AV := .agg [nilI, .i 0, nilI]
abbrev planAV (w : List Int) (v : Int) (K : List Int) : AV := .agg [intsAV w, .i v, intsAV K]
/-- What both answer. -/
inductive PlanR (rows : Tb) (q la0 : Int) : AV → Prop
  | bad (h : checkS rows q la0 ≠ 0) : PlanR rows q la0 (.tup [planN, .i (checkS rows q la0)])
  | none (h : checkS rows q la0 = 0) (hp : potB rows q (zeroC rows) la0 = -1) : PlanR rows q la0 (.tup [planN, .i 13])
  | plan (h : checkS rows q la0 = 0) (hp : potB rows q (zeroC rows) la0 ≠ -1) {w K c : List Int} {la : Int} (hK : FullT rows q K) (hw : Reach rows q la0 w c la) (hl : w.length = rows.length) : PlanR rows q la0 (.tup [planAV w (potB rows q (zeroC rows) la0) K, .i 0])
theorem plan_uni {rows : Tb} {q la0 : Int} {r r' : AV} (h : PlanR rows q la0 r) (h' : PlanR rows q la0 r') : r = r' := by
  cases h with
  | bad h =>
    cases h' with
    | bad _ => rfl
    | none h2 _ => exact absurd h2 h
    | plan h2 _ _ _ _ => exact absurd h2 h
  | none h hp =>
    cases h' with
    | bad h2 => exact absurd h h2
    | none _ _ => rfl
    | plan _ h2 _ _ _ => exact absurd hp h2
  | plan h hp hK hw hl =>
    cases h' with
    | bad h2 => exact absurd h h2
    | none _ h2 => exact absurd h2 hp
    | plan _ _ hK' hw' hl' =>
      obtain rfl := full_uni hK hK'
      obtain ⟨rfl, _, _⟩ := reach_uni hw hw' (by omega)
      rfl
theorem bld37z : buildV Try.prog 37 [] = some planN := by
  simp only [buildV, ty37, places, ty25, ty35, ty2]
  rfl
theorem bld37 (v : Int) (n : Nat) (l : List AV) : buildV Try.prog 37 [(1, AV.i v), (2, .sl n l)] = some (.agg [nilI, AV.i v, .sl n l]) := by
  simp only [buildV, ty37, places, ty25, ty35, ty2]
  rfl
theorem bld37o (v : Int) (z b o n : Nat) : buildV Try.prog 37 [(1, AV.i v), (2, .own z b o n)] = some (.agg [nilI, AV.i v, .own z b o n]) := by
  simp only [buildV, ty37, places, ty25, ty35, ty2]
  rfl
attribute [go_sem] bld37z bld37 bld37o
end Go.Proofs.Ytmkalakojfpfgaa
