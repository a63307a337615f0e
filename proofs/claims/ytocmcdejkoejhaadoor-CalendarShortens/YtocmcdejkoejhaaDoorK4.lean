/-
  A team's way through its visits: what Route gives. Plain definitions.
-/
import Derived.Test.YtocmcdejkoejhaaDoorK3
set_option linter.unusedVariables false
namespace Go.Proofs.YtocmcdejkoejhaaDoor
open Go Go.Am
structure Vi where
  d : Int
  g : Int
deriving DecidableEq
instance : Inhabited Vi := ⟨⟨0, 0⟩⟩
abbrev viC (s : Vi) : List AV := [AV.i s.d, AV.i s.g]
def flatV (l : List Vi) : List AV := (l.map viC).flatten
abbrev visAV (l : List Vi) : AV := .sl l.length (flatV l)
theorem flatV_len (l : List Vi) : (flatV l).length = l.length * 2 := by
  induction l with
  | nil => rfl
  | cons s l ih => unfold flatV at ih ⊢; rw [List.map_cons, List.flatten_cons, List.length_append, ih]; simp; omega
theorem flatV_get : ∀ (l : List Vi) (u k : Nat), u < l.length → k < 2 → (flatV l)[u * 2 + k]? = (viC (gt l u))[k]?
  | [], u, k, h, _ => by simp at h
  | s :: l, 0, k, _, hk => by
    unfold flatV
    rw [List.map_cons, List.flatten_cons, Nat.zero_mul, Nat.zero_add, List.getElem?_append_left (by simpa using hk)]
    rfl
  | s :: l, u + 1, k, h, hk => by
    have ih := flatV_get l u k (by simpa using h) hk
    unfold flatV at ih ⊢
    rw [List.map_cons, List.flatten_cons, List.getElem?_append_right (by simp; omega)]
    rw [show (u + 1) * 2 + k - (viC s).length = u * 2 + k by simp; omega, ih]
    rfl
/-- The error of a visit. -/
def viE (n : Nat) (s : Vi) : Int := if s.d < 0 ∨ 109572 < s.d then 2 else if s.g < 0 ∨ (n : Int) ≤ s.g then 1 else 0
/-- The first visit among the next ones that comes too soon. -/
def vF (t : List (List Int)) (l : List Vi) (rest : Int) : Nat → Nat → Int
  | 0, _ => -1
  | k + 1, i => if (gt l i).d - (gt l (i - 1)).d ≤ max rest (gt (gt t (gt l (i - 1)).g.toNat) (gt l i).g.toNat) then (i : Int) else vF t l rest k (i + 1)
def routeS (t : List (List Int)) (l : List Vi) (rest : Int) : Int × Int :=
  if ¬ ctS t = 0 then (0, ctS t) else if 400 < l.length then (0, 9) else if rest < 0 ∨ 400 < rest then (0, 2) else
  if ¬ ferr (fun i => viE t.length (gt l i)) l.length = 0 then (0, ferr (fun i => viE t.length (gt l i)) l.length) else (vF t l rest (l.length - 1) 1, 0)
theorem vF_hit {t : List (List Int)} {l : List Vi} {rest : Int} {z : Nat} (hz : z < l.length) (h : (gt l z).d - (gt l (z - 1)).d ≤ max rest (gt (gt t (gt l (z - 1)).g.toNat) (gt l z).g.toNat)) : vF t l rest (l.length - z) z = z := by
  rw [show l.length - z = (l.length - (z + 1)) + 1 by omega, vF, if_pos h]
theorem vF_miss {t : List (List Int)} {l : List Vi} {rest : Int} {z : Nat} (hz : z < l.length) (h : ¬ (gt l z).d - (gt l (z - 1)).d ≤ max rest (gt (gt t (gt l (z - 1)).g.toNat) (gt l z).g.toNat)) : vF t l rest (l.length - z) z = vF t l rest (l.length - (z + 1)) (z + 1) := by
  rw [show l.length - z = (l.length - (z + 1)) + 1 by omega, vF, if_neg h]
theorem vF_end {t : List (List Int)} {l : List Vi} {rest : Int} {z : Nat} (hz : ¬ z < l.length) : vF t l rest (l.length - z) z = -1 := by
  rw [show l.length - z = 0 by omega, vF]
theorem ct_of {t : List (List Int)} (h : ctS t = 0) : 0 < t.length ∧ t.length ≤ 20 ∧ (∀ i, i < t.length → (gt t i).length = t.length) ∧ ∀ i j, i < t.length → j < t.length → trE t i j = 0 := by
  unfold ctS at h
  split at h
  · cases h
  rename_i h1
  split at h
  · cases h
  rename_i h2
  split at h
  · rename_i h3; exact absurd h h3
  rename_i h3
  have h3' := Decidable.not_not.mp h3
  refine ⟨by omega, by omega, ln_of h3', fun i j hi hj => ?_⟩
  have := ferr_all h i hi
  exact ferr_all this j hj
end Go.Proofs.YtocmcdejkoejhaaDoor
