/-
  Travel between grounds: the errors of a table. Plain definitions.
-/
import Derived.Test.YtocmcdejkoejhaaDoorK2
set_option linter.unusedVariables false
namespace Go.Proofs.YtocmcdejkoejhaaDoor
open Go Go.Am
abbrev rowsAV (t : List (List Int)) : AV := .sl t.length (t.map intsAV)
def ferr (f : Nat → Int) : Nat → Int
  | 0 => 0
  | n + 1 => if ferr f n ≠ 0 then ferr f n else f n
theorem ferr_at {f : Nat → Int} {u : Nat} (h : ferr f u = 0) (hf : f u ≠ 0) : ∀ n, u < n → ferr f n = f u
  | 0, hn => by omega
  | n + 1, hn => by
    unfold ferr
    by_cases hu : u = n
    · subst hu; rw [if_neg (by omega)]
    · rw [ferr_at h hf n (by omega), if_pos hf]
theorem ferr_ok {f : Nat → Int} {u : Nat} (h : ferr f u = 0) (hf : f u = 0) : ferr f (u + 1) = 0 := by
  unfold ferr
  rw [if_neg (by omega), hf]
theorem ferr_all {f : Nat → Int} : ∀ {n : Nat}, ferr f n = 0 → ∀ i, i < n → f i = 0
  | 0, _, i, hi => by omega
  | n + 1, h, i, hi => by
    unfold ferr at h
    by_cases h0 : ferr f n ≠ 0
    · rw [if_pos h0] at h; omega
    · rw [if_neg h0] at h
      by_cases hn : i = n
      · subst hn; exact h
      · exact ferr_all (Decidable.not_not.mp h0) i (by omega)

/-- The error at a place of the table. -/
def trE (t : List (List Int)) (i j : Nat) : Int :=
  if gt (gt t i) j < 0 ∨ 30 < gt (gt t i) j then 2 else if i = j ∧ ¬ gt (gt t i) j = 0 then 11 else if ¬ gt (gt t j) i = gt (gt t i) j then 13 else 0
def rowE (t : List (List Int)) (i : Nat) : Int := ferr (trE t i) t.length
def lnE (t : List (List Int)) (i : Nat) : Int := if ¬ (gt t i).length = t.length then 1 else 0
def ctS (t : List (List Int)) : Int :=
  if t.length = 0 then 6 else if 20 < t.length then 9 else if ¬ ferr (lnE t) t.length = 0 then ferr (lnE t) t.length else ferr (rowE t) t.length
theorem ln_of {t : List (List Int)} (h : ferr (lnE t) t.length = 0) : ∀ i, i < t.length → (gt t i).length = t.length := fun i hi => by
  have := ferr_all h i hi
  unfold lnE at this
  split at this
  · cases this
  · rename_i hh; exact Decidable.not_not.mp hh
theorem ct_a {t : List (List Int)} (h : t.length = 0) : ctS t = 6 := by rw [ctS, if_pos h]
theorem ct_b {t : List (List Int)} (h : ¬ t.length = 0) (h2 : 20 < t.length) : ctS t = 9 := by rw [ctS, if_neg h, if_pos h2]
theorem ct_c {t : List (List Int)} (h : ¬ t.length = 0) (h2 : ¬ 20 < t.length) {u : Nat} (hu : u < t.length) (hz : ferr (lnE t) u = 0) (hb : ¬ (gt t u).length = t.length) : ctS t = 1 := by
  have h1 : lnE t u = 1 := by rw [lnE, if_pos hb]
  have h3 := ferr_at hz (by rw [h1]; decide) t.length hu
  rw [ctS, if_neg h, if_neg h2, if_pos (by rw [h3, h1]; decide), h3, h1]
theorem ct_d {t : List (List Int)} (h : ¬ t.length = 0) (h2 : ¬ 20 < t.length) (hl : ferr (lnE t) t.length = 0) {u j : Nat} (hu : u < t.length) (hj : j < t.length) (hz : ferr (rowE t) u = 0) (hw : ferr (trE t u) j = 0) {e : Int} (he : trE t u j = e) (h0 : ¬ e = 0) : ctS t = e := by
  have h1 : rowE t u = e := by rw [rowE, ferr_at hw (by rw [he]; exact h0) _ hj, he]
  rw [ctS, if_neg h, if_neg h2, if_neg (fun hh => hh hl), ferr_at hz (by rw [h1]; exact h0) _ hu, h1]
theorem ct_e {t : List (List Int)} (h : ¬ t.length = 0) (h2 : ¬ 20 < t.length) (hl : ferr (lnE t) t.length = 0) (hz : ferr (rowE t) t.length = 0) : ctS t = 0 := by
  rw [ctS, if_neg h, if_neg h2, if_neg (fun hh => hh hl), hz]
end Go.Proofs.YtocmcdejkoejhaaDoor
