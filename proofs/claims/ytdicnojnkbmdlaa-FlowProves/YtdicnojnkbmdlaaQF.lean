/-
  What the statement on Max asks of its answers: calls with what Max gives.
-/
import Derived.Test.YtdicnojnkbmdlaaRL
set_option linter.unusedVariables false
namespace Go.Proofs.Ytdicnojnkbmdlaa
open Go Go.Am

theorem runs_all {n s t : Int} {E : List Ed} (g : GOK n s t E) : ∀ (k : Nat) (f : List Int), FlowOK n s t E f → (644245094400 - exc E f s E.length).toNat ≤ k → ∃ a, Runs n s t E f a
  | k, f, F, hk => by
    cases h : gt (reachS n s E f).seen t.toNat with
    | false => exact ⟨f, .stop f h⟩
    | true =>
      obtain ⟨m, T, W⟩ := tree_sink g h
      have AO := aug_ok g F T W
      have AO2 := AO.2
      have x0 := exc_rng (fRng_cap g AO.1.rng) s E.length (Nat.le_refl _)
      have g8 := g.el
      cases k with
      | zero => omega
      | succ k =>
        obtain ⟨a, ha⟩ := runs_all g k _ AO.1 (by omega)
        exact ⟨a, .step f a m h T ha⟩
theorem maxF_runs {n s t : Int} {E : List Ed} (h : gchkS n s t E = 0) : Runs n s t E (List.replicate E.length 0) (maxF n s t E) := by
  have g := gok_of h
  obtain ⟨a, ha⟩ := runs_all g _ _ (zero_ok g) (Nat.le_refl _)
  rw [maxF_eq ha]; exact ha
theorem maxA_is {n s t : Int} {E : List Ed} (h : gchkS n s t E = 0) : maxA n s t E = intsAV (maxF n s t E) := maxA_ok h (maxF_runs h)
theorem maxB_is {n s t : Int} {E : List Ed} (h : gchkS n s t E = 0) : maxB n s t E = boolsAV (reachS n s E (maxF n s t E)).seen := maxB_ok h (maxF_runs h)
theorem maxF_ok {n s t : Int} {E : List Ed} (h : gchkS n s t E = 0) : FlowOK n s t E (maxF n s t E) ∧ gt (reachS n s E (maxF n s t E)).seen t.toNat = false := runs_ok (gok_of h) (maxF_runs h) (zero_ok (gok_of h))
theorem maxA_len (n s t : Int) (E : List Ed) : ∃ k : Nat, lenV (tyOf Try.prog 27) (maxA n s t E) = some (AV.i k) := by
  by_cases h : gchkS n s t E = 0
  · rw [maxA_is h]; exact ⟨(maxF n s t E).length, by simp only [lenV, ty27, kOf, Option.map_some]⟩
  · rw [maxA_err h]; exact ⟨0, by simp only [lenV, ty27, kOf, Option.map_some]⟩
noncomputable def maxV (n s t : Int) (E : List Ed) : Int × Int := if gchkS n s t E ≠ 0 then (0, gchkS n s t E) else valueS n s t E (maxF n s t E)
theorem equal_max (lim : Nat) (H : Heap) (n s t : Int) (E : List Ed) : ACall sig lim 16 [maxB n s t E, maxB n s t E] H fun r H' => r = .v (.bool true) ∧ H' = H := by
  by_cases h : gchkS n s t E = 0
  · rw [maxB_is h]
    obtain ⟨ord, so, _, _⟩ := reach_inv (maxF n s t E) (gok_of h)
    have h1 := (gok_of h).n64
    have h2 := so.seen
    refine ACall_mono (equal_ok lim H _ _ (by omega)) ?_
    rintro r H' ⟨rfl, rfl⟩
    exact ⟨by rw [decide_eq_true rfl], rfl⟩
  · rw [maxB_err h]; exact equal_nil lim H
theorem value_max (lim : Nat) (H : Heap) (n s t : Int) (E : List Ed) : ACall sig lim 17 [.agg (graphC n s t E), maxA n s t E] H fun r H' => r = .tup [AV.i (maxV n s t E).1, AV.i (maxV n s t E).2] ∧ H' = H := by
  by_cases h : gchkS n s t E = 0
  · rw [maxA_is h, maxV, if_neg (fun hh => hh h)]
    exact value_ok lim H n s t E _
  · rw [maxV, if_pos h]; exact value_err lim H n s t E _ h
theorem rvalue_max (lim : Nat) (H : Heap) (n s t : Int) (E : List Ed) : ACall sig lim 18 [.agg (graphC n s t E), maxA n s t E] H fun r H' => r = .tup [AV.i (maxV n s t E).1, AV.i (maxV n s t E).2] ∧ H' = H := by
  by_cases h : gchkS n s t E = 0
  · rw [maxA_is h, maxV, if_neg (fun hh => hh h)]
    exact rvalue_ok lim H n s t E _
  · rw [maxV, if_pos h]; exact rvalue_err lim H n s t E _ h
end Go.Proofs.Ytdicnojnkbmdlaa
