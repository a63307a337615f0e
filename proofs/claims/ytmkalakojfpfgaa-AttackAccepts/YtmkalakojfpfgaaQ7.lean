/-
  The table as the program fills it; the state in memory.
-/
import Derived.Test.YtmkalakojfpfgaaQ6
set_option linter.unusedVariables false
namespace Go.Proofs.Ytmkalakojfpfgaa
open Go Go.Am
theorem st_err (rows : Tb) (q la : Int) : (statesS rows q la).2 = checkS rows q la := by
  unfold statesS
  split
  · rfl
  · rename_i h; exact (Classical.not_not.mp h).symm
theorem st_num {rows : Tb} {q la : Int} (h : checkS rows q la = 0) : (statesS rows q la).1 = stN rows q := by rw [statesS, if_neg (fun hh => hh h)]
theorem src_of {H : Heap} {x : AV} {c : List Int} {B n : Nat} (h : x = intsAV c ∨ (x = .own 1 B 0 n ∧ c = List.replicate n 0)) (hq : hget H B = some ((List.replicate n (0 : Int)).map AV.i)) : Src H x c := by
  rcases h with rfl | ⟨rfl, rfl⟩
  · exact .inl rfl
  · exact .inr ⟨B, by rw [List.length_replicate], hq⟩
theorem Src.len {H : Heap} {x : AV} {c : List Int} (h : Src H x c) : lenV (tyOf Try.prog 25) x = some (.i c.length) := by
  rcases h with rfl | ⟨b, rfl, hb⟩ <;> (rw [ty25]; rfl)
theorem tab_new {rows : Tb} {q : Int} {b : Nat} {K : List Int} (hl : (K.length : Int) = numS q b) (h : ∀ i, i < K.length → gt K i = -2) : TabOK rows q b K := ⟨hl, fun i hi => .inl (h i hi)⟩
theorem tab_full {rows : Tb} {q : Int} {K : List Int} (t : TabOK rows q (gt rows 0).length K) (h : ∀ i, i < K.length → gt K i ≠ -2) : FullT rows q K := ⟨t.len, fun i hi => (t.val i hi).resolve_left (h i hi)⟩
theorem set_all {K : List Int} {u : Nat} (hu : u < K.length) (h : ∀ i, i < u → gt K i = -2) : ∀ i, i < u + 1 → gt (K.set u (-2)) i = -2 := by
  intro i hi
  rw [gt_set _ _ _ _ hu]
  split
  · rfl
  · exact h i (by omega)
theorem tab_step {rows : Tb} {q : Int} {bk u : Nat} {K K' : List Int} {H H' : Heap} {v : Int} (t : TabUp rows q bk K H K' H') (h : ∀ i, i < u → gt K i ≠ -2) (hv : gt K' u = v) (hn : v ≠ -2) : ∀ i, i < u + 1 → gt K' i ≠ -2 := by
  intro i hi
  by_cases e : i = u
  · rw [e, hv]; exact hn
  · rw [t.up i (h i (by omega))]; exact h i (by omega)
end Go.Proofs.Ytmkalakojfpfgaa
