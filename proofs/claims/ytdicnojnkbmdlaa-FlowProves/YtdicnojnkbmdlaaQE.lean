/-
  What Max gives, as the search and the raising of the flow determine it.
-/
import Derived.Test.YtdicnojnkbmdlaaQD
set_option linter.unusedVariables false
namespace Go.Proofs.Ytdicnojnkbmdlaa
open Go Go.Am

theorem ms27n (lim : Nat) (H : Heap) (n : Nat) (x y : Operand) (ev : Operand → AV) (hn : n ≤ 1000000) (h : ev x = AV.i n) (h' : ev y = AV.i n) :
    effV Try.prog lim (.makeSlice 27 x y) ev H = some (.own 1 H.length 0 n, H ++ [some ((List.replicate n (0 : Int)).map AV.i)]) := by
  have := ms27 lim H n x y ev (by omega) (by omega) h h'
  rwa [Int.toNat_natCast] at this
abbrev nilA : AV := .v (.slice none 0 0)
open Classical in
noncomputable def maxF (n s t : Int) (E : List Ed) : List Int := if h : ∃ a, Runs n s t E (List.replicate E.length 0) a then h.choose else []
open Classical in
noncomputable def maxA (n s t : Int) (E : List Ed) : AV := if gchkS n s t E ≠ 0 then nilA else intsAV (maxF n s t E)
open Classical in
noncomputable def maxB (n s t : Int) (E : List Ed) : AV := if gchkS n s t E ≠ 0 then nilA else boolsAV (reachS n s E (maxF n s t E)).seen
theorem maxF_eq {n s t : Int} {E : List Ed} {f : List Int} (h : Runs n s t E (List.replicate E.length 0) f) : maxF n s t E = f := by
  have hx : ∃ a, Runs n s t E (List.replicate E.length 0) a := ⟨f, h⟩
  unfold maxF
  rw [dif_pos hx]
  exact runs_det hx.choose_spec h
theorem maxA_err {n s t : Int} {E : List Ed} (h : gchkS n s t E ≠ 0) : maxA n s t E = nilA := by rw [maxA, if_pos h]
theorem maxB_err {n s t : Int} {E : List Ed} (h : gchkS n s t E ≠ 0) : maxB n s t E = nilA := by rw [maxB, if_pos h]
theorem maxA_ok {n s t : Int} {E : List Ed} {f : List Int} (h : gchkS n s t E = 0) (hr : Runs n s t E (List.replicate E.length 0) f) : maxA n s t E = intsAV f := by rw [maxA, if_neg (fun hh => hh h), maxF_eq hr]
theorem maxB_ok {n s t : Int} {E : List Ed} {f : List Int} (h : gchkS n s t E = 0) (hr : Runs n s t E (List.replicate E.length 0) f) : maxB n s t E = boolsAV (reachS n s E f).seen := by rw [maxB, if_neg (fun hh => hh h), maxF_eq hr]
theorem tree_pos {n s t : Int} {E : List Ed} {f way : List Int} {m : Nat} (g : GOK n s t E) (T : TreeN n s E f way m t) : 0 < m := by
  cases m with
  | zero => exact absurd T.symm g.st
  | succ m => omega
/-- A way is no longer than there are edges. -/
theorem way_short {n s t : Int} {E : List Ed} {f : List Int} {m : Nat} (g : GOK n s t E) (h : gt (reachS n s E f).seen t.toNat = true) (T : TreeN n s E f (reachS n s E f).way m t) : m ≤ E.length := by
  obtain ⟨m', T', W⟩ := tree_sink g h
  have := tree_uni T T'
  subst this
  have key : ∀ (N : Nat) (l : List Nat), l.Nodup → (∀ x, x ∈ l → x < N) → l.length ≤ N := by
    intro N
    induction N with
    | zero =>
      intro l hn hl
      cases l with
      | nil => exact Nat.le_refl _
      | cons x r => exact absurd (hl x (List.mem_cons_self ..)) (by omega)
    | succ N ih =>
      intro l hn hl
      by_cases hm : N ∈ l
      · have h1 := ih (l.erase N) (hn.erase N) fun x hx => by
          have h2 := (List.Nodup.mem_erase_iff hn).1 hx
          have := hl x h2.2
          omega
        rw [List.length_erase_of_mem hm] at h1
        omega
      · have := ih l hn fun x hx => by
          have h2 := hl x hx
          have : x ≠ N := fun h => hm (h ▸ hx)
          omega
        omega
  have := key E.length _ W.nd fun x hx => by
    obtain ⟨c, hc, rfl⟩ := List.mem_map.1 hx
    exact (W.arc c hc).ix
  rwa [List.length_map, wayN_len] at this
end Go.Proofs.Ytdicnojnkbmdlaa
