/-
  What is read and written while interruptions are joined. Plain proofs.
-/
import Derived.Test.YtaoondlakhocnaaX
set_option linter.unusedVariables false
namespace Go.Proofs.Ytaoondlakhocnaa
open Go Go.Am
theorem flatS_set1 : ∀ (l : List Stp) (u : Nat) (x : Int), u < l.length → setL (flatS l) (u * 3 + 1) [AV.i x] = flatS (l.set u ⟨(gt l u).b, x, (gt l u).w⟩)
  | [], u, x, h => by simp at h
  | s :: l, 0, x, _ => rfl
  | s :: l, u + 1, x, h => by
    have ih := flatS_set1 l u x (by simpa using h)
    have e : flatS (s :: l) = AV.i s.b :: AV.i s.a :: AV.i s.w :: flatS l := rfl
    have e2 : flatS ((s :: l).set (u + 1) ⟨(gt (s :: l) (u + 1)).b, x, (gt (s :: l) (u + 1)).w⟩) = AV.i s.b :: AV.i s.a :: AV.i s.w :: flatS (l.set u ⟨(gt l u).b, x, (gt l u).w⟩) := rfl
    rw [e, e2, ← ih, show (u + 1) * 3 + 1 = u * 3 + 1 + 1 + 1 + 1 by omega]
    rfl
abbrev nilS : AV := .v (.slice none 0 0)
theorem join_hit {lo b : Nat} {H' : Heap} {l : List Stp} {u : Nat} (h0 : jn l u ≠ []) (h : (gt (jn l u) ((jn l u).length - 1)).a = (gt l u).b) (hw : (gt (jn l u) ((jn l u).length - 1)).w = (gt l u).w) (hb : lo ≤ b)
    (q : hget H' b = some (flatS ((jn l u).set ((jn l u).length - 1) ⟨(gt (jn l u) ((jn l u).length - 1)).b, (gt l u).a, (gt (jn l u) ((jn l u).length - 1)).w⟩))) : OutS lo H' (.own 3 b 0 (jn l u).length) (jn l (u + 1)) := by
  have hp : 0 < (jn l u).length := Nat.pos_of_ne_zero fun hh => h0 (List.length_eq_zero_iff.1 hh)
  rw [jn, jst, if_pos ⟨hp, h, hw⟩]
  exact .inr ⟨fun hh => by have := congrArg List.length hh; simp at this; exact h0 this, b, by rw [List.length_set], hb, q⟩
theorem join_miss {lo b : Nat} {H H' : Heap} {l : List Stp} {u m : Nat} (g : MGrew H b H' (flatS (jn l u ++ [gt l u]))) (hlo : lo ≤ H.length) (hm : m = (jn l u).length + 1) (h : ¬ (0 < (jn l u).length ∧ (gt (jn l u) ((jn l u).length - 1)).a = (gt l u).b ∧ (gt (jn l u) ((jn l u).length - 1)).w = (gt l u).w)) : OutS lo H' (.own 3 H.length 0 m) (jn l (u + 1)) := by
  subst hm
  rw [jn, jst, if_neg h]
  exact .inr ⟨by simp, H.length, by simp, hlo, g.new⟩
def outT (w : List Stp) : AV := if w = [] then nilS else stopsAV w
theorem frz_flatS (H : Heap) (b d : Nat) (l : List Stp) : (flatS l).map (frz H b (d + 1)) = flatS l := by
  unfold flatS
  rw [List.map_flatten, List.map_map]
  congr 1
theorem frz_own3' {H : Heap} {base d z b o n : Nat} {k : Blk} (hb : ¬ b < base) (hk : hget H b = some k) : frz H base (d + 1) (.own z b o n) = .sl n ((k.drop o).map (frz H base d)) := by
  simp [frz, hb, hk]
theorem OutS.frz {H : Heap} {base d : Nat} {o : AV} {w : List Stp} (h : OutS base H o w) : Go.Am.frz H base (d + 2) o = outT w := by
  unfold outT
  rcases h with ⟨rfl, rfl⟩ | ⟨h0, b, rfl, h2, h3⟩
  · rfl
  · rw [frz_own3' (by omega) h3, List.drop_zero, frz_flatS, if_neg h0]
theorem jn_ne {l : List Stp} (h : l ≠ []) : jn l l.length ≠ [] := by
  cases l with
  | nil => exact absurd rfl h
  | cons s l =>
    intro hh
    have e : jn (s :: l) (l.length + 1) = jst (jn (s :: l) l.length) (gt (s :: l) l.length) := rfl
    rw [show (s :: l).length = l.length + 1 from rfl, e] at hh
    have := congrArg List.length hh
    unfold jst at this
    split at this
    · rename_i h1; rw [List.length_set] at this; simp at this; rw [this] at h1; simp at h1
    · simp at this
theorem same_H {H : Heap} {live : List Nat} {e0 e1 : Env} (hl : ∀ t ∈ live, ren (rnB H.length []) 8 (e1.get t) = e0.get t) : SameUp H.length live [] e0 H e1 H :=
  ⟨[], Nat.le_refl _, rfl, by simp, by simp, by simp, by simp, hl, by simp⟩
theorem outT_ne {w : List Stp} (h : w ≠ []) : outT w = stopsAV w := by rw [outT, if_neg h]
theorem bld_bOut (x : Int) : (decide (x < 0) || decide (2147483648 < x)) = decide (bOut x) := by
  unfold bOut
  by_cases h1 : x < 0 <;> by_cases h2 : 2147483648 < x <;> simp [h1, h2]
theorem all_step2 {p : Nat → Prop} {u : Nat} (h : ∀ i, i < u → p i) (hu : p u) : ∀ i, i < u + 1 → p i := fun i hi => by
  by_cases hiu : i = u
  · subst hiu; exact hu
  · exact h i (by omega)
theorem ne56 (s : Stp) : binV Try.prog .neq 56 (.agg (stC s)) (.agg (stC s)) = some (.v (.bool false)) := by
  have h2 : ∀ a : Int, scalEq (tyOf Try.prog 2) (AV.i a) (AV.i a) = some true := fun a => by simp only [scalEq, ty2, kOf, Option.map_some, if_true, beq_self_eq_true]
  have h3 : ∀ a : Int, scalEq (tyOf Try.prog 3) (AV.i a) (AV.i a) = some true := fun a => by simp only [scalEq, ty3, kOf, Option.map_some, if_true, beq_self_eq_true]
  have e : eqOk Try.prog 56 = true := eqOk56
  have q : aggEq Try.prog 56 (stC s) (stC s) = some true := by
    simp only [aggEq, e, tk56]
    simp [fieldsEq, h2, h3]
  simp only [binV, q]
  rfl
attribute [go_sem] ne56
end Go.Proofs.Ytaoondlakhocnaa
