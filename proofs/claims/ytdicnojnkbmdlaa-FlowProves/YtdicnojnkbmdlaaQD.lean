/-
  Steps of the walks over the way to the sink.
-/
import Derived.Test.YtdicnojnkbmdlaaQC
set_option linter.unusedVariables false
namespace Go.Proofs.Ytdicnojnkbmdlaa
open Go Go.Am

theorem tree_step {n s : Int} {E : List Ed} {f way : List Int} {k : Nat} {v : Int} (T : TreeN n s E f way k v) (h : v ≠ s) :
    ∃ k' c, k = k' + 1 ∧ gt way v.toNat = c ∧ 0 ≤ v ∧ v < n ∧ ArcOK E f c ∧ TreeN n s E f way k' (tailE E c) ∧ wayN E way k v = c :: wayN E way k' (tailE E c) := by
  cases k with
  | zero => exact absurd T h
  | succ k => exact ⟨k, _, rfl, rfl, T.2.1, T.2.2.1, T.2.2.2.1, T.2.2.2.2.2, rfl⟩
theorem tree_end {n s : Int} {E : List Ed} {f way : List Int} {k : Nat} {v : Int} (T : TreeN n s E f way k v) (h : v = s) : wayN E way k v = [] := by
  cases k with
  | zero => rfl
  | succ k => exact absurd h T.1
theorem arc_pos {E : List Ed} {f : List Int} {c : Int} (A : ArcOK E f c) (h : 0 < c) : ixE c = (c - 1).toNat ∧ (c - 1).toNat < E.length ∧ roomI E f c = (gt E (c - 1).toNat).c - gt f (c - 1).toNat ∧ tailE E c = (gt E (c - 1).toNat).a ∧ ∀ d g, addV d g c = gt g (c - 1).toNat + d := by
  have e : ixE c = (c - 1).toNat := by rw [ixE, if_pos h]
  exact ⟨e, by rw [← e]; exact A.ix, by rw [roomI, if_pos h, e], by rw [tailE, if_pos h, e], fun d g => by rw [addV, if_pos h, e]⟩
theorem arc_neg {E : List Ed} {f : List Int} {c : Int} (A : ArcOK E f c) (h : ¬ 0 < c) : ixE c = (0 - c - 1).toNat ∧ (0 - c - 1).toNat < E.length ∧ roomI E f c = gt f (0 - c - 1).toNat ∧ tailE E c = (gt E (0 - c - 1).toNat).b ∧ ∀ d g, addV d g c = gt g (0 - c - 1).toNat - d := by
  have e : ixE c = (0 - c - 1).toNat := by rw [ixE, if_neg h]; congr 1; omega
  exact ⟨e, by rw [← e]; exact A.ix, by rw [roomI, if_neg h, e], by rw [tailE, if_neg h, e], fun d g => by rw [addV, if_neg h, e]⟩
/-- The same of the number of the edge and its direction. -/
theorem arc_dec {E : List Ed} {f : List Int} {c : Int} (A : ArcOK E f c) : 0 ≤ decE c ∧ decE c < E.length ∧ (decE c).toNat = ixE c ∧ roomV E f (decE c) (decide (c < 0)) = roomI E f c := by
  have hn := A.nz
  have hx := A.ix
  have e : 0 ≤ decE c ∧ (decE c).toNat = ixE c := by
    unfold decE ixE
    by_cases h : 0 < c
    · rw [if_pos h, if_pos h]; omega
    · rw [if_neg h, if_neg h, if_pos (by omega)]; omega
  refine ⟨e.1, by omega, e.2, ?_⟩
  unfold roomV roomI
  rw [e.2]
  by_cases h : 0 < c
  · rw [if_neg (by simp; omega), if_pos h]
  · rw [if_pos (by simp; omega), if_neg h]
theorem aug_step {E : List Ed} {f w W r : List Int} {d c : Int} (hd : 0 ≤ d) (hl : f.length = E.length) (hf : fRng E f) (WO : WayOK E f W) (hw : ∀ x, x ∈ W → d ≤ roomI E f x) (hW : w ++ c :: r = W) :
    (0 ≤ gt (applyW d f w) (ixE c) ∧ gt (applyW d f w) (ixE c) ≤ (gt E (ixE c)).c) ∧ (0 ≤ addV d (applyW d f w) c ∧ addV d (applyW d f w) c ≤ (gt E (ixE c)).c) ∧ (applyW d f w).length = E.length ∧
      applyW d f (w ++ [c]) = (applyW d f w).set (ixE c) (addV d (applyW d f w) c) ∧ ArcOK E f c := by
  have hm : c ∈ W := by rw [← hW]; simp
  have A := WO.arc c hm
  have h1 := apply_take hd hl hf WO hw w.length
  have h2 := apply_take hd hl hf WO hw (w.length + 1)
  rw [← hW, List.take_left] at h1
  rw [← hW, show w ++ c :: r = (w ++ [c]) ++ r by simp, show w.length + 1 = (w ++ [c]).length by simp, List.take_left, apply_app] at h2
  have hlen : (applyW d f w).length = E.length := by rw [apply_len, hl]
  have h3 := h2 (ixE c) A.ix
  rw [addE_gt (by rw [hlen]; exact A.ix), if_pos rfl] at h3
  exact ⟨h1 _ A.ix, h3, hlen, apply_app _ _ _, A⟩
theorem bs67 (lim : Nat) (H : Heap) (x : Operand) (ev : Operand → AV) (c : Int) (h : ev x = .agg (arcC c)) :
    effV Try.prog lim (.buildSlice 67 1 #[(0, x)]) ev H = some (.own 2 H.length 0 1, H ++ [some (arcC c)]) := by
  simp only [effV, tk67, ty71]
  rw [if_pos ⟨rfl, by decide, by decide⟩]
  simp only [List.map_cons, List.map_nil, h]
  rfl
/-- The way as it is gathered: nothing yet, or a block. -/
def OutA (lo : Nat) (H : Heap) (o : AV) (w : List Int) : Prop := (w = [] ∧ o = .v (.slice none 0 0)) ∨ ∃ b, o = .own 2 b 0 w.length ∧ lo ≤ b ∧ hget H b = some (flatA w)
theorem OutA.mono {lo : Nat} {H H' : Heap} {o : AV} {w : List Int} (h : OutA lo H o w) (hh : ∀ b, lo ≤ b → ∀ k, hget H b = some k → hget H' b = some k) : OutA lo H' o w := by
  rcases h with h | ⟨b, h1, h2, h3⟩
  · exact .inl h
  · exact .inr ⟨b, h1, h2, hh b h2 _ h3⟩
theorem OutA.lt {lo b : Nat} {H : Heap} {o : AV} {w : List Int} (h : OutA lo H o w) (ho : o = .own 2 b 0 w.length) : b < H.length := by
  rcases h with ⟨_, h⟩ | ⟨b', h1, _, h3⟩
  · rw [h] at ho; cases ho
  · rw [h1] at ho; cases ho; exact hget_lt h3
theorem flatA_app (w : List Int) (c : Int) : flatA (w ++ [c]) = flatA w ++ arcC c := by
  unfold flatA
  rw [List.map_append, List.flatten_append]
  simp
theorem outA_append {lim lo hi : Nat} {H : Heap} {o : AV} {w : List Int} {c : Int} {b' : Nat} (h : OutA lo H o w) (hob : ∀ b, o = .own 2 b 0 w.length → b < hi) (hc : hget H b' = some (arcC c)) (hl : lim ≤ lo) (hlo : lo ≤ H.length) (hw : w.length ≤ 100000) :
    ∃ b, lo ≤ b ∧ (b < hi ∨ b = H.length) ∧ ∃ H', appendV Try.prog lim H 67 o (.own 2 b' 0 1) = some (.own 2 H.length 0 (w.length + 1), H') ∧ MGrew H b H' (flatA (w ++ [c])) := by
  rcases h with ⟨rfl, rfl⟩ | ⟨b, rfl, h2, h3⟩
  · refine ⟨H.length, hlo, .inr rfl, _, ?_, MGrew.ofNew _ (MNew.of _ _)⟩
    simp only [appendV, tk67, ty71, srcCells, hc]
    rw [if_pos (by simp)]
    simp only [List.length_cons, List.length_nil]
    rw [if_pos ⟨trivial, by decide, rfl⟩]
    rw [if_pos ⟨by omega, by omega⟩]
    rfl
  · refine ⟨b, h2, .inl (hob b rfl), _, ?_, MGrew.of _ _ _⟩
    simp only [appendV, tk67, ty71, srcCells, hc, h3]
    rw [if_pos (by simp)]
    simp only [List.length_cons, List.length_nil]
    rw [if_pos ⟨trivial, by decide, rfl⟩]
    simp only [List.drop_zero, flatA_len]
    rw [if_pos ⟨by omega, trivial, by omega, by omega, by omega⟩]
    rw [List.take_of_length_le (by rw [flatA_len]; omega), flatA_app]
    rfl
theorem OutA.new {lo : Nat} {H H' : Heap} {b : Nat} {w : List Int} (g : MGrew H b H' (flatA w)) (hlo : lo ≤ H.length) {m : Nat} (hm : m = w.length) : OutA lo H' (.own 2 H.length 0 m) w := by
  subst hm
  exact .inr ⟨H.length, rfl, hlo, g.new⟩
end Go.Proofs.Ytdicnojnkbmdlaa
