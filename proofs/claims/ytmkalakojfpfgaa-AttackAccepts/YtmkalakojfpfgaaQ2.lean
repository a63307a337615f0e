/-
  States in memory, and steps of the walks over them.
-/
import Derived.Test.YtmkalakojfpfgaaQ
set_option linter.unusedVariables false
namespace Go.Proofs.Ytmkalakojfpfgaa
open Go Go.Am
abbrev intsAV (l : List Int) : AV := .sl l.length (l.map AV.i)
theorem frz_rowsA (H : Heap) (b d : Nat) (rows : Tb) : frz H b (d + 3) (rowsAV rows) = rowsAV rows := by
  show AV.sl rows.length ((rows.map rowAV).map (frz H b (d + 2))) = _
  rw [List.map_map]
  congr 1
  apply List.map_congr_left
  intro r _
  show AV.sl r.length ((r.map AV.i).map (frz H b (d + 1))) = _
  rw [List.map_map]
  rfl
theorem frz_ints (H : Heap) (b d : Nat) (l : List Int) : (l.map AV.i).map (frz H b (d + 1)) = l.map AV.i := by
  rw [List.map_map]; rfl
theorem frz_own {H : Heap} {base d z b o n : Nat} {k : Blk} (hb : ¬ b < base) (hk : hget H b = some k) : frz H base (d + 1) (.own z b o n) = .sl n ((k.drop o).map (frz H base d)) := by
  simp [frz, hb, hk]
theorem frz_ownI {H : Heap} {base d b n : Nat} {l : List Int} (hb : ¬ b < base) (hk : hget H b = some (l.map AV.i)) (hn : n = l.length) : frz H base (d + 2) (.own 1 b 0 n) = intsAV l := by
  rw [frz_own hb hk, List.drop_zero, frz_ints, hn]
/-- A list of numbers, handed over as data or as memory. -/
def Src (H : Heap) (x : AV) (c : List Int) : Prop := x = intsAV c ∨ ∃ b, x = .own 1 b 0 c.length ∧ hget H b = some (c.map AV.i)
theorem Src.frz {H : Heap} {x : AV} {c : List Int} (h : Src H x c) (d : Nat) : Go.Am.frz H 0 (d + 2) x = intsAV c := by
  rcases h with rfl | ⟨b, rfl, hb⟩
  · show AV.sl c.length ((c.map AV.i).map (Go.Am.frz H 0 (d + 1))) = _
    rw [frz_ints]
  · exact frz_ownI (by omega) hb rfl
theorem Src.mono {H H' : Heap} {x : AV} {c : List Int} (h : Src H x c) (hh : ∀ b k, hget H b = some k → hget H' b = some k) : Src H' x c := by
  rcases h with rfl | ⟨b, rfl, hb⟩
  · exact .inl rfl
  · exact .inr ⟨b, rfl, hh _ _ hb⟩
theorem Src.st {H : Heap} {x : AV} {c : List Int} (h : Src H x c) : storable x = true := by
  rcases h with rfl | ⟨b, rfl, hb⟩ <;> rfl
theorem bs25e (lim : Nat) (H : Heap) (ev : Operand → AV) : effV Try.prog lim (.buildSlice 25 0 #[]) ev H = some (.own 1 H.length 0 0, H ++ [some []]) := by
  simp only [effV, tk25, ty3]
  rw [if_pos ⟨rfl, by decide, by decide⟩]
  rfl
theorem ints_st (c : List Int) : (c.map AV.i).all storable = true := by
  induction c with
  | nil => rfl
  | cons x r ih => rw [List.map_cons, List.all_cons, ih]; rfl
theorem app25g {lim : Nat} {H : Heap} {b : Nat} {x : AV} {c : List Int} (hs : Src H x c) (hb : hget H b = some []) (hl : lim ≤ b) (hm : c.length ≤ 1000000) :
    ∃ H', appendV Try.prog lim H 25 (.own 1 b 0 0) x = some (.own 1 H.length 0 c.length, H') ∧ MGrew H b H' (c.map AV.i) := by
  have src : srcCells H 1 x = some (c.length, c.map AV.i) := by
    rcases hs with rfl | ⟨b', rfl, hb'⟩
    · simp only [srcCells, Nat.mul_one, List.length_map]
      rw [if_pos (Nat.le_refl _), List.take_of_length_le (by simp)]
    · simp only [srcCells, hb', Nat.mul_one, List.length_map, Nat.zero_add, List.drop_zero]
      rw [if_pos (Nat.le_refl _), List.take_of_length_le (by simp)]
  refine ⟨_, ?_, MGrew.of _ _ _⟩
  simp only [appendV, tk25, ty3, src, hb]
  rw [if_pos ⟨rfl, by decide, ints_st c⟩]
  simp only [List.drop_nil, List.take_nil, List.nil_append, Nat.zero_add]
  rw [if_pos ⟨hl, trivial, by simp, by omega, by omega⟩]
theorem bld48o (z b o n : Nat) (j : Int) : buildV Try.prog 48 [(0, .own z b o n), (1, AV.i j)] = some (.agg [.own z b o n, AV.i j]) := by
  simp only [buildV, ty48, places, ty25, ty3]
  rfl
attribute [go_sem] bld48o
theorem enc_tail {q : Int} (hq : 0 ≤ q) : ∀ (c : List Int), (∀ x, x ∈ c → 0 ≤ x ∧ x ≤ q) → ∀ k, encC q (c.drop k) ≤ encC q c
  | c, h, 0 => Int.le_refl _
  | [], h, k + 1 => Int.le_refl _
  | x :: r, h, k + 1 => by
    have hr : ∀ y, y ∈ r → 0 ≤ y ∧ y ≤ q := fun y hy => h y (List.mem_cons_of_mem _ hy)
    have ih := enc_tail hq r hr k
    have e := (enc_rng hq r hr).1
    have hx := h x (List.mem_cons_self ..)
    have h1 : 0 ≤ q * encC q r := Int.mul_nonneg hq e
    show encC q (r.drop k) ≤ encC q (x :: r)
    rw [encC, Int.add_mul, Int.one_mul]
    omega
theorem enc_bd {rows : Tb} {q la0 : Int} (g : Good rows q la0) {c : List Int} {la : Int} (h : StOK q (gt rows 0).length c la) : 0 ≤ encC q c ∧ encC q c ≤ 200000 ∧ 0 ≤ encC q c * ((c.length : Int) + 1) ∧ encC q c * ((c.length : Int) + 1) ≤ 200000 := by
  have q1 := g.q1
  have hi := idx_rng (by omega) h
  have hn := num_eq g
  have hst := g.st
  have e := (enc_rng (q := q) (by omega) c h.c.2).1
  have l0 := h.l0
  have l1 := h.l1
  rw [hn] at hst
  unfold idxS at hi
  rw [h.c.1]
  have h2 : 0 ≤ encC q c * (((gt rows 0).length : Nat) : Int) := Int.mul_nonneg e (by omega)
  rw [Int.mul_add, Int.mul_one] at hi ⊢
  exact ⟨e, by omega, by omega, by omega⟩
theorem ren_ints (f : Nat → Nat) (d : Nat) (l : List Int) : (l.map AV.i).map (ren f (d + 1)) = l.map AV.i := by
  rw [List.map_map]; rfl
theorem dec_next {q : Int} {D pre : List Int} {u b : Nat} {z : Int} (hu : u < b) (hD : D.length = b) (h : D.take u ++ decC q (b - u) z = pre) : (D.set u (z % (q + 1))).take (u + 1) ++ decC q (b - (u + 1)) (z / (q + 1)) = pre := by
  have e : (D.set u (z % (q + 1))).take (u + 1) = D.take u ++ [z % (q + 1)] := by
    rw [take_gt (by rw [List.length_set]; omega), gt_set _ _ _ _ (by omega), if_pos rfl, List.take_set_of_le (Nat.le_refl _)]
  rw [e, List.append_assoc]
  rw [show b - u = (b - (u + 1)) + 1 by omega, decC] at h
  exact h
theorem dec_nextA {q : Int} {w pre : List Int} {u b : Nat} {z : Int} (hu : u < b) (h : w ++ decC q (b - u) z = pre) : (w ++ [z % (q + 1)]) ++ decC q (b - (u + 1)) (z / (q + 1)) = pre := by
  rw [List.append_assoc]
  rw [show b - u = (b - (u + 1)) + 1 by omega, decC] at h
  exact h
theorem num_bd {rows : Tb} {q la0 : Int} (g : Good rows q la0) : numS q (gt rows 0).length ≤ 200000 := by rw [← num_eq g]; exact g.st
end Go.Proofs.Ytmkalakojfpfgaa
