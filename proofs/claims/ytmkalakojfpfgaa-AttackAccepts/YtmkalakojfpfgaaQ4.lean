/-
  A list of numbers as it is gathered; tables.
-/
import Derived.Test.YtmkalakojfpfgaaQ3
set_option linter.unusedVariables false
namespace Go.Proofs.Ytmkalakojfpfgaa
open Go Go.Am
abbrev nilI : AV := .v (.slice none 0 0)
def OutI (lo : Nat) (H : Heap) (o : AV) (w : List Int) : Prop := (w = [] ∧ o = nilI) ∨ ∃ b, o = .own 1 b 0 w.length ∧ lo ≤ b ∧ hget H b = some (w.map AV.i)
theorem OutI.mono {lo : Nat} {H H' : Heap} {o : AV} {w : List Int} (h : OutI lo H o w) (hh : ∀ b, lo ≤ b → ∀ k, hget H b = some k → hget H' b = some k) : OutI lo H' o w := by
  rcases h with h | ⟨b, h1, h2, h3⟩
  · exact .inl h
  · exact .inr ⟨b, h1, h2, hh b h2 _ h3⟩
theorem OutI.cells {lo : Nat} {H : Heap} {o : AV} {w : List Int} (h : OutI lo H o w) : cellsOf o = some [o] ∧ storable o = true := by
  rcases h with ⟨_, rfl⟩ | ⟨b, rfl, _⟩ <;> exact ⟨rfl, rfl⟩
theorem bs25 (lim : Nat) (H : Heap) (x : Operand) (ev : Operand → AV) (v : Int) (h : ev x = AV.i v) :
    effV Try.prog lim (.buildSlice 25 1 #[(0, x)]) ev H = some (.own 1 H.length 0 1, H ++ [some [AV.i v]]) := by
  simp only [effV, tk25, ty3]
  rw [if_pos ⟨rfl, by decide, by decide⟩]
  simp only [List.map_cons, List.map_nil, h]
  rfl
theorem outI_append {lim lo : Nat} {H : Heap} {o : AV} {w : List Int} {v : Int} {b' : Nat} (h : OutI lo H o w) (hc : hget H b' = some [AV.i v]) (hl : lim ≤ lo) (hlo : lo ≤ H.length) (hw : w.length ≤ 100000) :
    ∃ b, lo ≤ b ∧ ∃ H', appendV Try.prog lim H 25 o (.own 1 b' 0 1) = some (.own 1 H.length 0 (w.length + 1), H') ∧ MGrew H b H' ((w ++ [v]).map AV.i) := by
  rcases h with ⟨rfl, rfl⟩ | ⟨b, rfl, h2, h3⟩
  · refine ⟨H.length, hlo, _, ?_, MGrew.ofNew _ (MNew.of _ _)⟩
    simp only [appendV, tk25, ty3, srcCells, hc]
    rw [if_pos (by simp)]
    simp only [List.length_cons, List.length_nil]
    rw [if_pos ⟨trivial, by decide, rfl⟩]
    rw [if_pos ⟨by omega, by omega⟩]
    rfl
  · refine ⟨b, h2, _, ?_, MGrew.of _ _ _⟩
    simp only [appendV, tk25, ty3, srcCells, hc, h3]
    rw [if_pos (by simp)]
    simp only [List.length_cons, List.length_nil]
    rw [if_pos ⟨trivial, by decide, rfl⟩]
    simp only [List.drop_zero, List.length_map, Nat.mul_one]
    rw [if_pos ⟨by omega, trivial, by omega, by omega, by omega⟩]
    rw [List.take_of_length_le (by simp), List.map_append]
    rfl
theorem OutI.new {lo : Nat} {H' : Heap} {w : List Int} {p m : Nat} (h : hget H' p = some (w.map AV.i)) (hlo : lo ≤ p) (hm : m = w.length) : OutI lo H' (.own 1 p 0 m) w := by
  subst hm; exact .inr ⟨p, rfl, hlo, h⟩
theorem bld55 (l : Int) : buildV Try.prog 55 [(2, AV.i l)] = some (.agg [.v (.slice none 0 0), AV.i 0, AV.i l]) := by
  simp only [buildV, ty55, places, ty25, ty3]
  rfl
theorem take2 (x y : AV) : List.take 2 [x, y] = [x, y] := rfl
theorem take3 (x y z : AV) : List.take 3 [x, y, z] = [x, y, z] := rfl
attribute [go_sem] bld55 take2 take3
theorem sum_app : ∀ (w : List Int) (v : Int), sumL (w ++ [v]) = sumL w + v
  | [], v => by simp [sumL]
  | x :: r, v => by rw [List.cons_append, sumL, sumL, sum_app r v]; omega
theorem ms35 (lim : Nat) (H : Heap) (n : Int) (x y : Operand) (ev : Operand → AV) (h0 : 0 ≤ n) (hn : n ≤ 1000000) (h : ev x = AV.i n) (h' : ev y = AV.i n) :
    effV Try.prog lim (.makeSlice 35 x y) ev H = some (.own 1 H.length 0 n.toNat, H ++ [some ((List.replicate n.toNat (0 : Int)).map AV.i)]) := by
  simp only [effV, tk35, ty2, h, h']
  rw [if_pos ⟨rfl, by decide, by omega, by omega, by omega, by omega⟩]
  have key : ∀ k, (List.replicate k ([Value.int .i64 0].map AV.v)).flatten = (List.replicate k (0 : Int)).map AV.i := by
    intro k
    induction k with
    | zero => rfl
    | succ k ih => rw [List.replicate_succ, List.flatten_cons, ih, List.replicate_succ]; rfl
  rw [key]
/-- The whole table. -/
def FullT (rows : Tb) (q : Int) (K : List Int) : Prop := (K.length : Int) = numS q (gt rows 0).length ∧ ∀ i, i < K.length → gt K i = potK rows q (gt rows 0).length i
theorem full_uni {rows : Tb} {q : Int} {K K' : List Int} (h : FullT rows q K) (h' : FullT rows q K') : K = K' :=
  ext_gt (by have := h.1; have := h'.1; omega) fun i hi => by rw [h.2 i hi, h'.2 i (by have := h.1; have := h'.1; omega)]
theorem full_at {rows : Tb} {q : Int} {K : List Int} (h : FullT rows q K) (hq : 0 ≤ q) {c : List Int} {la : Int} (st : StOK q (gt rows 0).length c la) : gt K (idxS q (gt rows 0).length c la).toNat = pot rows q (gt rows 0).length c la := by
  have hi := idx_rng hq st
  have := h.1
  rw [h.2 _ (by omega), Int.toNat_of_nonneg hi.1, potK_idx hq st]
end Go.Proofs.Ytmkalakojfpfgaa
