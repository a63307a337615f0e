/-
  A table that the call makes: a block of rows, each a block of its own.
-/
import Derived.Test.YtocmcdejkoejhaaDoorK6
import Derived.Test.YtocmcdejkoejhaaDoorAmU
set_option linter.unusedVariables false
namespace Go.Proofs.YtocmcdejkoejhaaDoor
open Go Go.Am
abbrev nilS : AV := .v (.slice none 0 0)
abbrev rowC (n : Nat) (M : Mx) (i : Nat) : Blk := (rowM n M i).map AV.i
def br24 (B i : Nat) : Nat := B + 2 + 2 * i
def br25 (B i : Nat) : Nat := B + 4 * i + 1
/-- The rows' cells: u of them are there. -/
def outR (n : Nat) (br : Nat → Nat) (u : Nat) : List AV := (List.range n).map fun i => if i < u then AV.own 1 (br i) 0 n else nilS
theorem outR_len (n : Nat) (br : Nat → Nat) (u : Nat) : (outR n br u).length = n := by simp [outR]
theorem outR_full (n : Nat) (br : Nat → Nat) (i : Nat) (h : i < n) : (outR n br n)[i]? = some (.own 1 (br i) 0 n) := by
  simp [outR, h]
theorem outR_set (n : Nat) (br : Nat → Nat) (u : Nat) (h : u < n) : setL (outR n br u) u [.own 1 (br u) 0 n] = outR n br (u + 1) := by
  have e : ∀ (l : List AV) (w : Nat) (x : AV), setL l w [x] = l.set w x := fun l w x => rfl
  rw [e]
  apply List.ext_getElem (by rw [List.length_set, outR_len, outR_len])
  intro i h1 h2
  rw [List.getElem_set]
  simp only [outR, List.getElem_map, List.getElem_range]
  by_cases hi : u = i
  · subst hi; rw [if_pos rfl, if_pos (by omega)]
  · rw [if_neg hi]
    by_cases h3 : i < u
    · rw [if_pos h3, if_pos (by omega)]
    · rw [if_neg h3, if_neg (by omega)]
theorem outR_eq (n : Nat) (br : Nat → Nat) : ((List.range n).map fun i => AV.own 1 (br i) 0 n) = outR n br n := by
  apply List.ext_getElem (by simp [outR])
  intro i h1 h2
  simp only [outR, List.getElem_map, List.getElem_range]
  rw [if_pos (by simpa using h1)]
theorem outR_zero (n : Nat) (br : Nat → Nat) : (List.replicate n ([Value.slice none 0 0].map AV.v)).flatten = outR n br 0 := by
  apply List.ext_getElem?
  intro i
  have key : ∀ k, (List.replicate k ([Value.slice none 0 0].map AV.v)).flatten = List.replicate k nilS := by
    intro k
    induction k with
    | zero => rfl
    | succ k ih => rw [List.replicate_succ, List.flatten_cons, ih, List.replicate_succ]; rfl
  rw [key]
  by_cases h : i < n <;> simp [outR, h]

structure MatH (H : Heap) (bo : Nat) (br : Nat → Nat) (n : Nat) (M : Mx) : Prop where
  out : hget H bo = some (outR n br n)
  row : ∀ i, i < n → hget H (br i) = some (rowC n M i)
theorem MatH.start {H : Heap} {bo : Nat} {br : Nat → Nat} {t : List (List Int)} {u : Nat} (hu : u = t.length) (h : hget H bo = some (outR t.length br u)) (hr : ∀ i, i < u → hget H (br i) = some ((gt t i).map AV.i)) (hl : ∀ i, i < t.length → (gt t i).length = t.length) : MatH H bo br t.length (fwK (tb t) t.length 0) := by
  subst hu
  refine ⟨h, fun i hi => ?_⟩
  rw [hr i hi]
  show _ = some ((rowM t.length (tb t) i).map AV.i)
  rw [rowM_of (gt t i) (tb t) i t.length (hl i hi) fun j _ => rfl]
theorem MatH.nextK {H : Heap} {bo : Nat} {br : Nat → Nat} {n k i : Nat} {M : Mx} (h : MatH H bo br n (fwI (fwK M n k) n k i)) (hi : i = n) : MatH H bo br n (fwK M n (k + 1)) := by subst hi; exact h
theorem MatH.nextI {H : Heap} {bo : Nat} {br : Nat → Nat} {n k i j : Nat} {M : Mx} (h : MatH H bo br n (fwJ (fwI M n k i) k i j)) (hi : j = n) : MatH H bo br n (fwI M n k (i + 1)) := by subst hi; exact h
theorem MatH.up {H H' : Heap} {bo : Nat} {br : Nat → Nat} {n k i j : Nat} {M : Mx} (h : MatH H bo br n M) (hi : i < n) (w : MWrote H (br i) H' (rowC n (upM M k i j) i)) (inj : ∀ a, a < n → a ≠ i → br a ≠ br i) (ho : bo ≠ br i) : MatH H' bo br n (upM M k i j) := by
  refine ⟨(w.old _ ho).trans h.out, fun a ha => ?_⟩
  by_cases hai : a = i
  · subst hai; exact w.new
  · rw [w.old _ (inj a ha hai), h.row a ha]
    unfold rowC
    rw [rowM_up_other n M k i j a hai]
theorem setM (n : Nat) (M : Mx) (k i j : Nat) (hk : k < n) (hj : j < n) : setL (rowC n M i) j [AV.i (min (gt (rowM n M i) j) (gt (rowM n M i) k + gt (rowM n M k) j))] = rowC n (upM M k i j) i := by
  rw [rowM_gt n M i j hj, rowM_gt n M i k hk, rowM_gt n M k j hj]
  unfold rowC
  rw [← rowM_up n M k i j hj]
  show List.set _ _ _ = _
  rw [List.map_set]
theorem frz_own {H : Heap} {base d z b o n : Nat} {k : Blk} (hb : ¬ b < base) (hk : hget H b = some k) : frz H base (d + 1) (.own z b o n) = .sl n ((k.drop o).map (frz H base d)) := by
  simp [frz, hb, hk]
theorem frz_ints (H : Heap) (b d : Nat) (l : List Int) : (l.map AV.i).map (frz H b (d + 1)) = l.map AV.i := by
  rw [List.map_map]; rfl
theorem frz_mat {H : Heap} {base bo n d : Nat} {br : Nat → Nat} {M : Mx} (h : MatH H bo br n M) (hb : base ≤ bo) (hr : ∀ i, i < n → base ≤ br i) : frz H base (d + 3) (.own 1 bo 0 n) = rowsAV (matM n M) := by
  rw [frz_own (by omega) h.out, List.drop_zero]
  show AV.sl n _ = AV.sl (matM n M).length _
  rw [matM_len]
  congr 1
  unfold matM outR
  rw [List.map_map, List.map_map]
  apply List.map_congr_left
  intro i hi
  have hi' : i < n := List.mem_range.mp hi
  simp only [Function.comp]
  rw [if_pos hi', frz_own (by have := hr i hi'; omega) (h.row i hi'), List.drop_zero, frz_ints]
  show AV.sl n _ = AV.sl (rowM n M i).length _
  rw [rowM_len]
/-- The table that Shorten gives, as the caller sees it. -/
def shAV (t : List (List Int)) : AV := if ctS t = 0 then rowsAV (shT t) else nilS
theorem sh_no {t : List (List Int)} (h : ¬ ctS t = 0) : shAV t = nilS := by rw [shAV, if_neg h]
theorem sh_yes {t : List (List Int)} (h : ctS t = 0) : shAV t = rowsAV (shT t) := by rw [shAV, if_pos h]
/-! ### The steps that make memory -/
theorem ms40 (lim : Nat) (H : Heap) (n : Nat) (x y : Operand) (ev : Operand → AV) (br : Nat → Nat) (hn : n ≤ 1000) (h : ev x = AV.i n) (h' : ev y = AV.i n) :
    effV Tryd.prog lim (.makeSlice 40 x y) ev H = some (.own 1 H.length 0 n, H ++ [some (outR n br 0)]) := by
  simp only [effV, tk40, ty37, h, h']
  rw [if_pos ⟨rfl, by decide, by omega, by omega, by omega, by omega⟩, Int.toNat_natCast, outR_zero n br]
theorem bs37e (lim : Nat) (H : Heap) (ev : Operand → AV) : effV Tryd.prog lim (.buildSlice 37 0 #[]) ev H = some (.own 1 H.length 0 0, H ++ [some []]) := by
  simp only [effV, tk37, ty2]
  rw [if_pos ⟨rfl, by decide, by decide⟩]
  rfl
theorem ap37 {lim : Nat} {H : Heap} {b : Nat} (l : List Int) (hb : hget H b = some []) (hl : lim ≤ b) (hm : l.length ≤ 1000000) :
    ∃ H', appendV Tryd.prog lim H 37 (.own 1 b 0 0) (intsAV l) = some (.own 1 H.length 0 l.length, H') ∧ MGrew H b H' (l.map AV.i) := by
  refine ⟨_, ?_, MGrew.of H b _⟩
  simp only [appendV, tk37, ty2, srcCells, hb, Nat.mul_one, List.length_map, Nat.le_refl, if_true]
  rw [if_pos ⟨rfl, by decide, by rw [List.all_eq_true]; intro x hx; obtain ⟨y, _, rfl⟩ := List.mem_map.mp (List.mem_of_mem_take hx); rfl⟩]
  rw [if_pos ⟨hl, trivial, by simp, by omega, by omega⟩]
  simp
  exact List.take_of_length_le (by simp)
/-- The reference's table as it grows: nil first. -/
def outV (B u : Nat) : AV := if u = 0 then nilS else .own 1 (B + 4 * u - 1) 0 u
abbrev outC (B n u : Nat) : Blk := (List.range u).map fun i => AV.own 1 (br25 B i) 0 n
theorem outV_pos {B u : Nat} (h : 0 < u) : outV B u = .own 1 (B + 4 * u - 1) 0 u := by rw [outV, if_neg (by omega)]
theorem bs40 (lim : Nat) (H : Heap) (x : Operand) (ev : Operand → AV) (b n : Nat) (h : ev x = .own 1 b 0 n) :
    effV Tryd.prog lim (.buildSlice 40 1 #[(0, x)]) ev H = some (.own 1 H.length 0 1, H ++ [some [.own 1 b 0 n]]) := by
  simp only [effV, tk40, ty37]
  rw [if_pos ⟨rfl, by decide, by decide⟩]
  simp only [List.map_cons, List.map_nil, h]
  rfl
theorem ap40 {lim B u n b' : Nat} {H : Heap} (hu : u = 0 ∨ hget H (B + 4 * u - 1) = some (outC B n u)) (hc : hget H b' = some [.own 1 (br25 B u) 0 n]) (hL : H.length = B + 4 * u + 3) (hl : lim ≤ B) (hm : u ≤ 1000) :
    ∃ H', appendV Tryd.prog lim H 40 (outV B u) (.own 1 b' 0 1) = some (outV B (u + 1), H') ∧ MGrew H (B + 4 * u - 1) H' (outC B n (u + 1)) := by
  have e1 : outV B (u + 1) = .own 1 H.length 0 (u + 1) := by rw [outV_pos (by omega), hL, show B + 4 * (u + 1) - 1 = B + 4 * u + 3 by omega]
  have e2 : outC B n (u + 1) = outC B n u ++ [.own 1 (br25 B u) 0 n] := by
    show (List.range (u + 1)).map _ = _
    rw [List.range_succ, List.map_append]
    rfl
  rw [e1, e2]
  by_cases h0 : u = 0
  · subst h0
    refine ⟨_, ?_, MGrew.ofNew _ (MNew.of _ _)⟩
    rw [outV, if_pos rfl]
    simp only [appendV, tk40, ty37, srcCells, hc]
    rw [if_pos (by simp)]
    simp only [List.length_cons, List.length_nil]
    rw [if_pos ⟨trivial, by decide, rfl⟩]
    rw [if_pos ⟨by omega, by omega⟩]
    rfl
  · have h3 := hu.resolve_left h0
    refine ⟨_, ?_, MGrew.of _ _ _⟩
    rw [outV_pos (by omega)]
    simp only [appendV, tk40, ty37, srcCells, hc, h3]
    rw [if_pos (by simp)]
    simp only [List.length_cons, List.length_nil]
    rw [if_pos ⟨trivial, by decide, rfl⟩]
    simp only [List.drop_zero, List.length_map, List.length_range, Nat.mul_one]
    rw [if_pos ⟨by omega, trivial, by omega, by omega, by omega⟩]
    rw [List.take_of_length_le (by simp)]
    rfl
theorem eqn37 (n : Nat) (l : List AV) (h : 0 < n) : binV Tryd.prog .eql 37 (.sl n l) (.v (.slice none 0 0)) = some (AV.b false) := by
  simp only [binV, tk37, nilB, if_pos h]; rfl
attribute [go_sem] outR_full eqn37
end Go.Proofs.YtocmcdejkoejhaaDoor
