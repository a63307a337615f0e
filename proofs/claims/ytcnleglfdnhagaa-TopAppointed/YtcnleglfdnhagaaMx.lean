/-
  Filling, in the machine's memory.
-/
import Derived.Test.YtcnleglfdnhagaaWA
set_option linter.unusedVariables false
set_option linter.unusedSimpArgs false
namespace Go.Proofs.Ytcnleglfdnhagaa
open Go Go.Am
theorem place_w (lim : Nat) : ∀ f, PlaceW lim f
  | 0 => fun b bm bn bu bs rs may n need used seen m H P => absurd P.un (Nat.not_lt_zero _)
  | f + 1 => fun b bm bn bu bs rs may n need used seen m H P => place_step lim f (place_w lim f) b bm bn bu bs rs may n need used seen m H P
abbrev nilI : AV := .v (.slice none 0 0)
def OutI (lo : Nat) (H : Heap) (o : AV) (w : List Int) : Prop := (w = [] ∧ o = nilI) ∨ ∃ b, o = .own 1 b 0 w.length ∧ lo ≤ b ∧ hget H b = some (w.map AV.i)
theorem OutI.mono {lo : Nat} {H H' : Heap} {o : AV} {w : List Int} (h : OutI lo H o w) (hh : ∀ b, lo ≤ b → ∀ k, hget H b = some k → hget H' b = some k) : OutI lo H' o w := by
  rcases h with h | ⟨b, h1, h2, h3⟩
  · exact .inl h
  · exact .inr ⟨b, h1, h2, hh b h2 _ h3⟩
theorem OutI.mono2 {lo : Nat} {H H' : Heap} {o : AV} {w : List Int} (h : OutI lo H o w) (hh : ∀ b, lo ≤ b → b < H.length → hget H' b = hget H b) : OutI lo H' o w := by
  rcases h with h | ⟨b, h1, h2, h3⟩
  · exact .inl h
  · exact .inr ⟨b, h1, h2, (hh b h2 (hget_lt h3)).trans h3⟩
theorem OutI.cells {lo : Nat} {H : Heap} {o : AV} {w : List Int} (h : OutI lo H o w) : cellsOf o = some [o] ∧ storable o = true := by
  rcases h with ⟨_, rfl⟩ | ⟨b, rfl, _⟩ <;> exact ⟨rfl, rfl⟩
theorem bs25 (lim : Nat) (H : Heap) (x : Operand) (ev : Operand → AV) (v : Int) (h : ev x = AV.i v) :
    effV Try.prog lim (.buildSlice 25 1 #[(0, x)]) ev H = some (.own 1 H.length 0 1, H ++ [some [AV.i v]]) := by
  simp only [effV, tk25, ty3]
  rw [if_pos ⟨rfl, by decide, by decide⟩]
  simp only [List.map_cons, List.map_nil, h]
  rfl
theorem outI_append {lim lo : Nat} {H : Heap} {o : AV} {w : List Int} {v : Int} {b' : Nat} (h : OutI lo H o w) (hc : hget H b' = some [AV.i v]) (hl : lim ≤ lo) (hlo : lo ≤ H.length) (hw : w.length ≤ 100000) :
    ∃ b, lo ≤ b ∧ ∃ H', appendV Try.prog lim H 25 o (.own 1 b' 0 1) = some (.own 1 H.length 0 (w.length + 1), H') ∧ MGrew H b H' ((w ++ [v]).map AV.i) := by
  rcases h with ⟨rfl, rfl⟩ | ⟨b, rfl, h2, h3⟩
  · refine ⟨H.length, hlo, _, ?_, MGrew.ofNew _ (MNew.of _ _)⟩
    simp only [appendV, tk25, ty3, srcCells, hc]
    rw [if_pos (by simp)]
    simp only [List.length_cons, List.length_nil]
    rw [if_pos ⟨trivial, by decide, rfl⟩]
    rw [if_pos ⟨by omega, by omega⟩]
    rfl
  · refine ⟨b, h2, _, ?_, MGrew.of _ _ _⟩
    simp only [appendV, tk25, ty3, srcCells, hc, h3]
    rw [if_pos (by simp)]
    simp only [List.length_cons, List.length_nil]
    rw [if_pos ⟨trivial, by decide, rfl⟩]
    simp only [List.drop_zero, List.length_map, Nat.mul_one]
    rw [if_pos ⟨by omega, trivial, by omega, by omega, by omega⟩]
    rw [List.take_of_length_le (by simp), List.map_append]
    rfl
theorem OutI.new {lo : Nat} {H' : Heap} {w : List Int} {p m : Nat} (h : hget H' p = some (w.map AV.i)) (hlo : lo ≤ p) (hm : m = w.length) : OutI lo H' (.own 1 p 0 m) w := by
  subst hm; exact .inr ⟨p, rfl, hlo, h⟩
/-- A list of numbers, handed over as data or as memory. -/
def Src (H : Heap) (x : AV) (c : List Int) : Prop := x = intsAV c ∨ ∃ b, x = .own 1 b 0 c.length ∧ hget H b = some (c.map AV.i)
theorem Src.mono {H H' : Heap} {x : AV} {c : List Int} (h : Src H x c) (hh : ∀ b k, hget H b = some k → hget H' b = some k) : Src H' x c := by
  rcases h with rfl | ⟨b, rfl, hb⟩
  · exact .inl rfl
  · exact .inr ⟨b, rfl, hh _ _ hb⟩
theorem Src.st {H : Heap} {x : AV} {c : List Int} (h : Src H x c) : storable x = true := by
  rcases h with rfl | ⟨b, rfl, hb⟩ <;> rfl
theorem bs25e (lim : Nat) (H : Heap) (ev : Operand → AV) : effV Try.prog lim (.buildSlice 25 0 #[]) ev H = some (.own 1 H.length 0 0, H ++ [some []]) := by
  simp only [effV, tk25, ty3]
  rw [if_pos ⟨rfl, by decide, by decide⟩]
  rfl
theorem ints_st (c : List Int) : (c.map AV.i).all storable = true := by
  induction c with
  | nil => rfl
  | cons x r ih => rw [List.map_cons, List.all_cons, ih]; rfl
theorem app25g {lim : Nat} {H : Heap} {b : Nat} {x : AV} {c : List Int} (hs : Src H x c) (hb : hget H b = some []) (hl : lim ≤ b) (hm : c.length ≤ 1000000) :
    ∃ H', appendV Try.prog lim H 25 (.own 1 b 0 0) x = some (.own 1 H.length 0 c.length, H') ∧ MGrew H b H' (c.map AV.i) := by
  have src : srcCells H 1 x = some (c.length, c.map AV.i) := by
    rcases hs with rfl | ⟨b', rfl, hb'⟩
    · simp only [srcCells, Nat.mul_one, List.length_map]
      rw [if_pos (Nat.le_refl _), List.take_of_length_le (by simp)]
    · simp only [srcCells, hb', Nat.mul_one, List.length_map, Nat.zero_add, List.drop_zero]
      rw [if_pos (Nat.le_refl _), List.take_of_length_le (by simp)]
  refine ⟨_, ?_, MGrew.of _ _ _⟩
  simp only [appendV, tk25, ty3, src, hb]
  rw [if_pos ⟨rfl, by decide, ints_st c⟩]
  simp only [List.drop_nil, List.take_nil, List.nil_append, Nat.zero_add]
  rw [if_pos ⟨hl, trivial, by simp, by omega, by omega⟩]
/-- Owners are matches. -/
def Rng (used : List Int) (k : Nat) : Prop := ∀ u, -2 ≤ gt used u ∧ gt used u < k
theorem gt_may {may : List (List Bool)} {i u : Nat} (h : gt (gt may i) u = true) : i < may.length := by
  rcases Nat.lt_or_ge i may.length with h' | h'
  · exact h'
  · have : gt may i = [] := by simp [gt, List.getD_eq_getElem?_getD, List.getElem?_eq_none h']; rfl
    rw [this] at h
    cases h
theorem rng_succ {may : List (List Bool)} {m : Int} {used : List Int} {seen : List Bool} {r : Bool × List Int × List Bool} (P : PlOK may m used seen r) (h1 : r.1 = true) (hk : 0 < may.length) (hr : Rng used may.length) : Rng r.2.1 may.length := fun u => by
  by_cases hu : u < used.length
  · rcases P.way h1 u hu with h | ⟨h0, h2, _⟩
    · rw [h]; exact hr u
    · have := gt_may h2
      omega
  · rw [gt_big (by rw [P.lu]; omega)]; omega
/-- What filling leaves of the memory. -/
structure FiW (H H' : Heap) (bu : Nat) (used : List Int) : Prop where
  hu : hget H' bu = some (used.map AV.i)
  keep : ∀ c, c ≠ bu → c < H.length → hget H' c = hget H c
  len : H.length ≤ H'.length
theorem Sta.lt {H : Heap} {b bm bn bu : Nat} {rs : List Nat} {may : List (List Bool)} {n : Nat} {need : List Int} (h : Sta H b bm bn bu rs may n need) : b < H.length ∧ bm < H.length ∧ bn < H.length ∧ ∀ i, i < may.length → gt rs i < H.length :=
  ⟨hget_lt h.st, hget_lt h.ms, hget_lt h.nd, fun i hi => hget_lt (h.rw i hi).1⟩
theorem Sta.fi {H H' : Heap} {b bm bn bu : Nat} {rs : List Nat} {may : List (List Bool)} {n : Nat} {need used : List Int} (h : Sta H b bm bn bu rs may n need) (w : FiW H H' bu used) : Sta H' b bm bn bu rs may n need := by
  obtain ⟨l1, l2, l3, l4⟩ := h.lt
  exact ⟨(w.keep b (Ne.symm h.ub) l1).trans h.st, (w.keep bm (Ne.symm h.um) l2).trans h.ms, h.rl, fun i hi => ⟨(w.keep _ (h.ur i hi) (l4 i hi)).trans (h.rw i hi).1, (h.rw i hi).2⟩, (w.keep bn (Ne.symm h.un) l3).trans h.nd, h.ub, h.um, h.un, h.ur⟩
theorem Sta.off {H : Heap} {b bm bn bu : Nat} {rs : List Nat} {may : List (List Bool)} {n : Nat} {need : List Int} (h : Sta H b bm bn bu rs may n need) {c : Nat} (hc : H.length ≤ c) (hu : bu < H.length) : Off c b bm bn bu rs may.length := by
  obtain ⟨l1, l2, l3, l4⟩ := h.lt
  exact ⟨by omega, by omega, by omega, by omega, fun i hi => by have := l4 i hi; omega⟩
structure FiPre (lim : Nat) (H : Heap) (b bm bn bu : Nat) (rs : List Nat) (may : List (List Bool)) (n : Nat) (need used : List Int) : Prop where
  sta : Sta H b bm bn bu rs may n need
  hu : hget H bu = some (used.map AV.i)
  lu : used.length = n
  rng : Rng used may.length
  val : Valid may used
  lb : lim ≤ bu
  lh : lim ≤ H.length
  kl : may.length ≤ 100
  nl : n ≤ 1000
  mn : may.length = need.length
  nr : ∀ j, 0 ≤ gt need j ∧ gt need j ≤ 1000
  kp : 0 < may.length
theorem ms62 (lim : Nat) (H : Heap) (n : Int) (x y : Operand) (ev : Operand → AV) (h0 : 0 ≤ n) (h1 : n ≤ 1000000) (hx : ev x = AV.i n) (hy : ev y = AV.i n) :
    effV Try.prog lim (.makeSlice 62 x y) ev H = some (.own 1 H.length 0 n.toNat, H ++ [some ((List.replicate n.toNat false).map bv)]) := by
  simp only [effV, tk62, ty4, hx, hy]
  rw [if_pos ⟨rfl, by decide, h0, Int.le_refl _, by omega, by omega⟩]
  have : ∀ k : Nat, (List.replicate k ([Value.bool false].map AV.v)).flatten = (List.replicate k false).map bv := by
    intro k
    rw [List.map_replicate]
    induction k with
    | zero => rfl
    | succ k ih => rw [List.replicate_succ, List.flatten_cons, ih, List.replicate_succ]; rfl
  rw [this]
theorem fillM_0 (may : List (List Bool)) (m : Int) (used : List Int) : fillM may m 0 used = (false, used) := rfl
theorem fillM_y {may : List (List Bool)} {m : Int} {k j : Nat} {used : List Int} (hj : j < k) (h : (placeF may (used.length + 1) m used (List.replicate used.length false)).1 = true) : fillM may m (k - j) used = fillM may m (k - (j + 1)) (placeF may (used.length + 1) m used (List.replicate used.length false)).2.1 := by
  rw [show k - j = (k - (j + 1)) + 1 by omega, fillM, if_pos h]
theorem fillM_n {may : List (List Bool)} {m : Int} {k j : Nat} {used : List Int} (hj : j < k) (h : (placeF may (used.length + 1) m used (List.replicate used.length false)).1 = false) : fillM may m (k - j) used = (true, (placeF may (used.length + 1) m used (List.replicate used.length false)).2.1) := by
  rw [show k - j = (k - (j + 1)) + 1 by omega, fillM, if_neg (by rw [h]; decide)]
theorem fillM_z {may : List (List Bool)} {m : Int} {k j : Nat} {used : List Int} (hj : ¬ j < k) : fillM may m (k - j) used = (false, used) := by rw [show k - j = 0 by omega, fillM]
theorem fillS_s {may : List (List Bool)} {need : List Int} {m : Nat} {used lack : List Int} (hm : m < need.length) : fillS may (need.drop m) m used lack = fillS may (need.drop (m + 1)) (m + 1) (fillM may (m : Int) (gt need m).toNat used).2 (if (fillM may (m : Int) (gt need m).toNat used).1 = true then lack ++ [(m : Int)] else lack) := by
  rw [List.drop_eq_getElem_cons hm, fillS, gt_eq _ _ hm]
theorem fillS_e {may : List (List Bool)} {need : List Int} {m : Nat} {used lack : List Int} (hm : ¬ m < need.length) : fillS may (need.drop m) m used lack = (lack, used) := by
  rw [List.drop_eq_nil_of_le (by omega), fillS]
end Go.Proofs.Ytcnleglfdnhagaa
