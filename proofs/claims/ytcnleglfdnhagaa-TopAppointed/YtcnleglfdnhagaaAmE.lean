/-
  The abstract machine: memory. How abstract blocks lie in the world's heap, and the soundness of the operations that read, make or write memory.
-/
import Derived.Test.YtcnleglfdnhagaaAmD
import Derived.Test.YtcnleglfdnhagaaTb
set_option linter.unusedSectionVars false
namespace Go.Am
open Go
set_option linter.unusedSimpArgs false
set_option linter.unusedVariables false

def CellsOK (φ : Phi) (I : Nat → Prop) (w : World) (C : Array Value) (base : Nat) (cells : List AV) : Prop :=
  base + cells.length ≤ C.size ∧ ∀ (j : Nat) (x : AV), cells[j]? = some x → ∃ y, C[base + j]? = some y ∧ Den φ I w x y

structure Rel (lim : Nat) (φ : Phi) (I : Nat → Prop) (w : World) (H : Heap) : Prop where
  len : φ.length = H.length
  limle : lim ≤ H.length
  blk : ∀ (b : Nat) (k : Blk), hget H b = some k → (φ[b]? = some none ∧ k = []) ∨
    ∃ (L : Loc) (C : Array Value) (T : TypeId), φ[b]? = some (some L) ∧ w.heap[L.k]? = some (.cells C T (0, 0)) ∧ C.size = L.S ∧ CellsOK φ I w C L.base k
  disj : ∀ (b : Nat) (L : Loc), φ[b]? = some (some L) → ¬ I L.k ∧ L.k < w.heap.size
  inj : ∀ (b b' : Nat) (k k' : Blk) (L L' : Loc), hget H b = some k → hget H b' = some k' → φ[b]? = some (some L) → φ[b']? = some (some L') → L.k = L'.k → b = b'
  sep : ∀ (b b' : Nat) (L L' : Loc), b < lim → lim ≤ b' → φ[b]? = some (some L) → φ[b']? = some (some L') → L.k ≠ L'.k
  Ilt : ∀ k, I k → k < w.heap.size
  tab : ∀ w1 : World, (∀ k, I k → w1.heap[k]? = w.heap[k]?) → Tb w1

/-- Whether it is asked that no draw is taken back. -/
class Dn where
  p : Prop
variable [Dn]
/-- What lies below B is as it was. -/
structure Bel (B : Nat) (w w' : World) : Prop where
  os : w'.os = w.os
  tape : w'.tape = w.tape ∧ (Dn.p → w.drawn ≤ w'.drawn)
  output : w'.output = w.output
  size : w.heap.size ≤ w'.heap.size
  block : ∀ k, k < B → w'.heap[k]? = w.heap[k]?
theorem Bel.refl (B : Nat) (w : World) : Bel B w w := ⟨rfl, ⟨rfl, fun _ => Nat.le_refl _⟩, rfl, Nat.le_refl _, fun _ _ => rfl⟩
theorem Bel.trans {B : Nat} {a b c : World} (h : Bel B a b) (k : Bel B b c) : Bel B a c :=
  ⟨k.os.trans h.os, ⟨k.tape.1.trans h.tape.1, fun hd => Nat.le_trans (h.tape.2 hd) (k.tape.2 hd)⟩, k.output.trans h.output, Nat.le_trans h.size k.size, fun i hi => (k.block i hi).trans (h.block i hi)⟩
theorem Bel.mono {B B' : Nat} {w w' : World} (h : Bel B w w') (hB : B' ≤ B) : Bel B' w w' := ⟨h.os, h.tape, h.output, h.size, fun k hk => h.block k (Nat.lt_of_lt_of_le hk hB)⟩
structure Ext (lim : Nat) (φ : Phi) (I : Nat → Prop) (w : World) (φ' : Phi) (I' : Nat → Prop) (w' : World) : Prop where
  pre : φ <+: φ'
  I : ∀ k, I k → I' k
  old : ∀ k, k < w.heap.size → (∀ (b : Nat) (L : Loc), φ[b]? = some (some L) → L.k ≠ k) → w'.heap[k]? = w.heap[k]?
  lo : ∀ (b : Nat) (L : Loc), b < lim → φ[b]? = some (some L) → w'.heap[L.k]? = w.heap[L.k]?
  fresh : ∀ (b : Nat) (L : Loc), φ'[b]? = some (some L) → w.heap.size ≤ L.k ∨ ∃ (b0 : Nat) (L0 : Loc), φ[b0]? = some (some L0) ∧ L0.k = L.k
  os : w'.os = w.os
  tape : w'.tape = w.tape ∧ (Dn.p → w.drawn ≤ w'.drawn)
  output : w'.output = w.output
  size : w.heap.size ≤ w'.heap.size

theorem pre_get {φ φ' : Phi} (hp : φ <+: φ') {b : Nat} {o : Option Loc} (hb : φ[b]? = some o) : φ'[b]? = some o := by
  obtain ⟨r, rfl⟩ := hp
  rw [List.getElem?_append_left (List.getElem?_eq_some_iff.1 hb).1]
  exact hb

section
variable {P : Program} {lim : Nat} {φ φ' φ'' : Phi} {I I' I'' : Nat → Prop} {w w' w'' : World} {H H' : Heap}

theorem Ext.refl : Ext lim φ I w φ I w := ⟨List.prefix_refl _, fun _ h => h, fun _ _ _ => rfl, fun _ _ _ _ => rfl, fun b L h => .inr ⟨b, L, h, rfl⟩, rfl, ⟨rfl, fun _ => Nat.le_refl _⟩, rfl, Nat.le_refl _⟩

theorem Ext.trans (h : Ext lim φ I w φ' I' w') (g : Ext lim φ' I' w' φ'' I'' w'') : Ext lim φ I w φ'' I'' w'' where
  pre := h.pre.trans g.pre
  I := fun k hk => g.I k (h.I k hk)
  old := fun k hk hn => by
    rw [g.old k (Nat.lt_of_lt_of_le hk h.size) (fun b L hb e => ?_), h.old k hk hn]
    rcases h.fresh b L hb with h1 | ⟨b0, L0, h2, h3⟩
    · omega
    · exact hn b0 L0 h2 (h3.trans e)
  lo := fun b L hb hL => by rw [g.lo b L hb (pre_get h.pre hL), h.lo b L hb hL]
  fresh := fun b L hb => by
    rcases g.fresh b L hb with h1 | ⟨b0, L0, h2, h3⟩
    · exact .inl (Nat.le_trans h.size h1)
    · rcases h.fresh b0 L0 h2 with h4 | ⟨b1, L1, h5, h6⟩
      · exact .inl (by omega)
      · exact .inr ⟨b1, L1, h5, h6.trans h3⟩
  os := g.os.trans h.os
  tape := ⟨g.tape.1.trans h.tape.1, fun hd => Nat.le_trans (h.tape.2 hd) (g.tape.2 hd)⟩
  output := g.output.trans h.output
  size := Nat.le_trans h.size g.size

theorem Rel.tab_to (hR : Rel lim φ I w H) (hI : ∀ k, I k → I' k) (h : ∀ k, I k → w'.heap[k]? = w.heap[k]?) : ∀ w1 : World, (∀ k, I' k → w1.heap[k]? = w'.heap[k]?) → Tb w1 :=
  fun w1 g => hR.tab w1 fun k hk => (g k (hI k hk)).trans (h k hk)
theorem Rel.tab_here (hR : Rel lim φ I w H) : Tb w := hR.tab w fun _ _ => rfl

theorem Rel.keepI (hR : Rel lim φ I w H) (h : Ext lim φ I w φ' I' w') : ∀ k, I k → w'.heap[k]? = w.heap[k]? :=
  fun k hk => h.old k (hR.Ilt k hk) fun b L hb e => (hR.disj b L hb).1 (e ▸ hk)

theorem Den.ext (hR : Rel lim φ I w H) (h : Ext lim φ I w φ' I' w') {x : AV} {y : Value} (hd : Den φ I w x y) : Den φ' I' w' x y :=
  hd.mono h.pre h.I (hR.keepI h)

/-- Only draws have passed. -/
theorem Rel.drew (hR : Rel lim φ I w H) (n : Nat) : Rel lim φ I { w with drawn := n } H where
  len := hR.len
  tab := hR.tab
  limle := hR.limle
  blk := fun b k hk => by
    rcases hR.blk b k hk with h | ⟨L, C, T, h1, h2, h3, h5, h6⟩
    · exact .inl h
    · exact .inr ⟨L, C, T, h1, h2, h3, h5, fun j x hx => by obtain ⟨y, e1, e2⟩ := h6 j x hx; exact ⟨y, e1, Den.mono (w := w) (w' := { w with drawn := n }) (List.prefix_refl _) (fun _ h => h) (fun _ _ => rfl) e2⟩⟩
  disj := hR.disj
  inj := hR.inj
  sep := hR.sep
  Ilt := hR.Ilt
theorem Ext.drew (n : Nat) (hn : w.drawn ≤ n := by exact Nat.le_succ _) : Ext lim φ I w φ I { w with drawn := n } :=
  ⟨List.prefix_refl _, fun _ h => h, fun _ _ _ => rfl, fun _ _ _ _ => rfl, fun b L h => .inr ⟨b, L, h, rfl⟩, rfl, ⟨rfl, fun _ => hn⟩, rfl, Nat.le_refl _⟩

/-! ### Loads -/
theorem loadVar_sound {t : TypeId} {ty : Ty} (ht : tyOf P t = some ty) {l : List AV} {o : Nat} {r : AV} (h : partL ty l o = some r) (a : Addr) (ha : a.spot = none)
    (hc : ∀ (j : Nat) (x : AV), l[j]? = some x → ∃ y, w.cell? ⟨a.block, a.off + j, none⟩ = some y ∧ Den φ I w x y) :
    ∃ y, (∀ w' : World, (∀ p : Addr, p.block = a.block → w'.cell? p = w.cell? p) → (loadVar t ⟨a.block, a.off + o, none⟩).run P w' = .ok y w') ∧ Den φ I w r y := by
  unfold partL at h
  by_cases hag : ty.agg = true
  · simp only [hag, if_true] at h
    split at h
    · rename_i hl
      cases h
      have hf : ∀ j, ∃ y, j < ty.size → w.cell? ⟨a.block, a.off + o + j, none⟩ = some y ∧ ∀ x, l[o + j]? = some x → Den φ I w x y := by
        intro j
        by_cases hj : j < ty.size
        · have hx : l[o + j]? = some (l[o + j]'(by omega)) := List.getElem?_eq_getElem _
          obtain ⟨y, h1, h2⟩ := hc (o + j) _ hx
          exact ⟨y, fun _ => ⟨by rw [Nat.add_assoc]; exact h1, fun x hx' => by rw [hx] at hx'; cases hx'; exact h2⟩⟩
        · exact ⟨undef, fun hh => absurd hh hj⟩
      let Y := fun j => Classical.choose (hf j)
      have hY : ∀ j, j < ty.size → w.cell? ⟨a.block, a.off + o + j, none⟩ = some (Y j) ∧ ∀ x, l[o + j]? = some x → Den φ I w x (Y j) := fun j hj => Classical.choose_spec (hf j) hj
      refine ⟨.agg ((List.range ty.size).map Y).toArray, fun w' hw' => ?_, .agg _ _ (by simp; omega) fun j x y hx hy => ?_⟩
      · have := run_loadCells (P := P) w' ⟨a.block, a.off + o, none⟩ ty.size Y (fun j hj => by rw [addr_add _ _ rfl, hw' ⟨a.block, a.off + o + j, none⟩ rfl]; exact (hY j hj).1)
        simp [loadVar, run_isAgg ht, hag, run_sizeOf ht, this]
      · rw [List.getElem?_take] at hx
        split at hx
        · rename_i hj
          rw [List.getElem?_drop] at hx
          simp [hj] at hy
          subst hy
          exact (hY j hj).2 x hx
        · cases hx
    · cases h
  · simp only [hag] at h
    obtain ⟨y, h1, h2⟩ := hc o r h
    refine ⟨y, fun w' hw' => ?_, h2⟩
    simp [loadVar, run_isAgg ht, hag, hw' ⟨a.block, a.off + o, none⟩ rfl, h1]

theorem load_sound (hR : Rel lim φ I w H) {t : TypeId} {x r : AV} (h : loadV P H t x = some r) {vx : Value} (hx : Den φ I w x vx) :
    ∃ y, (∀ w' : World, (∀ k, k < w.heap.size → w'.heap[k]? = w.heap[k]?) → (Instr.loadAt t vx).run P w' = .ok y w') ∧ Den φ I w r y := by
  unfold loadV at h
  split at h
  · rename_i ty b o ht
    split at h
    · rename_i k hk
      cases hx with
      | ptr b o L hL =>
        rcases hR.blk b k hk with ⟨h1, h2⟩ | ⟨L', C, T, h1, h2, h3, h5, h6⟩
        · rw [hL] at h1; cases h1
        · rw [hL] at h1; cases h1
          obtain ⟨y, e1, e2⟩ := loadVar_sound (P := P) (w := w) (φ := φ) (I := I) ht h ⟨L.k, L.base, none⟩ rfl (fun j x hj => by
            obtain ⟨y, g1, g2⟩ := h6 j x hj
            exact ⟨y, by rw [cell_of_row w L.k _ C T _ h2]; exact g1, g2⟩)
          refine ⟨y, fun w' hw' => ?_, e2⟩
          have := e1 w' (fun p hp => World.cell?_of_block (w := w) (w' := w') (a := p) (by rw [hp]; exact hw' _ (hR.disj b L hL).2))
          simpa [Instr.loadAt, Instr.sureAddr] using this
    · cases h
  · rename_i ty l o ht
    cases hx with
    | ele l o a Y ha hI hY hD =>
      obtain ⟨y, e1, e2⟩ := loadVar_sound (P := P) (w := w) (φ := φ) (I := I) ht h a ha (fun j x hj => ⟨Y j, hY j x hj, hD j x hj⟩)
      refine ⟨y, fun w' hw' => ?_, e2⟩
      have := e1 w' (fun p hp => World.cell?_of_block (w := w) (w' := w') (a := p) (by rw [hp]; exact hw' _ (hR.Ilt _ hI)))
      simpa [Instr.loadAt, Instr.sureAddr] using this
  · cases h

/-! ### New blocks -/
theorem hget_append_old {H : Heap} {x : Option Blk} {b : Nat} (hb : b < H.length) : hget (H ++ [x]) b = hget H b := by
  simp [hget, List.getElem?_append_left hb]
theorem hget_append_new {H : Heap} {x : Option Blk} : hget (H ++ [x]) H.length = x := by simp [hget]
omit [Dn] in
theorem hget_lt {H : Heap} {b : Nat} {k : Blk} (h : hget H b = some k) : b < H.length := by
  unfold hget at h
  cases hh : H[b]? with
  | none => simp [hh] at h
  | some x => exact (List.getElem?_eq_some_iff.1 hh).1

theorem alloc_sound (hR : Rel lim φ I w H) {C : Array Value} {T : TypeId} {cells : List AV} (hc : CellsOK φ I w C 0 cells)
    {w' : World} (hh : w'.heap = w.heap.push (.cells C T)) (e1 : w'.os = w.os) (e2 : w'.tape = w.tape ∧ (Dn.p → w.drawn ≤ w'.drawn)) (e3 : w'.output = w.output) :
    Rel lim (φ ++ [some ⟨w.heap.size, 0, C.size⟩]) I w' (H ++ [some cells]) ∧ Ext lim φ I w (φ ++ [some ⟨w.heap.size, 0, C.size⟩]) I w' := by
  have hold : ∀ k, k < w.heap.size → w'.heap[k]? = w.heap[k]? := fun k hk => by rw [hh, Array.getElem?_push, if_neg (by omega)]
  have hext : Ext lim φ I w (φ ++ [some ⟨w.heap.size, 0, C.size⟩]) I w' := by
    refine ⟨List.prefix_append _ _, fun _ h => h, fun k hk _ => hold k hk, fun b L hb hL => hold _ (hR.disj b L hL).2, fun b L hb => ?_, e1, e2, e3, by rw [hh]; simp⟩
    rcases Nat.lt_or_ge b φ.length with h | h
    · rw [List.getElem?_append_left h] at hb
      exact .inr ⟨b, L, hb, rfl⟩
    · rw [List.getElem?_append_right h] at hb
      have : b - φ.length = 0 := by
        rcases Nat.eq_zero_or_pos (b - φ.length) with h0 | h0
        · exact h0
        · rw [List.getElem?_eq_none (by simp; omega)] at hb; cases hb
      rw [this] at hb
      simp at hb
      exact .inl (by rw [← hb]; exact Nat.le_refl _)
  have hnew : (φ ++ [some ⟨w.heap.size, 0, C.size⟩])[φ.length]? = some (some ⟨w.heap.size, 0, C.size⟩) := by simp
  have hcase : ∀ (b : Nat) (L : Loc), (φ ++ [some ⟨w.heap.size, 0, C.size⟩])[b]? = some (some L) → (φ[b]? = some (some L)) ∨ (b = φ.length ∧ L = ⟨w.heap.size, 0, C.size⟩) := by
    intro b L hb
    rcases Nat.lt_or_ge b φ.length with h | h
    · rw [List.getElem?_append_left h] at hb
      exact .inl hb
    · rw [List.getElem?_append_right h] at hb
      have : b - φ.length = 0 := by
        rcases Nat.eq_zero_or_pos (b - φ.length) with h0 | h0
        · exact h0
        · rw [List.getElem?_eq_none (by simp; omega)] at hb; cases hb
      rw [this] at hb
      simp at hb
      exact .inr ⟨by omega, hb.symm⟩
  have hcell : ∀ {C' : Array Value} {base : Nat} {cs : List AV}, CellsOK φ I w C' base cs → CellsOK (φ ++ [some ⟨w.heap.size, 0, C.size⟩]) I w' C' base cs :=
    fun h => ⟨h.1, fun j x hx => by obtain ⟨y, g1, g2⟩ := h.2 j x hx; exact ⟨y, g1, g2.ext hR hext⟩⟩
  refine ⟨⟨by simp [hR.len], by simp; have := hR.limle; omega, fun b k hk => ?_, fun b L hb => ?_, fun b b' k k' L L' hk hk' hL hL' he => ?_, fun b b' L L' hb hb' hL hL' => ?_, fun k hk => ?_, hR.tab_to (fun _ h => h) (hR.keepI hext)⟩, hext⟩
  · rcases Nat.lt_or_ge b H.length with hb | hb
    · rw [hget_append_old hb] at hk
      rcases hR.blk b k hk with ⟨h1, h2⟩ | ⟨L, C', T', h1, h2, h3, h5⟩
      · exact .inl ⟨pre_get hext.pre h1, h2⟩
      · exact .inr ⟨L, C', T', pre_get hext.pre h1, by rw [hold _ (hR.disj b L h1).2]; exact h2, h3, hcell h5⟩
    · have : b = H.length := by have := hget_lt hk; simp at this; omega
      subst this
      rw [hget_append_new] at hk
      cases hk
      exact .inr ⟨_, C, T, by rw [← hR.len]; exact hnew, by rw [hh]; simp, rfl, hcell hc⟩
  · rcases hcase b L hb with h | ⟨h1, h2⟩
    · have := hR.disj b L h
      exact ⟨this.1, by rw [hh]; simp; omega⟩
    · subst h2
      exact ⟨fun hi => by have := hR.Ilt _ hi; simp at this, by rw [hh]; simp⟩
  · rcases hcase b L hL with h | ⟨h1, h2⟩ <;> rcases hcase b' L' hL' with h' | ⟨h1', h2'⟩
    · have l1 : b < H.length := by rw [← hR.len]; exact (List.getElem?_eq_some_iff.1 h).1
      have l2 : b' < H.length := by rw [← hR.len]; exact (List.getElem?_eq_some_iff.1 h').1
      rw [hget_append_old l1] at hk
      rw [hget_append_old l2] at hk'
      exact hR.inj b b' k k' L L' hk hk' h h' he
    · have := (hR.disj b L h).2; subst h2'; simp at he; omega
    · have := (hR.disj b' L' h').2; subst h2; simp at he; omega
    · omega
  · rcases hcase b' L' hL' with h' | ⟨h1', h2'⟩
    · rcases hcase b L hL with h | ⟨h1, h2⟩
      · exact hR.sep b b' L L' hb hb' h h'
      · have := hR.limle; have := hR.len; omega
    · rcases hcase b L hL with h | ⟨h1, h2⟩
      · have := (hR.disj b L h).2; subst h2'; simp; omega
      · have := hR.limle; have := hR.len; omega
  · have := hR.Ilt k hk; rw [hh]; simp; omega

end
end Go.Am
