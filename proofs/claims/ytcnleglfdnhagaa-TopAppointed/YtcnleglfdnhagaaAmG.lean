/-
  The abstract machine: the soundness of the operations that make or write memory.
-/
import Derived.Test.YtcnleglfdnhagaaAmF
set_option linter.unusedSectionVars false
namespace Go.Am
open Go
variable [Dn]
set_option linter.unusedSimpArgs false
set_option linter.unusedVariables false

section
variable {P : Program} {lim : Nat} {φ φ' φ'' : Phi} {I I' I'' : Nat → Prop} {w w' w'' : World} {H H' : Heap}

theorem hget_hset_same {H : Heap} {b : Nat} {x : Option Blk} (hb : b < H.length) : hget (hset H b x) b = x := by simp [hget, hset, hb]
theorem hget_hset_ne {H : Heap} {b c : Nat} {x : Option Blk} (h : c ≠ b) : hget (hset H b x) c = hget H c := by
  simp [hget, hset, List.getElem?_set_ne (Ne.symm h)]
@[simp] theorem length_hset {H : Heap} {b : Nat} {x : Option Blk} : (hset H b x).length = H.length := by simp [hset]

/-- A block that nobody uses any more. -/
theorem kill_sound (hR : Rel lim φ I w H) (b : Nat) : Rel lim φ I w (hset H b none) where
  len := by simp [hR.len]
  tab := hR.tab
  limle := by simp [hR.limle]
  blk := fun c k hk => by
    by_cases h : c = b
    · subst h
      have hlt := hget_lt hk
      simp at hlt
      rw [hget_hset_same hlt] at hk
      cases hk
    · rw [hget_hset_ne h] at hk
      exact hR.blk c k hk
  disj := hR.disj
  inj := fun c c' k k' L L' hk hk' => by
    by_cases h : c = b
    · subst h
      have hlt := hget_lt hk
      simp at hlt
      rw [hget_hset_same hlt] at hk
      cases hk
    · by_cases h' : c' = b
      · subst h'
        have hlt := hget_lt hk'
        simp at hlt
        rw [hget_hset_same hlt] at hk'
        cases hk'
      · rw [hget_hset_ne h] at hk
        rw [hget_hset_ne h'] at hk'
        exact hR.inj c c' k k' L L' hk hk'
  sep := hR.sep
  Ilt := hR.Ilt

theorem phi_push {φ : Phi} {x : Option Loc} {b : Nat} {o : Option Loc} (h : (φ ++ [x])[b]? = some o) : (b < φ.length ∧ φ[b]? = some o) ∨ (b = φ.length ∧ o = x) := by
  rcases Nat.lt_or_ge b φ.length with h' | h'
  · rw [List.getElem?_append_left h'] at h
    exact .inl ⟨h', h⟩
  · rw [List.getElem?_append_right h'] at h
    have : b - φ.length = 0 := by
      rcases Nat.eq_zero_or_pos (b - φ.length) with h0 | h0
      · exact h0
      · rw [List.getElem?_eq_none (by simp; omega)] at h; cases h
    rw [this] at h
    simp at h
    exact .inr ⟨by omega, h.symm⟩

/-- A new block that is nil. -/
theorem nil_sound (hR : Rel lim φ I w H) : Rel lim (φ ++ [none]) I w (H ++ [some []]) ∧ Ext lim φ I w (φ ++ [none]) I w := by
  have hext : Ext lim φ I w (φ ++ [none]) I w := by
    refine ⟨List.prefix_append _ _, fun _ h => h, fun _ _ _ => rfl, fun _ _ _ _ => rfl, fun b L h => ?_, rfl, ⟨rfl, fun _ => Nat.le_refl _⟩, rfl, Nat.le_refl _⟩
    rcases phi_push h with ⟨-, h1⟩ | ⟨-, h1⟩
    · exact .inr ⟨b, L, h1, rfl⟩
    · cases h1
  have hold : ∀ (b : Nat) (L : Loc), (φ ++ [none])[b]? = some (some L) → φ[b]? = some (some L) := fun b L h => by
    rcases phi_push h with ⟨-, h1⟩ | ⟨-, h1⟩
    · exact h1
    · cases h1
  refine ⟨⟨by simp [hR.len], by simp; have := hR.limle; omega, fun b k hk => ?_, fun b L h => hR.disj b L (hold b L h), fun b b' k k' L L' hk hk' hL hL' => ?_, fun b b' L L' hb hb' hL hL' => hR.sep b b' L L' hb hb' (hold _ _ hL) (hold _ _ hL'), hR.Ilt, hR.tab⟩, hext⟩
  · rcases Nat.lt_or_ge b H.length with hb | hb
    · rw [hget_append_old hb] at hk
      rcases hR.blk b k hk with ⟨h1, h2⟩ | ⟨L, C', T', h1, h2, h3, h5⟩
      · exact .inl ⟨pre_get hext.pre h1, h2⟩
      · exact .inr ⟨L, C', T', pre_get hext.pre h1, h2, h3, h5.1, fun j x hx => by obtain ⟨y, g1, g2⟩ := h5.2 j x hx; exact ⟨y, g1, g2.ext hR hext⟩⟩
    · have : b = H.length := by have := hget_lt hk; simp at this; omega
      subst this
      rw [hget_append_new] at hk
      cases hk
      exact .inl ⟨by rw [← hR.len]; simp, rfl⟩
  · have hL0 := hold _ _ hL
    have hL0' := hold _ _ hL'
    have l1 : b < H.length := by rw [← hR.len]; exact (List.getElem?_eq_some_iff.1 hL0).1
    have l2 : b' < H.length := by rw [← hR.len]; exact (List.getElem?_eq_some_iff.1 hL0').1
    rw [hget_append_old l1] at hk
    rw [hget_append_old l2] at hk'
    exact hR.inj b b' k k' L L' hk hk' hL0 hL0'

/-- The world after a block's cells have been written. -/
structure Wrote (w w' : World) (k : Nat) (C' : Array Value) (T : TypeId) : Prop where
  new : w'.heap[k]? = some (.cells C' T (0, 0))
  other : ∀ i, i ≠ k → w'.heap[i]? = w.heap[i]?
  size : w'.heap.size = w.heap.size
  os : w'.os = w.os
  tape : w'.tape = w.tape ∧ (Dn.p → w.drawn ≤ w'.drawn)
  output : w'.output = w.output

theorem Wrote.keep (hR : Rel lim φ I w H) {b : Nat} {L : Loc} (hL : φ[b]? = some (some L)) {C' : Array Value} {T : TypeId} (hw : Wrote w w' L.k C' T) {x : AV} {y : Value} (h : Den φ I w x y) : Den φ I w' x y :=
  h.mono (List.prefix_refl _) (fun _ h => h) fun k hk => hw.other k fun e => (hR.disj b L hL).1 (e ▸ hk)

theorem Wrote.ext (hR : Rel lim φ I w H) {b : Nat} {k : Blk} (hk : hget H b = some k) {L : Loc} (hL : φ[b]? = some (some L)) (hb : lim ≤ b) {C' : Array Value} {T : TypeId} (hw : Wrote w w' L.k C' T) : Ext lim φ I w φ I w' where
  pre := List.prefix_refl _
  I := fun _ h => h
  old := fun i _ hn => hw.other i fun e => hn b L hL e.symm
  lo := fun c M hc hM => hw.other _ (hR.sep c b M L hc hb hM hL)
  fresh := fun c M h => .inr ⟨c, M, h, rfl⟩
  os := hw.os
  tape := hw.tape
  output := hw.output
  size := by rw [hw.size]; exact Nat.le_refl _

theorem write_sound (hR : Rel lim φ I w H) {b : Nat} {k k' : Blk} (hk : hget H b = some k) {L : Loc} (hL : φ[b]? = some (some L)) (hb : lim ≤ b) {C' : Array Value} {T : TypeId} (hw : Wrote w w' L.k C' T)
    (hS : C'.size = L.S) (hc : CellsOK φ I w C' L.base k') : Rel lim φ I w' (hset H b (some k')) := by
  have hlt := hget_lt hk
  refine ⟨by simp [hR.len], by simp [hR.limle], fun c l hl => ?_, fun c M hM => ⟨(hR.disj c M hM).1, by rw [hw.size]; exact (hR.disj c M hM).2⟩, fun c c' l l' M M' hl hl' hM hM' he => ?_, hR.sep, fun i hi => by rw [hw.size]; exact hR.Ilt i hi, hR.tab_to (fun _ h => h) fun k hk => hw.other k fun e => (hR.disj b L hL).1 (e ▸ hk)⟩
  · by_cases h : c = b
    · subst h
      rw [hget_hset_same hlt] at hl
      cases hl
      exact .inr ⟨L, C', T, hL, hw.new, hS, hc.1, fun j x hx => by obtain ⟨y, g1, g2⟩ := hc.2 j x hx; exact ⟨y, g1, hw.keep hR hL g2⟩⟩
    · rw [hget_hset_ne h] at hl
      rcases hR.blk c l hl with h1 | ⟨M, C, T', h1, h2, h3, h5⟩
      · exact .inl h1
      · refine .inr ⟨M, C, T', h1, ?_, h3, h5.1, fun j x hx => by obtain ⟨y, g1, g2⟩ := h5.2 j x hx; exact ⟨y, g1, hw.keep hR hL g2⟩⟩
        rw [hw.other M.k (fun e => h (hR.inj c b l k M L hl hk h1 hL e))]
        exact h2
  · have g : ∀ (d : Nat) (m : Blk), hget (hset H b (some k')) d = some m → ∃ m', hget H d = some m' := by
      intro d m hm
      by_cases h : d = b
      · subst h; exact ⟨k, hk⟩
      · rw [hget_hset_ne h] at hm; exact ⟨m, hm⟩
    obtain ⟨m, hm⟩ := g c l hl
    obtain ⟨m', hm'⟩ := g c' l' hl'
    exact hR.inj c c' m m' M M' hm hm' hM hM' he

/-- A block is given a new number: the old number is used no more. -/
theorem reid_sound (hR : Rel lim φ I w H) {b : Nat} {k k' : Blk} (hk : hget H b = some k) {L : Loc} (hL : φ[b]? = some (some L)) (hb : lim ≤ b) {C' : Array Value} {T : TypeId} (hw : Wrote w w' L.k C' T)
    (hS : C'.size = L.S) (base : Nat) (hc : CellsOK φ I w C' base k') :
    Rel lim (φ ++ [some ⟨L.k, base, L.S⟩]) I w' (hset H b none ++ [some k']) ∧ Ext lim φ I w (φ ++ [some ⟨L.k, base, L.S⟩]) I w' := by
  have hlt := hget_lt hk
  have h1 := hw.ext hR hk hL hb
  have hext : Ext lim φ I w (φ ++ [some ⟨L.k, base, L.S⟩]) I w' := by
    refine ⟨List.prefix_append _ _, fun _ h => h, h1.old, h1.lo, fun c M h => ?_, h1.os, h1.tape, h1.output, h1.size⟩
    rcases phi_push h with ⟨-, h2⟩ | ⟨-, h2⟩
    · exact .inr ⟨c, M, h2, rfl⟩
    · cases h2; exact .inr ⟨b, L, hL, rfl⟩
  have keep : ∀ {x : AV} {y : Value}, Den φ I w x y → Den (φ ++ [some ⟨L.k, base, L.S⟩]) I w' x y := fun h => h.ext hR hext
  have live : ∀ (c : Nat) (l : Blk), hget (hset H b none ++ [some k']) c = some l → (c < H.length ∧ c ≠ b ∧ hget H c = some l) ∨ (c = H.length ∧ l = k') := by
    intro c l hl
    rcases Nat.lt_or_ge c H.length with h | h
    · rw [hget_append_old (by simpa using h)] at hl
      by_cases hcb : c = b
      · subst hcb; rw [hget_hset_same hlt] at hl; cases hl
      · rw [hget_hset_ne hcb] at hl; exact .inl ⟨h, hcb, hl⟩
    · have h2 := hget_lt hl
      simp at h2
      have : c = (hset H b none).length := by simp; omega
      rw [this, hget_append_new] at hl
      cases hl
      exact .inr ⟨by omega, rfl⟩
  refine ⟨⟨by simp [hR.len], by simp; have := hR.limle; omega, fun c l hl => ?_, fun c M h => ?_, fun c c' l l' M M' hl hl' hM hM' he => ?_, fun c c' M M' hc' hc'' hM hM' => ?_, fun i hi => by rw [hw.size]; exact hR.Ilt i hi, hR.tab_to (fun _ h => h) (hR.keepI hext)⟩, hext⟩
  · rcases live c l hl with ⟨h2, h3, h4⟩ | ⟨rfl, rfl⟩
    · rcases hR.blk c l h4 with ⟨g1, g2⟩ | ⟨M, C, T', g1, g2, g3, g5⟩
      · exact .inl ⟨pre_get hext.pre g1, g2⟩
      · refine .inr ⟨M, C, T', pre_get hext.pre g1, ?_, g3, g5.1, fun j x hx => by obtain ⟨y, e1, e2⟩ := g5.2 j x hx; exact ⟨y, e1, keep e2⟩⟩
        rw [hw.other M.k (fun e => h3 (hR.inj c b l k M L h4 hk g1 hL e))]
        exact g2
    · exact .inr ⟨⟨L.k, base, L.S⟩, C', T, by rw [← hR.len]; simp, hw.new, hS, hc.1, fun j x hx => by obtain ⟨y, e1, e2⟩ := hc.2 j x hx; exact ⟨y, e1, keep e2⟩⟩
  · rcases phi_push h with ⟨-, h2⟩ | ⟨-, h2⟩
    · exact ⟨(hR.disj c M h2).1, by rw [hw.size]; exact (hR.disj c M h2).2⟩
    · cases h2; exact ⟨(hR.disj b L hL).1, by rw [hw.size]; exact (hR.disj b L hL).2⟩
  · rcases live c l hl with ⟨a1, a2, a3⟩ | ⟨a1, a2⟩ <;> rcases live c' l' hl' with ⟨b1, b2, b3⟩ | ⟨b1, b2⟩
    · rcases phi_push hM with ⟨-, e1⟩ | ⟨e1, -⟩
      · rcases phi_push hM' with ⟨-, e2⟩ | ⟨e2, -⟩
        · exact hR.inj c c' l l' M M' a3 b3 e1 e2 he
        · rw [hR.len] at e2; omega
      · rw [hR.len] at e1; omega
    · rcases phi_push hM with ⟨-, e1⟩ | ⟨e1, -⟩
      · rcases phi_push hM' with ⟨e2, -⟩ | ⟨-, e2⟩
        · rw [hR.len] at e2; omega
        · cases e2; exact absurd (hR.inj c b l k M L a3 hk e1 hL he) a2
      · rw [hR.len] at e1; omega
    · rcases phi_push hM' with ⟨-, e1⟩ | ⟨e1, -⟩
      · rcases phi_push hM with ⟨e2, -⟩ | ⟨-, e2⟩
        · rw [hR.len] at e2; omega
        · cases e2; exact absurd (hR.inj c' b l' k M' L b3 hk e1 hL he.symm) b2
      · rw [hR.len] at e1; omega
    · omega
  · rcases phi_push hM' with ⟨-, e1⟩ | ⟨-, e1⟩
    · rcases phi_push hM with ⟨-, e2⟩ | ⟨e2, -⟩
      · exact hR.sep c c' M M' hc' hc'' e2 e1
      · have := hR.limle; rw [hR.len] at e2; omega
    · cases e1
      rcases phi_push hM with ⟨-, e2⟩ | ⟨e2, -⟩
      · exact hR.sep c b M L hc' hb e2 hL
      · have := hR.limle; rw [hR.len] at e2; omega

theorem wrote_setRow {k : Nat} {C C' : Array Value} {T : TypeId} (h : w.heap[k]? = some (.cells C T (0, 0))) : Wrote w (w.setRow k C') k C' T where
  new := setRow_heap w k C C' T (0, 0) h
  other := fun i hi => setRow_other w k i C' hi
  size := size_setRow w k C'
  os := rfl
  tape := ⟨rfl, fun _ => Nat.le_refl _⟩
  output := rfl

theorem setL_eq : ∀ (c : List AV) (l : List AV) (o : Nat), o + c.length ≤ l.length → setL l o c = l.take o ++ c ++ l.drop (o + c.length)
  | [], l, o, h => by simp [setL]
  | x :: c, l, o, h => by
    simp only [List.length_cons] at h
    simp only [setL]
    rw [setL_eq c _ _ (by simp; omega)]
    apply List.ext_getElem?
    intro j
    simp only [List.append_assoc, List.getElem?_append, List.length_take, List.length_set, List.getElem?_take, List.getElem?_drop, List.getElem?_set, List.length_cons]
    have e1 : min (o + 1) l.length = o + 1 := by omega
    have e2 : min o l.length = o := by omega
    rw [e1, e2]
    by_cases h1 : j < o
    · rw [if_pos (by omega), if_pos (by omega), if_neg (by omega), if_pos h1, if_pos h1]
    · by_cases h2 : j = o
      · subst h2
        rw [if_pos (by omega), if_pos (by omega), if_pos rfl, if_pos (by omega), if_neg (by omega), if_pos (by omega)]
        simp
      · rw [if_neg (by omega), if_neg h1]
        by_cases h3 : j - (o + 1) < c.length
        · rw [if_pos h3, if_pos (by omega)]
          rw [show j - o = (j - (o + 1)) + 1 by omega]
          rfl
        · rw [if_neg h3, if_neg (by omega), if_neg (by omega)]
          congr 1
          omega

/-- Cells laid over cells. -/
theorem cells_over {C : Array Value} {base : Nat} {l c : List AV} {vs : List Value} (hC : CellsOK φ I w C base l) (o : Nat) (ho : o + c.length ≤ l.length) (hl : vs.length = c.length)
    (hd : ∀ (j : Nat) (x : AV) (y : Value), c[j]? = some x → vs[j]? = some y → Den φ I w x y) :
    CellsOK φ I w (C.toList.take (base + o) ++ vs ++ C.toList.drop (base + o + vs.length)).toArray base (l.take o ++ c ++ l.drop (o + c.length)) ∧
      (C.toList.take (base + o) ++ vs ++ C.toList.drop (base + o + vs.length)).toArray.size = C.size := by
  have hb := hC.1
  have hsz : (C.toList.take (base + o) ++ vs ++ C.toList.drop (base + o + vs.length)).toArray.size = C.size := by simp; omega
  refine ⟨⟨by rw [hsz]; simp; omega, fun j x hx => ?_⟩, hsz⟩
  have hjl : j < l.length := by
    have := (List.getElem?_eq_some_iff.1 hx).1
    simp at this; omega
  rw [List.append_assoc, List.getElem?_append] at hx
  simp only [List.length_take] at hx
  have e2 : min o l.length = o := by omega
  rw [e2] at hx
  have get : ∀ i, (C.toList.take (base + o) ++ vs ++ C.toList.drop (base + o + vs.length)).toArray[i]? =
      if i < base + o then C[i]? else if i - (base + o) < vs.length then vs[i - (base + o)]? else C[i]? := by
    intro i
    simp only [List.getElem?_toArray, List.append_assoc, List.getElem?_append, List.length_take, List.getElem?_take, List.getElem?_drop, Array.length_toList]
    have e3 : min (base + o) C.size = base + o := by omega
    rw [e3]
    by_cases h1 : i < base + o
    · rw [if_pos h1, if_pos h1, if_pos h1]; simp
    · rw [if_neg h1, if_neg h1]
      by_cases h2 : i - (base + o) < vs.length
      · rw [if_pos h2, if_pos h2]
      · rw [if_neg h2, if_neg h2]
        rw [show base + o + vs.length + (i - (base + o) - vs.length) = i by omega]
        simp
  rw [get]
  split at hx
  · rename_i h1
    rw [List.getElem?_take, if_pos h1] at hx
    rw [if_pos (by omega)]
    exact hC.2 j x hx
  · rename_i h1
    rw [if_neg (by omega)]
    rw [List.getElem?_append] at hx
    split at hx
    · rename_i h2
      rw [if_pos (by omega)]
      have : base + j - (base + o) = j - o := by omega
      rw [this]
      have hv : vs[j - o]? = some (vs[j - o]'(by omega)) := List.getElem?_eq_getElem _
      exact ⟨_, hv, hd _ _ _ hx hv⟩
    · rename_i h2
      rw [if_neg (by omega)]
      rw [List.getElem?_drop] at hx
      have : o + c.length + (j - o - c.length) = j := by omega
      rw [this] at hx
      exact hC.2 j x hx

theorem store_sound (hR : Rel lim φ I w H) {t : TypeId} {ty : Ty} (ht : tyOf P t = some ty) {b o : Nat} {k : Blk} (hk : hget H b = some k) {c : List AV} {x : AV} (hc : cellsOf x = some c) (hlim : lim ≤ b) (hsz : c.length = ty.size) (ho : o + ty.size ≤ k.length)
    {va vx : Value} (ha : Den φ I w (.ptr b o) va) (hx : Den φ I w x vx) : ∃ w', (Instr.storeAt t va vx).run P w = .ok () w' ∧ Rel lim φ I w' (hset H b (some (setL k o c))) ∧ Ext lim φ I w φ I w' := by
  obtain ⟨hDL, hone⟩ := cellsOf_sound hc hx
  cases ha with
  | ptr _ _ L hL =>
    rcases hR.blk b k hk with ⟨h1, h2⟩ | ⟨L', C, T, h1, h2, h3, h5⟩
    · rw [hL] at h1; cases h1
    · rw [hL] at h1; cases h1
      have hlen : vx.cells.toList.length = c.length := by simpa using hDL.1
      have hb5 := h5.1
      have hrun := run_storeCells_at P L.k (L.base + o) T vx.cells.toList 0 C w h2 (by omega) hone
      obtain ⟨hco, hcs⟩ := cells_over (vs := vx.cells.toList) h5 o (by omega) hlen (fun j a y ha hy => hDL.2 j a y ha (by simpa using hy))
      have hw := wrote_setRow (C' := (C.toList.take (L.base + o) ++ vx.cells.toList ++ C.toList.drop (L.base + o + vx.cells.toList.length)).toArray) h2
      refine ⟨_, ?_, ?_, hw.ext hR hk hL hlim⟩
      · have hsz' : ¬ (vx.cells.size ≠ ty.size) := by rw [hDL.1, hsz]; simp
        simp only [Instr.storeAt, Instr.sureAddr, Sem.run_bind, Sem.run_pure, Result.andThen_ok, storeVar, run_sizeOf ht, if_neg hsz']
        simpa using hrun
      · rw [setL_eq c k o (by omega)]
        exact write_sound hR hk hL hlim hw (by rw [hcs]; exact h3) hco

end
end Go.Am
