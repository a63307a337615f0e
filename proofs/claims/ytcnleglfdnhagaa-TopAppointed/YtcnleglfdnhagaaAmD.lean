/-
  The abstract machine: what an abstract value denotes, and the pure operations' soundness.
-/
import Derived.Test.YtcnleglfdnhagaaAm
import Derived.Laws.StructEq
namespace Go.Am
open Go
set_option linter.unusedSimpArgs false
set_option linter.unusedVariables false

/-- Where an abstract block lies: the block in the world's heap, the cell at which it begins, that block's size. -/
structure Loc where
  k : Nat
  base : Nat
  S : Nat

abbrev Phi := List (Option Loc)

inductive Den (φ : Phi) (I : Nat → Prop) (w : World) : AV → Value → Prop
  | any (x : Value) : Den φ I w .any x
  | v (x : Value) : Den φ I w (.v x) x
  | sl0 (l : List AV) (p : Option Addr) : Den φ I w (.sl 0 l) (.slice p 0 0)
  | sl (n : Nat) (l : List AV) (c : Nat) (a : Addr) (Y : Nat → Value) (hn : n ≤ c) (hc : c ≤ maxLen) (ha : a.spot = none) (hI : I a.block)
      (hY : ∀ (j : Nat) (x : AV), l[j]? = some x → w.cell? ⟨a.block, a.off + j, none⟩ = some (Y j)) (hD : ∀ (j : Nat) (x : AV), l[j]? = some x → Den φ I w x (Y j)) : Den φ I w (.sl n l) (.slice (some a) n c)
  | own0 (z b o : Nat) (h : φ[b]? = some none) : Den φ I w (.own z b o 0) (.slice none 0 0)
  | own (z b o n c off : Nat) (L : Loc) (h : φ[b]? = some (some L)) (hn : n ≤ c) (hc : c ≤ maxLen) (ho : c = 0 ∨ (off = L.base + o ∧ off + c * z ≤ L.S)) :
      Den φ I w (.own z b o n) (.slice (some ⟨L.k, off, none⟩) n c)
  | ptr (b o : Nat) (L : Loc) (h : φ[b]? = some (some L)) : Den φ I w (.ptr b o) (.pointer (some ⟨L.k, L.base + o, none⟩))
  | ele (l : List AV) (o : Nat) (a : Addr) (Y : Nat → Value) (ha : a.spot = none) (hI : I a.block)
      (hY : ∀ (j : Nat) (x : AV), l[j]? = some x → w.cell? ⟨a.block, a.off + j, none⟩ = some (Y j)) (hD : ∀ (j : Nat) (x : AV), l[j]? = some x → Den φ I w x (Y j)) :
      Den φ I w (.ele l o) (.pointer (some ⟨a.block, a.off + o, none⟩))
  | agg (l : List AV) (cs : Array Value) (hs : cs.size = l.length) (hD : ∀ (j : Nat) (x : AV) (y : Value), l[j]? = some x → cs[j]? = some y → Den φ I w x y) : Den φ I w (.agg l) (.agg cs)
  | tup (l : List AV) (cs : Array Value) (hs : cs.size = l.length) (hD : ∀ (j : Nat) (x : AV) (y : Value), l[j]? = some x → cs[j]? = some y → Den φ I w x y) : Den φ I w (.tup l) (.tuple cs)
  | clo (f : FuncId) (l : List AV) (cs : Array Value) (hs : cs.size = l.length) (hD : ∀ (j : Nat) (x : AV) (y : Value), l[j]? = some x → cs[j]? = some y → Den φ I w x y) :
      Den φ I w (.clo f l) (.func (.func f) #[] cs)

theorem Den.mono {φ φ' : Phi} {I I' : Nat → Prop} {w w' : World} (hp : φ <+: φ') (hI : ∀ k, I k → I' k) (hh : ∀ k, I k → w'.heap[k]? = w.heap[k]?) {x : AV} {y : Value} (h : Den φ I w x y) : Den φ' I' w' x y := by
  have pre : ∀ {b : Nat} {o : Option Loc}, φ[b]? = some o → φ'[b]? = some o := by
    intro b o hb
    obtain ⟨r, rfl⟩ := hp
    rw [List.getElem?_append_left (by have := List.getElem?_eq_some_iff.1 hb; exact this.1)]
    exact hb
  induction h with
  | any x => exact .any x
  | v x => exact .v x
  | sl0 l p => exact .sl0 l p
  | sl n l c a Y hn hc ha hIa hY hD ih =>
    exact .sl n l c a Y hn hc ha (hI _ hIa) (fun j x hj => by rw [World.cell?_of_block (w := w) (a := ⟨a.block, a.off + j, none⟩) (hh _ hIa)]; exact hY j x hj) ih
  | own0 z b o h => exact .own0 z b o (pre h)
  | own z b o n c off L h hn hc ho => exact .own z b o n c off L (pre h) hn hc ho
  | ptr b o L h => exact .ptr b o L (pre h)
  | ele l o a Y ha hIa hY hD ih =>
    exact .ele l o a Y ha (hI _ hIa) (fun j x hj => by rw [World.cell?_of_block (w := w) (a := ⟨a.block, a.off + j, none⟩) (hh _ hIa)]; exact hY j x hj) ih
  | agg l cs hs hD ih => exact .agg l cs hs ih
  | tup l cs hs hD ih => exact .tup l cs hs ih
  | clo f l cs hs hD ih => exact .clo f l cs hs ih

theorem addr_add (a : Addr) (j : Nat) (ha : a.spot = none) : a.add j = ⟨a.block, a.off + j, none⟩ := by
  unfold Addr.add
  split
  · subst_vars; cases a; simp_all
  · rfl


theorem den_v {φ : Phi} {I : Nat → Prop} {w : World} {x y : Value} (h : Den φ I w (.v x) y) : y = x := by cases h; rfl

section
variable {P : Program} {φ : Phi} {I : Nat → Prop} {w : World}

theorem tyOf_spec {t : TypeId} {ty : Ty} (h : tyOf P t = some ty) : ∃ i d, P.info? t = some i ∧ P.underlying t = some d ∧ ty = { size := i.size, bytes := i.bytes, agg := tyAgg d, k := tyK d, zero := i.zero.map fun z => z.cells.toList } := by
  unfold tyOf at h
  split at h
  · rename_i i d hi hd
    exact ⟨i, d, hi, hd, by simpa using h.symm⟩
  · cases h

theorem tyk_slice {t e : TypeId} (h : tk P t = some (.slice e)) : P.underlying t = some (.slice e) := by
  cases ht : tyOf P t with
  | none => simp [tk, kOf, ht] at h
  | some ty =>
    obtain ⟨i, d, hi, hd, rfl⟩ := tyOf_spec ht
    simp [tk, kOf, ht] at h
    cases d <;> simp [tyK] at h
    subst h; exact hd
theorem tyk_array {t e : TypeId} {n : Nat} (h : tk P t = some (.array n e)) : P.underlying t = some (.array n e) := by
  cases ht : tyOf P t with
  | none => simp [tk, kOf, ht] at h
  | some ty =>
    obtain ⟨i, d, hi, hd, rfl⟩ := tyOf_spec ht
    simp [tk, kOf, ht] at h
    cases d <;> simp [tyK] at h
    obtain ⟨rfl, rfl⟩ := h; exact hd
theorem tyk_bool {t : TypeId} (h : tk P t = some .bool) : P.underlying t = some .bool := by
  cases ht : tyOf P t with
  | none => simp [tk, kOf, ht] at h
  | some ty =>
    obtain ⟨i, d, hi, hd, rfl⟩ := tyOf_spec ht
    simp [tk, kOf, ht] at h
    cases d <;> simp [tyK] at h
    exact hd
theorem tyk_string {t : TypeId} (h : tk P t = some .string) : P.underlying t = some .string := by
  cases ht : tyOf P t with
  | none => simp [tk, kOf, ht] at h
  | some ty =>
    obtain ⟨i, d, hi, hd, rfl⟩ := tyOf_spec ht
    simp [tk, kOf, ht] at h
    cases d <;> simp [tyK] at h
    exact hd
theorem tyk_int {t : TypeId} {k : IntKind} (h : tk P t = some (.int k)) : P.underlying t = some (.int k) := by
  cases ht : tyOf P t with
  | none => simp [tk, kOf, ht] at h
  | some ty =>
    obtain ⟨i, d, hi, hd, rfl⟩ := tyOf_spec ht
    simp [tk, kOf, ht] at h
    cases d <;> simp [tyK] at h
    subst h; exact hd
theorem tyk_struct {t : TypeId} {fs : List (Nat × TypeId)} (h : tk P t = some (.struct fs)) : ∃ gs : Array Field, P.underlying t = some (.struct gs) ∧ fs = gs.toList.map fun f => (f.offset, f.type) := by
  cases ht : tyOf P t with
  | none => simp [tk, kOf, ht] at h
  | some ty =>
    obtain ⟨i, d, hi, hd, rfl⟩ := tyOf_spec ht
    simp [tk, kOf, ht] at h
    cases d <;> simp [tyK] at h
    exact ⟨_, hd, h.symm⟩

theorem run_sizeOf {t : TypeId} {ty : Ty} (h : tyOf P t = some ty) (w : World) : (sizeOf t).run P w = .ok ty.size w := by
  obtain ⟨i, d, hi, hd, rfl⟩ := tyOf_spec h
  simp [sizeOf, typeInfo, hi]
theorem run_isAgg {t : TypeId} {ty : Ty} (h : tyOf P t = some ty) (w : World) : (isAgg t).run P w = .ok ty.agg w := by
  obtain ⟨i, d, hi, hd, rfl⟩ := tyOf_spec h
  simp only [isAgg, Sem.run_bind, run_underlying hd, Result.andThen_ok]
  cases d <;> simp [tyAgg]

theorem part_sound {t : TypeId} {ty : Ty} (ht : tyOf P t = some ty) {l : List AV} {o : Nat} {r : AV} (h : partL ty l o = some r) {cs : Array Value} (hs : cs.size = l.length)
    (hD : ∀ (j : Nat) (x : AV) (y : Value), l[j]? = some x → cs[j]? = some y → Den φ I w x y) : ∃ y, (∀ w', (part t cs o).run P w' = .ok y w') ∧ Den φ I w r y := by
  unfold partL at h
  by_cases ha : ty.agg = true
  · simp only [ha, if_true] at h
    split at h
    · rename_i hl
      cases h
      refine ⟨.agg (cs.extract o (o + ty.size)), fun w' => ?_, .agg _ _ ?_ ?_⟩
      · simp [part, run_isAgg ht, ha, run_sizeOf ht]
      · simp; omega
      · intro j x y hx hy
        rw [List.getElem?_take] at hx
        split at hx
        · rename_i hj
          rw [List.getElem?_drop] at hx
          refine hD (o + j) x y hx ?_
          rw [Array.getElem?_extract] at hy
          split at hy
          · exact hy
          · cases hy
        · cases hx
    · cases h
  · simp only [ha] at h
    have hlt : o < l.length := by
      have := List.getElem?_eq_some_iff.1 h
      exact this.1
    refine ⟨cs[o]'(by omega), fun w' => ?_, hD o r _ h (by simp [hs, hlt])⟩
    have : cs[o]? = some (cs[o]'(by omega)) := by simp [hs, hlt]
    simp [part, run_isAgg ht, ha, this]

theorem scalEq_sound {t : TypeId} {x y : AV} {b : Bool} (h : scalEq (tyOf P t) x y = some b) {vx vy : Value} (hx : Den φ I w x vx) (hy : Den φ I w y vy) (d : Nat) (w' : World) :
    (Op.equalIn (d + 1) t vx vy).run P w' = .ok b w' := by
  unfold scalEq at h
  split at h
  · rename_i k a k' a' hk
    have := den_v hx; have := den_v hy; subst_vars
    split at h
    · subst_vars; cases h
      exact run_equalIn_int w' d t _ _ _ _ (tyk_int hk)
    · cases h
  · rename_i hk
    have := den_v hx; have := den_v hy; subst_vars
    cases h
    exact run_equalIn_bool' w' d t _ _ (tyk_bool hk)
  · rename_i hk
    have := den_v hx; have := den_v hy; subst_vars
    cases h
    exact run_equalIn_string w' d t _ _ (tyk_string hk)
  · cases h


theorem part_scalar {t : TypeId} {ty : Ty} (ht : tyOf P t = some ty) (ha : ty.agg = false) {cs : Array Value} {o : Nat} {y : Value} (hy : cs[o]? = some y) (w' : World) : (part t cs o).run P w' = .ok y w' := by
  simp [part, run_isAgg ht, ha, hy]

theorem scalEq_flat {t : TypeId} {x y : AV} {b : Bool} (h : scalEq (tyOf P t) x y = some b) : ∃ ty, tyOf P t = some ty ∧ ty.agg = false := by
  cases ht : tyOf P t with
  | none => simp [scalEq, kOf, ht] at h
  | some ty =>
    refine ⟨ty, rfl, ?_⟩
    obtain ⟨i, d, hi, hd, rfl⟩ := tyOf_spec ht
    simp only [scalEq, kOf, ht, Option.map_some] at h
    cases d <;> first | rfl | simp [tyK] at h

theorem fieldsEq_sound {l m : List AV} {xs ys : Array Value} (hsx : xs.size = l.length) (hsy : ys.size = m.length)
    (hx : ∀ (j : Nat) (x : AV) (y : Value), l[j]? = some x → xs[j]? = some y → Den φ I w x y) (hy : ∀ (j : Nat) (x : AV) (y : Value), m[j]? = some x → ys[j]? = some y → Den φ I w x y) (d : Nat) (w' : World) :
    ∀ (gs : List Field), (∀ f ∈ gs, f.name ≠ "_") → ∀ b, fieldsEq P l m (gs.map fun f => (f.offset, f.type)) = some b → (Op.eqFields (d + 1) xs ys gs).run P w' = .ok b w'
  | [], _, b, h => by
    simp [fieldsEq] at h
    subst h
    simp [Op.eqFields]
  | f :: gs, hn, b, h => by
    simp only [List.map_cons, fieldsEq] at h
    split at h
    · rename_i x y hlx hly
      have lx : f.offset < l.length := (List.getElem?_eq_some_iff.1 hlx).1
      have ly : f.offset < m.length := (List.getElem?_eq_some_iff.1 hly).1
      have ex : xs[f.offset]? = some (xs[f.offset]'(by omega)) := by simp [hsx, lx]
      have ey : ys[f.offset]? = some (ys[f.offset]'(by omega)) := by simp [hsy, ly]
      have hn0 : f.name ≠ "_" := hn f (by simp)
      split at h
      · rename_i hs
        obtain ⟨ty, ht, ha⟩ := scalEq_flat hs
        have ih := fieldsEq_sound hsx hsy hx hy d w' gs (fun g hg => hn g (by simp [hg])) b h
        have he := scalEq_sound hs (hx _ _ _ hlx ex) (hy _ _ _ hly ey) d w'
        simp [Op.eqFields, hn0, part_scalar ht ha ex, part_scalar ht ha ey, he, ih]
      · rename_i hs
        cases h
        obtain ⟨ty, ht, ha⟩ := scalEq_flat hs
        have he := scalEq_sound hs (hx _ _ _ hlx ex) (hy _ _ _ hly ey) d w'
        simp [Op.eqFields, hn0, part_scalar ht ha ex, part_scalar ht ha ey, he]
      · cases h
    · cases h

/-- The model's comparison of two arrays of one-cell elements, as a recursion. -/
theorem cellsEq_sound {e : TypeId} {te : Ty} (ht : tyOf P e = some te) (h1 : te.size = 1) {l m : List AV} {xs ys : Array Value} (hsx : xs.size = l.length) (hsy : ys.size = m.length)
    (hx : ∀ (j : Nat) (x : AV) (y : Value), l[j]? = some x → xs[j]? = some y → Den φ I w x y) (hy : ∀ (j : Nat) (x : AV) (y : Value), m[j]? = some x → ys[j]? = some y → Den φ I w x y) (d : Nat) (w' : World) :
    ∀ (n i : Nat) (b : Bool), cellsEq (tyOf P e) l m i n = some b →
      ((forIn (List.range' i n) ((none, ()) : Option Bool × Unit) fun i _ => do
        if (!(← Op.equalIn (d + 1) e (← part e xs (i * 1)) (← part e ys (i * 1)))) = true then pure (.done (some false, ())) else pure (.yield (none, ())) : Sem (Option Bool × Unit)).run P w') =
        .ok (if b then none else some false, ()) w'
  | 0, i, b, h => by
    simp [cellsEq] at h
    subst h
    simp
  | n + 1, i, b, h => by
    simp only [cellsEq] at h
    split at h
    · rename_i x y hlx hly
      have lx : i < l.length := (List.getElem?_eq_some_iff.1 hlx).1
      have ly : i < m.length := (List.getElem?_eq_some_iff.1 hly).1
      have ex : xs[i]? = some (xs[i]'(by omega)) := by simp [hsx, lx]
      have ey : ys[i]? = some (ys[i]'(by omega)) := by simp [hsy, ly]
      split at h
      · rename_i hs
        obtain ⟨ty, ht', ha⟩ := scalEq_flat hs
        have ih := cellsEq_sound ht h1 hsx hsy hx hy d w' n (i + 1) b h
        have he := scalEq_sound hs (hx _ _ _ hlx ex) (hy _ _ _ hly ey) d w'
        simp only [List.range'_succ, List.forIn_cons, Sem.run_bind, Nat.mul_one, part_scalar ht' ha ex, part_scalar ht' ha ey, he, Result.andThen_ok, Sem.run_ite, Bool.not_true, Bool.false_eq_true, if_false, Sem.run_pure]
        simpa using ih
      · rename_i hs
        cases h
        obtain ⟨ty, ht', ha⟩ := scalEq_flat hs
        have he := scalEq_sound hs (hx _ _ _ hlx ex) (hy _ _ _ hly ey) d w'
        simp only [List.range'_succ, List.forIn_cons, Sem.run_bind, Nat.mul_one, part_scalar ht' ha ex, part_scalar ht' ha ey, he, Result.andThen_ok, Sem.run_ite, Bool.not_false, if_true, Sem.run_pure]
        simp
      · cases h
    · cases h

theorem aggEq_sound {t : TypeId} {l m : List AV} {b : Bool} (h : aggEq P t l m = some b) {xs ys : Array Value} (hsx : xs.size = l.length) (hsy : ys.size = m.length)
    (hx : ∀ (j : Nat) (x : AV) (y : Value), l[j]? = some x → xs[j]? = some y → Den φ I w x y) (hy : ∀ (j : Nat) (x : AV) (y : Value), m[j]? = some x → ys[j]? = some y → Den φ I w x y) (d : Nat) (w' : World) :
    P.eqGuardType P.depth t = false ∧ (Op.equalIn (d + 2) t (.agg xs) (.agg ys)).run P w' = .ok b w' := by
  unfold aggEq at h
  split at h
  · cases h
  rename_i hok
  simp only [Bool.not_eq_false] at hok
  unfold eqOk at hok
  simp only [Bool.and_eq_true, Bool.not_eq_true'] at hok
  refine ⟨hok.1, ?_⟩
  split at h
  · rename_i fs hk
    obtain ⟨gs, hd, rfl⟩ := tyk_struct hk
    rw [hd] at hok
    simp only [Bool.and_eq_true, Bool.not_eq_true', Array.all_eq_true', bne_iff_ne] at hok
    have hf : P.fieldsOf t = gs := by simp [Program.fieldsOf, hd]
    rw [run_equalIn_struct w' (d + 1) t xs ys (by rw [hf]; exact hd) hok.2.1, hf]
    exact fieldsEq_sound hsx hsy hx hy d w' gs.toList (fun f hf => hok.2.2 f (by simpa using hf)) b h
  · rename_i n e hk
    split at h
    · rename_i h1
      cases ht : tyOf P e with
      | none => simp [ht] at h1
      | some te =>
        simp only [ht, Option.map_some, Option.some.injEq] at h1
        have hc := cellsEq_sound ht h1 hsx hsy hx hy d w' n 0 b h
        obtain ⟨D, hD⟩ : ∃ D, D = d + 1 := ⟨_, rfl⟩
        rw [← hD] at hc
        rw [show d + 2 = D + 1 by omega]
        clear hD
        simp only [Op.equalIn, Sem.run_bind, run_underlying (tyk_array hk), Result.andThen_ok, run_sizeOf ht, h1]
        simp only [Std.Legacy.Range.forIn_eq_forIn_range', Std.Legacy.Range.size, Nat.sub_zero, Nat.add_sub_cancel, Nat.div_one]
        rw [hc]
        cases b <;> simp
    · cases h
  · cases h

theorem run_equalIn_nil (w' : World) (d : Nat) (t e : TypeId) (ht : P.underlying t = some (.slice e)) (b : Option Addr) (n c : Nat) : (Op.equalIn (d + 1) t (.slice b n c) (.slice none 0 0)).run P w' = .ok b.isNone w' := by
  cases b <;> simp [Op.equalIn, run_underlying ht]
theorem nilB_sound {x : AV} {r : Bool} (h : nilB x = some r) {vx : Value} (hx : Den φ I w x vx) : ∃ b n c, vx = .slice b n c ∧ b.isNone = r := by
  unfold nilB at h
  split at h
  · split at h
    · cases h
      cases hx with
      | own0 => omega
      | own => exact ⟨_, _, _, rfl, rfl⟩
    · cases h
  · split at h
    · cases h
      cases hx with
      | sl0 => omega
      | sl => exact ⟨_, _, _, rfl, rfl⟩
    · cases h
  · cases h
    have := den_v hx
    subst this
    exact ⟨_, _, _, rfl, rfl⟩
  · cases h
theorem bin_sound {op : BinOp} {t : TypeId} {x y r : AV} (h : binV P op t x y = some r) {vx vy : Value} (hx : Den φ I w x vx) (hy : Den φ I w y vy) (xo yo : Operand) :
    ∃ z, (∀ w', ((do eqGuard op t xo yo vx vy; binOp op t vx vy : Sem Value)).run P w' = .ok z w') ∧ Den φ I w r z := by
  unfold binV at h
  split at h
  · rename_i k a k' b
    have := den_v hx; have := den_v hy; subst_vars
    split at h
    · simp only [shiftBin] at h
      split at h
      · cases h
      · simp only [Option.map_some, Option.some.injEq] at h
        subst h
        rename_i hb
        exact ⟨_, fun w' => by simp [eqGuard, binOp, Op.shift, hb], .v _⟩
    · simp only [shiftBin] at h
      split at h
      · cases h
      · simp only [Option.map_some, Option.some.injEq] at h
        subst h
        rename_i hb
        exact ⟨_, fun w' => by simp [eqGuard, binOp, Op.shift, hb], .v _⟩
    · split at h
      · subst_vars
        simp only [Option.map_eq_some_iff] at h
        obtain ⟨z, h1, rfl⟩ := h
        refine ⟨z, fun w' => ?_, .v _⟩
        cases op <;> simp [intBin] at h1 <;> simp_all [eqGuard, binOp, Op.intArith, Op.intDiv, Op.intBits, Op.intCmp]
      · cases h
  · rename_i a b
    have := den_v hx; have := den_v hy; subst_vars
    simp only [Option.map_eq_some_iff] at h
    obtain ⟨z, h1, rfl⟩ := h
    refine ⟨z, fun w' => ?_, .v _⟩
    cases op <;> simp [strBin] at h1 <;> simp [eqGuard, binOp, Op.stringOp] <;> first | (exact h1) | (obtain ⟨h2, rfl⟩ := h1; simp; omega) | skip
  · rename_i a b
    have := den_v hx; have := den_v hy; subst_vars
    split at h
    · rename_i hk
      cases h
      exact ⟨.bool (a == b), fun w' => by simp [eqGuard, binOp, Op.equal, Op.maxDepth, run_equalIn_bool' w' 9999 t a b (tyk_bool hk)], .v _⟩
    · rename_i hk
      cases h
      exact ⟨.bool (!(a == b)), fun w' => by simp [eqGuard, binOp, Op.equal, Op.maxDepth, run_equalIn_bool' w' 9999 t a b (tyk_bool hk)], .v _⟩
    · cases h
  · rename_i l m
    cases hx with
    | agg l xs hsx hx =>
    cases hy with
    | agg m ys hsy hy =>
    split at h
    · simp only [Option.map_eq_some_iff] at h
      obtain ⟨b, h1, rfl⟩ := h
      refine ⟨.bool b, fun w' => ?_, .v _⟩
      have := aggEq_sound h1 hsx hsy hx hy 9998 w'
      simp [run_eqGuard_agg w' .eql t xo yo xs ys this.1, run_eql_struct, this.2]
    · simp only [Option.map_eq_some_iff] at h
      obtain ⟨b, h1, rfl⟩ := h
      refine ⟨.bool (!b), fun w' => ?_, .v _⟩
      have := aggEq_sound h1 hsx hsy hx hy 9998 w'
      simp [run_eqGuard_agg w' .neq t xo yo xs ys this.1, run_neq_struct, this.2]
    · cases h
  · have hv := den_v hy
    subst hv
    split at h
    · rename_i hk
      simp only [Option.map_eq_some_iff] at h
      obtain ⟨b, h1, rfl⟩ := h
      obtain ⟨p, n, c, rfl, rfl⟩ := nilB_sound h1 hx
      exact ⟨.bool p.isNone, fun w' => by simp [eqGuard, binOp, Op.equal, Op.maxDepth, run_equalIn_nil w' 9999 t _ (tyk_slice hk)], .v _⟩
    · rename_i hk
      simp only [Option.map_eq_some_iff] at h
      obtain ⟨b, h1, rfl⟩ := h
      obtain ⟨p, n, c, rfl, rfl⟩ := nilB_sound h1 hx
      exact ⟨.bool (!p.isNone), fun w' => by simp [eqGuard, binOp, Op.equal, Op.maxDepth, run_equalIn_nil w' 9999 t _ (tyk_slice hk)], .v _⟩
    · cases h
  · cases h


theorem un_sound {op : UnOp} {x r : AV} (h : unV op x = some r) {vx : Value} (hx : Den φ I w x vx) : ∃ z, (∀ w', (Op.unary op vx).run P w' = .ok z w') ∧ Den φ I w r z := by
  unfold unV at h
  split at h
  · have := den_v hx; subst_vars; cases h
    exact ⟨_, fun w' => by simp [Op.unary], .v _⟩
  · have := den_v hx; subst_vars; cases h
    exact ⟨_, fun w' => by simp [Op.unary, Op.intArith], .v _⟩
  · have := den_v hx; subst_vars
    simp only [Option.map_eq_some_iff] at h
    obtain ⟨z, h1, rfl⟩ := h
    simp [intBin] at h1
    subst h1
    exact ⟨_, fun w' => by simp [Op.unary, Op.intBits], .v _⟩
  · cases h

theorem kOf_some {ty : Option Ty} {k : TyK} (h : kOf ty = some k) : ∃ t, ty = some t ∧ t.k = k := by
  cases ty with
  | none => cases h
  | some t => exact ⟨t, rfl, by simpa [kOf] using h⟩

theorem len_sound {t ot : TypeId} {x r : AV} (h : lenV (tyOf P t) x = some r) {vx : Value} (hx : Den φ I w x vx) : ∃ z, (∀ w', (Builtin.len_ #[t] ot #[vx]).run P w' = .ok z w') ∧ Den φ I w r z := by
  unfold lenV at h
  split at h
  · rename_i hk
    have hu := tyk_slice (P := P) (t := t) hk
    cases h
    cases hx with
    | sl0 l p => exact ⟨_, fun w' => by simp [Builtin.len_, run_underlying hu, goInt], .v _⟩
    | sl n l c a Y hn hc ha hI hY hD => exact ⟨_, fun w' => by simp [Builtin.len_, run_underlying hu, goInt], .v _⟩
  · rename_i hk
    have hu := tyk_slice (P := P) (t := t) hk
    cases h
    cases hx with
    | own0 z b o hb => exact ⟨_, fun w' => by simp [Builtin.len_, run_underlying hu, goInt], .v _⟩
    | own z b o n c off L hL hn hc ho => exact ⟨_, fun w' => by simp [Builtin.len_, run_underlying hu, goInt], .v _⟩
  · rename_i hk
    have hu := tyk_slice (P := P) (t := t) hk
    cases h
    have := den_v hx; subst_vars
    exact ⟨_, fun w' => by simp [Builtin.len_, run_underlying hu, goInt], .v _⟩
  · rename_i hk
    have hu := tyk_string (P := P) (t := t) hk
    cases h
    have := den_v hx; subst_vars
    exact ⟨_, fun w' => by simp [Builtin.len_, run_underlying hu, goInt], .v _⟩
  · rename_i n e hk
    have hu := tyk_array (P := P) (t := t) hk
    cases h
    exact ⟨_, fun w' => by simp [Builtin.len_, run_underlying hu, goInt], .v _⟩
  · cases h

theorem foldA_sound {f : AV → AV → Option AV} {g : Value → Value → Sem Value} (hfg : ∀ x y r, f x y = some r → ∀ vx vy, Den φ I w x vx → Den φ I w y vy → ∃ z, (∀ w', (g vx vy).run P w' = .ok z w') ∧ Den φ I w r z) :
    ∀ (l : List AV) (x r : AV), foldA f x l = some r → ∀ (vx : Value) (vl : List Value), Den φ I w x vx → vl.length = l.length → (∀ (j : Nat) (x : AV) (y : Value), l[j]? = some x → vl[j]? = some y → Den φ I w x y) →
      ∃ z, (∀ w', (vl.foldlM g vx).run P w' = .ok z w') ∧ Den φ I w r z
  | [], x, r, h, vx, vl, hx, hl, hd => by
    cases vl with
    | nil => simp [foldA] at h; subst h; exact ⟨vx, fun w' => by simp, hx⟩
    | cons a b => simp at hl
  | y :: l, x, r, h, vx, vl, hx, hl, hd => by
    cases vl with
    | nil => simp at hl
    | cons vy vl =>
      simp only [foldA] at h
      split at h
      · rename_i z hz
        obtain ⟨vz, h1, h2⟩ := hfg x y z hz vx vy hx (hd 0 y vy rfl rfl)
        obtain ⟨u, h3, h4⟩ := foldA_sound hfg l z r h vz vl h2 (by simpa using hl) (fun j a b ha hb => hd (j + 1) a b (by simpa using ha) (by simpa using hb))
        exact ⟨u, fun w' => by simp [h1, h3], h4⟩
      · cases h

theorem max2_sound : ∀ x y r, max2 x y = some r → ∀ vx vy, Den φ I w x vx → Den φ I w y vy → ∃ z, (∀ w', (Builtin.max2 vx vy).run P w' = .ok z w') ∧ Den φ I w r z := by
  intro x y r h vx vy hx hy
  unfold max2 at h
  split at h
  · have := den_v hx; have := den_v hy; subst_vars; cases h
    exact ⟨_, fun w' => by simp only [Builtin.max2]; rfl, .v _⟩
  · cases h
theorem min2_sound : ∀ x y r, min2 x y = some r → ∀ vx vy, Den φ I w x vx → Den φ I w y vy → ∃ z, (∀ w', (Builtin.min2 vx vy).run P w' = .ok z w') ∧ Den φ I w r z := by
  intro x y r h vx vy hx hy
  unfold min2 at h
  split at h
  · have := den_v hx; have := den_v hy; subst_vars; cases h
    exact ⟨_, fun w' => by simp only [Builtin.min2]; rfl, .v _⟩
  · cases h

theorem conv_sound {s d : TypeId} {x r : AV} (h : convV P s d x = some r) {vx : Value} (hx : Den φ I w x vx) : ∃ z, (∀ w', (convert s d vx).run P w' = .ok z w') ∧ Den φ I w r z := by
  unfold convV at h
  split at h
  · rename_i ty k k' n ht hk
    have := den_v hx; subst_vars; cases h
    obtain ⟨i, d', hi, hd, -⟩ := tyOf_spec ht
    exact ⟨_, fun w' => by simp [convert, run_underlying hd, run_underlying (tyk_int hk), Conv.intToInt], .v _⟩
  · rename_i ty s' ht hk
    have := den_v hx; subst_vars; cases h
    obtain ⟨i, d', hi, hd, -⟩ := tyOf_spec ht
    exact ⟨_, fun w' => by simp [convert, run_underlying hd, run_underlying (tyk_string hk)], .v _⟩
  · cases h

theorem str_get {s : ByteArray} {i : Nat} (h : i < s.size) : s[i]? = some (s.data[i]?.getD 0) := by
  have h' : i < s.data.size := h
  rw [getElem?_pos s i h, Array.getElem?_eq_getElem h']
  rfl

theorem index_sound {t : TypeId} {x ix r : AV} (h : indexV P t x ix = some r) {vx vi : Value} (hx : Den φ I w x vx) (hi : Den φ I w ix vi) : ∃ z, (∀ w', (Instr.index t vx vi).run P w' = .ok z w') ∧ Den φ I w r z := by
  unfold indexV at h
  split at h
  · rename_i l k i n e hk
    split at h
    · rename_i te ht
      split at h
      · rename_i hb
        have := den_v hi; subst_vars
        cases hx with
        | agg l cs hs hD =>
          obtain ⟨y, h1, h2⟩ := part_sound ht h hs hD
          exact ⟨y, fun w' => by simp [Instr.index, asIntOf, run_underlying (tyk_array hk), hb, run_sizeOf ht, h1], h2⟩
      · cases h
    · cases h
  · rename_i s k i hk
    split at h
    · rename_i hb
      have := den_v hx; have := den_v hi; subst_vars; cases h
      exact ⟨_, fun w' => by simp [Instr.index, asIntOf, run_underlying (tyk_string hk), hb.1, str_get hb.2], .v _⟩
    · cases h
  · cases h

theorem tyk_of {t : TypeId} {ty : Ty} (ht : tyOf P t = some ty) : tk P t = some ty.k := by simp [tk, kOf, ht]

theorem indexAddr_sound {t : TypeId} {x ix r : AV} (h : indexAddrV P t x ix = some r) {vx vi : Value} (hx : Den φ I w x vx) (hi : Den φ I w ix vi) : ∃ z, (∀ w', (Instr.indexAt t vx vi).run P w' = .ok z w') ∧ Den φ I w r z := by
  unfold indexAddrV at h
  split at h
  · rename_i n l k i e hk
    split at h
    · rename_i te ht
      split at h
      · rename_i hb
        have := den_v hi; subst_vars; cases h
        cases hx with
        | sl0 l p => simp at hb; omega
        | sl n l c a Y hn hc ha hI hY hD =>
          refine ⟨.pointer (some ⟨a.block, a.off + i.toNat * te.size, none⟩), fun w' => ?_, .ele l _ a Y ha hI hY hD⟩
          have e := addr_add a (i.toNat * te.size) ha
          simp [Instr.indexAt, asIntOf, run_underlying (tyk_slice hk), hb, run_sizeOf ht, e]
      · cases h
    · cases h
  · rename_i z b o n k i e hk
    split at h
    · rename_i te ht
      split at h
      · rename_i hb
        have := den_v hi; subst_vars; cases h
        cases hx with
        | own0 _ _ _ hb' => simp at hb; omega
        | own _ _ _ _ c off L hL hn hc ho =>
          have hof : off = L.base + o := by rcases ho with h0 | h0; · omega
                                            · exact h0.1
          subst hof
          refine ⟨.pointer (some ⟨L.k, L.base + (o + i.toNat * te.size), none⟩), fun w' => ?_, .ptr b _ L hL⟩
          have e := addr_add ⟨L.k, L.base + o, none⟩ (i.toNat * te.size) rfl
          simp [Instr.indexAt, asIntOf, run_underlying (tyk_slice hk), hb, run_sizeOf ht, e, Nat.add_assoc]
      · cases h
    · cases h
  · rename_i b o k i n e hk
    split at h
    · rename_i te ht
      split at h
      · rename_i hb
        have := den_v hi; subst_vars; cases h
        cases hx with
        | ptr b o L hL =>
          refine ⟨.pointer (some ⟨L.k, L.base + (o + i.toNat * te.size), none⟩), fun w' => ?_, .ptr b _ L hL⟩
          have e := addr_add ⟨L.k, L.base + o, none⟩ (i.toNat * te.size) rfl
          simp [Instr.indexAt, Instr.sureAddr, asIntOf, run_underlying (tyk_array hk), hb, run_sizeOf ht, e, Nat.add_assoc]
      · cases h
    · cases h
  · rename_i l o k i n e hk
    split at h
    · rename_i te ht
      split at h
      · rename_i hb
        have := den_v hi; subst_vars; cases h
        cases hx with
        | ele l o a Y ha hI hY hD =>
          refine ⟨.pointer (some ⟨a.block, a.off + (o + i.toNat * te.size), none⟩), fun w' => ?_, .ele l _ a Y ha hI hY hD⟩
          have e := addr_add ⟨a.block, a.off + o, none⟩ (i.toNat * te.size) rfl
          simp [Instr.indexAt, Instr.sureAddr, asIntOf, run_underlying (tyk_array hk), hb, run_sizeOf ht, e, Nat.add_assoc]
      · cases h
    · cases h
  · cases h

theorem fieldAddr_sound {s : TypeId} {x r : AV} {f : Nat} (h : fieldAddrV P s x f = some r) {vx : Value} (hx : Den φ I w x vx) : ∃ z, (∀ w', (Instr.fieldAt s vx f).run P w' = .ok z w') ∧ Den φ I w r z := by
  unfold fieldAddrV at h
  split at h
  · rename_i fs hk
    obtain ⟨gs, hu, rfl⟩ := tyk_struct hk
    split at h
    · rename_i off ft hf
      simp only [List.getElem?_map, Option.map_eq_some_iff] at hf
      obtain ⟨g, hg, he⟩ := hf
      have hg' : gs[f]? = some g := by simpa using hg
      simp at he
      obtain ⟨rfl, rfl⟩ := he
      split at h
      · cases h
      · rename_i hz
        cases ht : tyOf P g.type with
        | none => simp [ht] at hz
        | some te =>
          simp [ht] at hz
          split at h
          · cases h
            rename_i b o
            cases hx with
            | ptr _ _ L hL =>
              refine ⟨.pointer (some ⟨L.k, L.base + (o + g.offset), none⟩), fun w' => ?_, .ptr b _ L hL⟩
              have e := addr_add ⟨L.k, L.base + o, none⟩ g.offset rfl
              simp [Instr.fieldAt, run_underlying hu, hg', Instr.sureAddr, fieldPlace, run_sizeOf ht, hz, e, Nat.add_assoc]
          · cases h
            rename_i l o
            cases hx with
            | ele _ _ a Y ha hI hY hD =>
              refine ⟨.pointer (some ⟨a.block, a.off + (o + g.offset), none⟩), fun w' => ?_, .ele l _ a Y ha hI hY hD⟩
              have e := addr_add ⟨a.block, a.off + o, none⟩ g.offset rfl
              simp [Instr.fieldAt, run_underlying hu, hg', Instr.sureAddr, fieldPlace, run_sizeOf ht, hz, e, Nat.add_assoc]
          · cases h
    · cases h
  · cases h

theorem field_sound {s : TypeId} {x r : AV} {f : Nat} (h : fieldV P s x f = some r) {vx : Value} (hx : Den φ I w x vx) : ∃ z, (∀ w', (Instr.field s vx f).run P w' = .ok z w') ∧ Den φ I w r z := by
  unfold fieldV at h
  split at h
  · rename_i fs l hk
    obtain ⟨gs, hu, rfl⟩ := tyk_struct hk
    split at h
    · rename_i off ft hf
      simp only [List.getElem?_map, Option.map_eq_some_iff] at hf
      obtain ⟨g, hg, he⟩ := hf
      have hg' : gs[f]? = some g := by simpa using hg
      simp at he
      obtain ⟨rfl, rfl⟩ := he
      split at h
      · rename_i te ht
        cases hx with
        | agg l cs hs hD =>
          obtain ⟨y, h1, h2⟩ := part_sound ht h hs hD
          exact ⟨y, fun w' => by simp [Instr.field, run_underlying hu, hg', asAgg, h1], h2⟩
      · cases h
    · cases h
  · cases h


theorem bounds_run {ev : Operand → AV} {ρ : Operand → Value} (hD : ∀ x, Den φ I w (ev x) (ρ x)) (isS : Bool) (len cap : Nat) (lo hi : Option Operand) {a b : Int}
    (h1 : bound 0 (lo.map ev) = some a) (h2 : bound len (hi.map ev) = some b) (h3 : 0 ≤ a ∧ a ≤ b ∧ b ≤ len) (hc : len ≤ cap) (w' : World) :
    (Instr.sliceBounds isS len cap (lo.map ρ) (hi.map ρ) none).run P w' = .ok (a.toNat, b.toNat, cap) w' := by
  have key : ∀ (o : Option Operand) (d v : Int), bound d (o.map ev) = some v → (o = none ∧ v = d) ∨ ∃ x k, o = some x ∧ ρ x = .int k v := by
    intro o d v hb
    cases o with
    | none => simp [bound] at hb; exact .inl ⟨rfl, hb.symm⟩
    | some x =>
      simp only [Option.map_some] at hb
      unfold bound at hb
      split at hb
      · rename_i hh; cases hh
      · rename_i k i hh
        have hx := hD x
        cases hb
        simp only [Option.some.injEq] at hh
        rw [hh] at hx
        exact .inr ⟨x, k, rfl, den_v hx⟩
      · cases hb
  rcases key lo 0 a h1 with ⟨rfl, rfl⟩ | ⟨x, k, rfl, hx⟩ <;> rcases key hi len b h2 with ⟨rfl, rfl⟩ | ⟨y, k', rfl, hy⟩
  · simp [Instr.sliceBounds]
  · have : 0 ≤ b ∧ b ≤ (cap : Int) := by omega
    simp [Instr.sliceBounds, Instr.sliceBound, hy, asIntOf, this]
  · have : 0 ≤ a ∧ a ≤ (len : Int) := by omega
    simp [Instr.sliceBounds, Instr.sliceBound, hx, asIntOf, this]
  · have h4 : 0 ≤ b ∧ b ≤ (cap : Int) := by omega
    have h5 : 0 ≤ a ∧ a ≤ (b.toNat : Int) := by omega
    simp only [Instr.sliceBounds, Option.map_some, hx, hy, Instr.sliceBound, asIntOf, Sem.run_bind, Sem.run_pure, Result.andThen_ok, Sem.run_ite, h4, and_self, if_true, h5, Option.isSome_none]

theorem slice_sound {ev : Operand → AV} {ρ : Operand → Value} (hD : ∀ x, Den φ I w (ev x) (ρ x)) {t : TypeId} {x : Operand} {lo hi : Option Operand} {r : AV} (h : sliceV P t (ev x) (lo.map ev) (hi.map ev) = some r) :
    ∃ z, (∀ w', (Instr.sliceAt t (ρ x) (lo.map ρ) (hi.map ρ) none).run P w' = .ok z w') ∧ Den φ I w r z := by
  have hx := hD x
  unfold sliceV at h
  split at h
  · rename_i n l e hev hk
    split at h
    · rename_i te a b ht h1 h2
      split at h
      · rename_i h3
        cases h
        rw [hev] at hx
        generalize hvx : ρ x = vx at hx
        cases hx with
        | sl0 l p =>
          have e1 : a = 0 := by simp at h3; omega
          have e2 : b = 0 := by simp at h3; omega
          subst e1; subst e2
          have hb := fun w' => bounds_run (P := P) hD true 0 0 lo hi h1 h2 h3 (Nat.le_refl _) w'
          refine ⟨.slice p 0 0, fun w' => ?_, .sl0 _ _⟩
          simp only [Int.toNat_zero] at hb
          simp [Instr.sliceAt, run_underlying (tyk_slice hk), Instr.slice, hb, run_sizeOf ht]
        | sl n l c ad Y hn hc ha hI hY hDD =>
          have hb := fun w' => bounds_run (P := P) hD true n c lo hi h1 h2 h3 hn w'
          by_cases hca : c = a.toNat
          · have e1 : b.toNat - a.toNat = 0 := by omega
            have e2 : b = a := by omega
            rw [e1]
            subst hca; subst e2
            refine ⟨.slice (some ad) 0 0, fun w' => ?_, .sl0 _ _⟩
            simp [Instr.sliceAt, run_underlying (tyk_slice hk), Instr.slice, hb, run_sizeOf ht]
          · refine ⟨.slice (some ⟨ad.block, ad.off + a.toNat * te.size, none⟩) (b.toNat - a.toNat) (c - a.toNat), fun w' => ?_, ?_⟩
            · have e := addr_add ad (a.toNat * te.size) ha
              simp [Instr.sliceAt, run_underlying (tyk_slice hk), Instr.slice, hb, run_sizeOf ht, hca, e]
            · refine .sl _ _ _ ⟨ad.block, ad.off + a.toNat * te.size, none⟩ (fun j => Y (a.toNat * te.size + j)) (by omega) (by omega) rfl hI (fun j y hj => ?_) (fun j y hj => ?_)
              · rw [List.getElem?_drop] at hj
                have := hY _ _ hj
                simpa [Nat.add_assoc] using this
              · rw [List.getElem?_drop] at hj
                exact hDD _ _ hj
      · cases h
    · cases h
  · rename_i z k o n e hev hk
    split at h
    · rename_i te a b ht h1 h2
      split at h
      · rename_i h3
        obtain ⟨rfl, h3⟩ := h3
        cases h
        rw [hev] at hx
        generalize hvx : ρ x = vx at hx
        cases hx with
        | own0 _ _ _ hb' =>
          have e1 : a = 0 := by simp at h3; omega
          have e2 : b = 0 := by simp at h3; omega
          subst e1; subst e2
          have hb := fun w' => bounds_run (P := P) hD true 0 0 lo hi h1 h2 h3 (Nat.le_refl _) w'
          refine ⟨.slice none 0 0, fun w' => ?_, .own0 _ _ _ hb'⟩
          simp only [Int.toNat_zero] at hb
          simp [Instr.sliceAt, run_underlying (tyk_slice hk), Instr.slice, hb, run_sizeOf ht]
        | own _ _ _ _ c off L hL hn hc ho =>
          have hb := fun w' => bounds_run (P := P) hD true n c lo hi h1 h2 h3 hn w'
          by_cases hca : c = a.toNat
          · have e1 : b.toNat - a.toNat = 0 := by omega
            have e2 : b = a := by omega
            rw [e1]
            subst hca; subst e2
            refine ⟨.slice (some ⟨L.k, off, none⟩) 0 0, fun w' => ?_, .own _ _ _ _ 0 off L hL (Nat.le_refl _) (Nat.zero_le _) (.inl rfl)⟩
            simp [Instr.sliceAt, run_underlying (tyk_slice hk), Instr.slice, hb, run_sizeOf ht]
          · have ho' : off = L.base + o ∧ off + c * te.size ≤ L.S := by
              rcases ho with h0 | h0
              · omega
              · exact h0
            refine ⟨.slice (some ⟨L.k, off + a.toNat * te.size, none⟩) (b.toNat - a.toNat) (c - a.toNat), fun w' => ?_, ?_⟩
            · have e := addr_add ⟨L.k, off, none⟩ (a.toNat * te.size) rfl
              simp [Instr.sliceAt, run_underlying (tyk_slice hk), Instr.slice, hb, run_sizeOf ht, hca, e]
            · refine .own _ _ _ _ _ _ L hL (by omega) (by omega) (.inr ⟨by omega, ?_⟩)
              have : a.toNat * te.size + (c - a.toNat) * te.size = c * te.size := by rw [← Nat.add_mul]; congr 1; omega
              omega
      · cases h
    · cases h
  · rename_i s hev hk
    split at h
    · rename_i a b h1 h2
      split at h
      · rename_i h3
        cases h
        rw [hev] at hx
        have hvx := den_v hx
        have hb := fun w' => bounds_run (P := P) hD false s.size s.size lo hi h1 h2 h3 (Nat.le_refl _) w'
        exact ⟨_, fun w' => by simp [Instr.sliceAt, run_underlying (tyk_string hk), Instr.slice, hvx, hb], .v _⟩
      · cases h
    · cases h
  · rename_i e hev hk
    split at h
    · rename_i te a b ht h1 h2
      split at h
      · rename_i h3
        cases h
        rw [hev] at hx
        have hvx := den_v hx
        have e1 : a = 0 := by omega
        have e2 : b = 0 := by omega
        subst e1; subst e2
        have hb := fun w' => bounds_run (P := P) hD true 0 0 lo hi h1 h2 h3 (Nat.le_refl _) w'
        simp only [Int.toNat_zero] at hb
        exact ⟨.slice none 0 0, fun w' => by simp [Instr.sliceAt, run_underlying (tyk_slice hk), Instr.slice, hvx, hb, run_sizeOf ht], .v _⟩
      · cases h
    · cases h
  · cases h

end
end Go.Am
