/-
  The abstract machine: soundness. What the abstract machine answers, the model's calls answer.
-/
import Derived.Orders
import Derived.Lib.ConvBytes
import Derived.Laws.IdiomStrings
import Derived.Test.YtcnleglfdnhagaaAmH
import Derived.Test.YtcnleglfdnhagaaAmQ
set_option linter.unusedSectionVars false
namespace Go.Am
open Go Go.RowKit
variable [Dn]
set_option linter.unusedSimpArgs false
set_option linter.unusedVariables false

section
variable {P : Program} {lim : Nat} {φ φ' φ'' : Phi} {I I' I'' : Nat → Prop} {w w' w'' : World} {H H' : Heap}

theorem alloc_fresh (hR : Rel lim φ I w H) {C : Array Value} {T : TypeId} {cells : List AV} (hc : CellsOK φ I w C 0 cells) :
    Den (φ ++ [some ⟨w.heap.size, 0, C.size⟩]) I (w.alloc (.cells C T)) (.ptr H.length 0) (.pointer (some ⟨w.heap.size, 0, none⟩)) ∧
      Rel lim (φ ++ [some ⟨w.heap.size, 0, C.size⟩]) I (w.alloc (.cells C T)) (H ++ [some cells]) ∧ Ext lim φ I w (φ ++ [some ⟨w.heap.size, 0, C.size⟩]) I (w.alloc (.cells C T)) := by
  have h := alloc_sound (T := T) hR hc (w' := w.alloc (.cells C T)) rfl rfl ⟨rfl, fun _ => Nat.le_refl _⟩ rfl
  exact ⟨.ptr _ _ ⟨w.heap.size, 0, C.size⟩ (by rw [← hR.len]; simp), h.1, h.2⟩

theorem alloc_slice (hR : Rel lim φ I w H) {C : Array Value} {T : TypeId} {cells : List AV} (hc : CellsOK φ I w C 0 cells) {z n c : Nat} (hn : n ≤ c) (hm : c ≤ maxLen) (hS : c * z ≤ C.size) :
    Den (φ ++ [some ⟨w.heap.size, 0, C.size⟩]) I (w.alloc (.cells C T)) (.own z H.length 0 n) (.slice (some ⟨w.heap.size, 0, none⟩) n c) :=
  .own _ _ _ _ c 0 ⟨w.heap.size, 0, C.size⟩ (by rw [← hR.len]; simp) hn hm (.inr ⟨rfl, by simpa using hS⟩)

/-- Bytes of a string: a new block that is only read. -/
theorem bytes_rel (hR : Rel lim φ I w H) (e : TypeId) (b : ByteArray) : Rel lim φ (fun k => I k ∨ k = w.heap.size) (Lib.bytesWorld w e b) H ∧ Ext lim φ I w φ (fun k => I k ∨ k = w.heap.size) (Lib.bytesWorld w e b) := by
  have hext : Ext lim φ I w φ (fun k => I k ∨ k = w.heap.size) (Lib.bytesWorld w e b) :=
    ⟨List.prefix_refl _, fun k h => .inl h, fun k hk _ => Lib.bytesWorld_at_old w e b k hk, fun c M _ hM => Lib.bytesWorld_at_old w e b _ (hR.disj c M hM).2, fun c M h => .inr ⟨c, M, h, rfl⟩,
      by simp [Lib.bytesWorld, World.freeze, World.alloc, World.drew, -World.alloc_eq, -World.drew_eq], by simp [Lib.bytesWorld, World.freeze, World.alloc, World.drew, -World.alloc_eq, -World.drew_eq],
      by simp [Lib.bytesWorld, World.freeze, World.alloc, World.drew, -World.alloc_eq, -World.drew_eq], by rw [Lib.bytesWorld_size]; omega⟩
  refine ⟨⟨hR.len, hR.limle, fun c k hk => ?_, fun c M hM => ⟨?_, ?_⟩, hR.inj, hR.sep, fun k hk => ?_, hR.tab_to (fun _ h => .inl h) (hR.keepI hext)⟩, hext⟩
  · rcases hR.blk c k hk with h | ⟨L, C, T, h1, h2, h3, h5, h6⟩
    · exact .inl h
    · exact .inr ⟨L, C, T, h1, by rw [Lib.bytesWorld_at_old w e b _ (hR.disj c L h1).2]; exact h2, h3, h5, fun j x hx => by obtain ⟨y, g1, g2⟩ := h6 j x hx; exact ⟨y, g1, g2.ext hR hext⟩⟩
  · rintro (h | h)
    · exact (hR.disj c M hM).1 h
    · have := (hR.disj c M hM).2; omega
  · rw [Lib.bytesWorld_size]; have := (hR.disj c M hM).2; omega
  · rw [Lib.bytesWorld_size]
    rcases hk with h | rfl
    · have := hR.Ilt k h; omega
    · omega
theorem bytes_den (e : TypeId) (b : ByteArray) (hb : b.size ≤ maxLen) : Den φ (fun k => I k ∨ k = w.heap.size) (Lib.bytesWorld w e b) (.sl b.size (b.data.toList.map fun c => .v (.int .u8 (c.toNat : Int)))) (.slice (some ⟨w.heap.size, 0, none⟩) b.size (grownCap w b.size 0 e)) := by
  have key : ∀ (j : Nat) (x : AV), (b.data.toList.map fun c => AV.v (.int .u8 (c.toNat : Int)))[j]? = some x → j < b.size ∧ x = .v (.int .u8 ((b.data.toList.getD j 0).toNat : Int)) := fun j x hj => by
    rw [List.getElem?_map, Option.map_eq_some_iff] at hj
    obtain ⟨c, hc, rfl⟩ := hj
    obtain ⟨hlt, he⟩ := List.getElem?_eq_some_iff.1 hc
    refine ⟨by simpa using hlt, ?_⟩
    rw [List.getD_eq_getElem?_getD, hc]
    rfl
  refine .sl b.size _ _ ⟨w.heap.size, 0, none⟩ (fun j => .int .u8 ((b.data.toList.getD j 0).toNat : Int)) (grownCap_ge w b.size 0 e) (grownCap_le_maxLen w b.size 0 e hb) rfl (.inr rfl) (fun j x hj => ?_) (fun j x hj => ?_)
  · have := Lib.bytesWorld_cell w e b j (key j x hj).1
    simpa using this
  · rw [(key j x hj).2]; exact .v _

theorem bytesOf_spec : ∀ (new : List AV) (l : List UInt8), bytesOf new = some l → l.length = new.length ∧ ∀ j (hj : j < l.length), new[j]? = some (.v (.int .u8 ((l[j]).toNat : Int)))
  | [], l, h => by
    simp only [bytesOf, Option.some.injEq] at h
    subst h
    exact ⟨rfl, fun j hj => by simp at hj⟩
  | x :: r, l, h => by
    unfold bytesOf at h
    split at h
    · rename_i heq; cases heq
    · rename_i n r' heq
      cases heq
      split at h
      · rename_i hn
        simp only [Option.map_eq_some_iff] at h
        obtain ⟨l', hl', rfl⟩ := h
        obtain ⟨h1, h2⟩ := bytesOf_spec r l' hl'
        refine ⟨by simp [h1], fun j hj => ?_⟩
        cases j with
        | zero =>
          show some _ = some _
          congr 3
          show n = ((UInt8.ofNat n.toNat).toNat : Int)
          rw [UInt8.toNat_ofNat']
          omega
        | succ j => exact h2 j (by simpa using hj)
      · cases h
    · cases h
theorem eff_sound (hR : Rel lim φ I w H) {o : Oper} {ev : Operand → AV} {ρ : Operand → Value} (hD : ∀ x, Den φ I w (ev x) (ρ x)) {r : AV} (h : effV P lim o.op ev H = some (r, H')) :
    ∃ y φ' I' w', ((execOp ρ o).run P w = .ok (.value y) w' ∨ ((execOp ρ o).run P w = .ok .skip w' ∧ y = undef)) ∧ Den φ' I' w' r y ∧ Rel lim φ' I' w' H' ∧ Ext lim φ I w φ' I' w' := by
  unfold effV at h
  split at h
  · rename_i t ho
    split at h
    · rename_i ty ht
      split at h
      · rename_i z hz
        cases h
        obtain ⟨v, hv, hc, -⟩ := tyOf_zero ht hz w
        have hA := alloc_fresh (T := t) hR (DL.vs (φ := φ) (I := I) (w := w) z).ok
        refine ⟨_, _, I, _, .inl ?_, hA⟩
        simp [execOp, ho, Instr.alloc, hv, newVar, newRow, hc]
      · cases h
    · cases h
  · rename_i t x ho
    split at h
    · rename_i ty c ht hc
      cases h
      obtain ⟨hDL, -⟩ := cellsOf_sound hc (hD x)
      have hA := alloc_fresh (T := t) hR hDL.ok
      refine ⟨_, _, I, _, .inl ?_, hA⟩
      simp [execOp, ho, Instr.box, newVar, newRow]
    · cases h
  · rename_i t a x ho
    split at h
    · rename_i ty b o' c ht ha hc
      split at h
      · rename_i k hk
        split at h
        · rename_i hcond
          cases h
          have hDa := hD a
          rw [ha] at hDa
          obtain ⟨w', h1, h2, h3⟩ := store_sound hR ht hk hc hcond.1 hcond.2.1 hcond.2.2 hDa (hD x)
          exact ⟨undef, φ, I, w', .inr ⟨by simp [execOp, ho, h1], rfl⟩, .v _, h2, h3⟩
        · cases h
      · cases h
    · cases h
  · rename_i t n parts ho
    split at h
    · rename_i e hk
      split at h
      · rename_i te hte
        split at h
        · rename_i z hz
          split at h
          · rename_i hc
            split at h
            · rename_i c hf
              cases h
              obtain ⟨v, hv, hvc, -⟩ := tyOf_zero hte hz w
              have hmd := made_DL (φ := φ) (I := I) (w := w) v z hvc (by omega) n
              obtain ⟨rs, h1, h2⟩ := fill_sound (φ := φ) (I := I) (w := w) _ (parts.map fun (i, x) => (i, ρ x)).toList _ _ _ hf (by simp) (parts_rel hD parts) hmd
              have hrs : rs.size = n * te.size := by
                have hlen : ∀ (ps : List (Nat × AV)) (cs r : List AV), fillA (fun i => some (i * te.size, te.size)) cs ps = some r → r.length = cs.length := by
                  intro ps
                  induction ps with
                  | nil => intro cs r h; simp [fillA] at h; rw [h]
                  | cons p ps ih =>
                    intro cs r h
                    obtain ⟨i, x⟩ := p
                    simp only [fillA] at h
                    split at h
                    · rename_i o s c' hpl hcc
                      split at h
                      · rename_i hl
                        rw [ih _ _ h]
                        simp; omega
                      · cases h
                    · cases h
                rw [h2.1, hlen _ _ _ hf, flat_len]
                simp [hc.1]
              have hA := alloc_fresh (T := e) hR h2.ok
              refine ⟨_, _, I, _, .inl ?_, alloc_slice hR h2.ok (Nat.le_refl n) (by unfold maxLen; have : n ≤ n * te.size := Nat.le_mul_of_pos_right _ hc.2.1; omega) (by omega), hA.2⟩
              have hbig : ¬ (n * te.size > 2 ^ 24) := by omega
              rw [hc.1] at h1
              by_cases hn0 : n * te.size = 0
              · have h1' : Instr.fill (fun i => some (i * te.size, te.size)) #[] (parts.map fun (i, x) => (i, ρ x)).toList = some rs := by
                  rw [← h1, hn0]; simp [madeCells, Array.range_zero']
                simp only [execOp, ho, Instr.buildSlice, Sem.run_bind, run_underlying (tyk_slice hk), Result.andThen_ok, run_sizeOf hte, Sem.run_ite, if_neg hbig, if_pos hn0, Sem.run_pure]
                rw [hn0]
                simp only [Array.range_zero', Array.map_empty]
                simp only [Array.toList_map] at h1' ⊢
                simp [h1', newRow]
              · simp only [execOp, ho, Instr.buildSlice, Sem.run_bind, run_underlying (tyk_slice hk), Result.andThen_ok, run_sizeOf hte, Sem.run_ite, if_neg hbig, if_neg hn0, Sem.run_pure, hv]
                have : Array.map (fun x => v.cells[x % v.cells.size]!) (Array.range (n * te.size)) = madeCells v.cells (n * te.size) := rfl
                rw [this, h1]
                simp [newRow]
            · cases h
          · cases h
        · cases h
      · cases h
    · cases h
  · rename_i t l c ho
    split at h
    · rename_i e k n k' m hk hl hc
      split at h
      · rename_i te hte
        split at h
        · rename_i z hz
          split at h
          · rename_i hcond
            obtain ⟨hzl, hs, h0, hnm, hmx, hby⟩ := hcond
            cases h
            obtain ⟨v, hv, hvc, i, hi, hiz, his, hib⟩ := tyOf_zero hte hz w
            have hDl := hD l
            rw [hl] at hDl
            have el := den_v hDl
            have hDc := hD c
            rw [hc] at hDc
            have ec := den_v hDc
            have hr := run_make (P := P) w t e i v (tyk_slice hk) hi hiz k k' n m h0 hnm (by rw [hib]; omega) (by omega)
            have hmd := made_DL (φ := φ) (I := I) (w := w) v z hvc (by omega) m.toNat
            rw [hzl] at hmd
            have hA := alloc_fresh (T := e) hR hmd.ok
            refine ⟨_, _, I, _, .inl ?_, alloc_slice (c := m.toNat) hR hmd.ok (by omega) (by unfold maxLen; omega) (by rw [size_madeCells]; exact Nat.le_refl _), hA.2⟩
            rw [his] at hr
            simp [execOp, ho, el, ec, hr]
          · cases h
        · cases h
      · cases h
    · cases h
  · rename_i args argTypes ho
    split at h
    · rename_i x y t u hx ht
      have e1 : args = #[x, y] := by apply Array.ext'; simpa using hx
      have e2 : argTypes = #[t, u] := by apply Array.ext'; simpa using ht
      subst e1; subst e2
      split at h
      · subst_vars
        obtain ⟨z, φ', w', h1, h2, h3, h4⟩ := append_sound (ot := o.type) hR h (hD x) (hD y)
        exact ⟨z, φ', I, w', .inl (by simp [execOp, ho, resolve, invoke, builtin, h1]), h2, h3, h4⟩
      · cases h
    · cases h
  · rename_i s d x ho
    split at h
    · rename_i ty e b ht hk hx
      split at h
      · rename_i hke
        split at h
        · rename_i hb
          cases h
          have hDx := hD x
          rw [hx] at hDx
          have ex := den_v hDx
          obtain ⟨i, d', hi, hd', -⟩ := tyOf_spec ht
          have hrun := Lib.run_convert_string_bytes (P := P) w s d e b hd' (tyk_slice hk) (tyk_int hke)
          obtain ⟨h1, h2⟩ := bytes_rel hR e b
          exact ⟨_, φ, _, _, .inl (by simp [execOp, ho, ex, hrun]), bytes_den e b (by unfold maxLen; omega), h1, h2⟩
        · cases h
      · cases h
    · rename_i yv ty ht hk
      simp only [Option.map_eq_some_iff] at h
      obtain ⟨r', hb, he⟩ := h
      cases he
      unfold backV at hb
      split at hb
      · rename_i e m new hty hsrc
        split at hb
        · rename_i l hke hl
          split at hb
          · rename_i hm
            cases hb
            obtain ⟨i, d', hi, hd', hkk⟩ := tyOf_spec ht
            have hs := src_sound hR hsrc (by decide) (hD x)
            obtain ⟨p, c, hv, hp, news, n1, n2, n3⟩ := hs.val
            obtain ⟨a, rfl⟩ : ∃ a, p = some a := by
              cases p with
              | none => have := hp rfl; omega
              | some a => exact ⟨a, rfl⟩
            obtain ⟨hll, hlb⟩ := bytesOf_spec new l hl
            have hlm : l.length = m := by rw [hll, hs.len, Nat.mul_one]
            have hsu : P.underlying s = some (.slice e) := tyk_slice (by simp only [tk, ht, kOf, Option.map_some, hty])
            have hrun := run_convert_bytes_back (P := P) w s d e a c l hsu (tyk_int hke) (tyk_string hk) (fun j hj => by
              have hjn : j < new.length := by rw [← hll]; exact hj
              have hjv : j < news.length := by rw [n1, Nat.mul_one, ← hlm]; exact hj
              have hx1 := hlb j hj
              have hd1 := n2 j _ _ hx1 (List.getElem?_eq_getElem hjv)
              have hv1 := n3 a rfl j _ (List.getElem?_eq_getElem hjv)
              rw [hv1, den_v hd1])
            rw [hlm] at hrun
            exact ⟨_, φ, I, w, .inl (by simp [execOp, ho, hv, hrun]), .v _, hR, Ext.refl⟩
          · cases hb
        · cases hb
      · cases hb
    · cases h
  · cases h

/-! ### States -/
def EnvOK (φ : Phi) (I : Nat → Prop) (w : World) (e : Env) (a : Act) : Prop := ∀ t, Den φ I w (e.get t) (a.tmps.getD t undef)

theorem EnvOK.ext (hR : Rel lim φ I w H) (hE : Ext lim φ I w φ' I' w') {e : Env} {a : Act} (h : EnvOK φ I w e a) : EnvOK φ' I' w' e a := fun t => (h t).ext hR hE

theorem env_ev {e : Env} {a : Act} (h : EnvOK φ I w e a) (x : Operand) : Den φ I w (evO e x) (a.eval x) := by
  cases x with
  | tmp t => exact h t
  | const v => exact den_ofV v
  | global g => exact .any _
  | func f => exact .clo f [] #[] rfl (fun j x y hx => by simp at hx)

def keys (e : Env) : List Nat := e.map (·.1)

theorem set_spec (e : Env) (t : Nat) (y : AV) (s : Nat) : (e.set t y).get s = if s = t then y else e.get s := by simp only [Env.set, Env.get]

/-- What stands below the entries of a region. -/
def EnvW (loc e : Env) : Prop := ∃ d, e = d ++ loc

theorem EnvW.put {loc e : Env} (h : EnvW loc e) (t : Option Nat) (y : AV) : EnvW loc (e.put t y) := by
  cases t with
  | none => exact h
  | some t =>
    obtain ⟨d, rfl⟩ := h
    exact ⟨(t, y) :: d, rfl⟩

theorem put_ok {e : Env} {a : Act} (h : EnvOK φ I w e a) {t : Option Nat} {x : AV} {y : Value} (hd : Den φ I w x y) (ht : ∀ s, t = some s → s < a.tmps.size) : EnvOK φ I w (e.put t x) (a.put t y) := by
  cases t with
  | none => exact h
  | some t =>
    intro s
    have hlt := ht t rfl
    simp only [Env.put, Act.put, set_spec e t x s]
    by_cases hs : s = t
    · subst hs
      simp [hlt, hd]
    · rw [if_neg hs]
      have := h s
      simpa [Array.getElem?_setIfInBounds, Ne.symm hs] using this

theorem getD_append (d loc : Env) (t : Nat) : Env.get (d ++ loc) t = Env.getD d t (loc.get t) := by
  induction d with
  | nil => rfl
  | cons p d ih =>
    obtain ⟨k, x⟩ := p
    simp only [List.cons_append, Env.get, Env.getD, ih]

theorem trim_ok {loc e : Env} {a : Act} (hw : EnvW loc e) (h : EnvOK φ I w e a) : EnvOK φ I w (trim e loc) a ∧ keys (trim e loc) = keys loc := by
  obtain ⟨d, rfl⟩ := hw
  have ht : (d ++ loc).take ((d ++ loc).length - loc.length) = d := by
    rw [List.length_append, Nat.add_sub_cancel, List.take_left]
  refine ⟨fun t => ?_, by simp [trim, keys, Function.comp_def]⟩
  have key : ∀ l : Env, Env.get (l.map fun p => (p.1, Env.getD d p.1 p.2)) t = .any ∨ Env.get (l.map fun p => (p.1, Env.getD d p.1 p.2)) t = Env.getD d t (l.get t) := by
    intro l
    induction l with
    | nil => left; rfl
    | cons p l ih =>
      obtain ⟨k, x⟩ := p
      simp only [List.map_cons, Env.get]
      split
      · subst_vars; right; rfl
      · exact ih
  unfold trim
  rw [ht]
  rcases key loc with h1 | h1
  · rw [h1]; exact .any _
  · rw [h1, ← getD_append]; exact h t

/-! ### Calls -/
def CallPost (lim : Nat) (φ : Phi) (I : Nat → Prop) (w : World) (H' : Heap) (r : AV) (e : Ending) (w' : World) : Prop :=
  ∃ x φ' I', e = .returned x ∧ Den φ' I' w' r x ∧ Rel lim φ' I' w' H' ∧ Ext lim φ I w φ' I' w'

def Named (P : Program) (f : FuncId) : Prop := ∃ fn : Func, P.funcs[f]? = some fn ∧ (fn.name == "runtime.NumGoroutine") = false ∧ fn.body.isNone = false

/-- What a call comes to: by way of the function's text, or at once, where the model has an entry of its own that leaves the world as it is. -/
def CallW (P : Program) (f : FuncId) (cs : Array Value) (w : World) (R : Ending → World → Prop) : Prop :=
  (Named P f ∧ Calls P f cs w R) ∨ ∃ x, (∀ w', (callFunc f cs).run P w' = .ok (.value x) w') ∧ R (.returned x) w
theorem CallW.mono {P : Program} {f : FuncId} {cs : Array Value} {w : World} {R R' : Ending → World → Prop} (h : CallW P f cs w R) (hk : ∀ e w', R e w' → R' e w') : CallW P f cs w R' := by
  rcases h with ⟨hN, h⟩ | ⟨x, hx, h⟩
  · exact .inl ⟨hN, h.mono hk⟩
  · exact .inr ⟨x, hx, hk _ _ h⟩
theorem named_run {P : Program} {f : FuncId} (hN : Named P f) (cs : Array Value) (w' : World) : (callFunc f cs).run P w' = .ok (.enter f cs) w' := by
  obtain ⟨fn, h1, h2, h3⟩ := hN
  have h2' : fn.name ≠ "runtime.NumGoroutine" := by simpa using h2
  have h3' : fn.body ≠ none := by intro hh; rw [hh] at h3; cases h3
  simp [callFunc, h1, h2', h3']
def CallOK (P : Program) (call : CallF) : Prop := ∀ lim f args H r H', call lim f args H = some (r, H') → ∀ φ I w (cs : Array Value), Rel lim φ I w H → DL φ I w args cs → CallW P f cs w (CallPost lim φ I w H' r)

def PurePost (φ : Phi) (I : Nat → Prop) (w : World) (lim : Nat) (H : Heap) (r : AV) (e : Ending) (w' : World) : Prop :=
  ∃ x I', e = .returned x ∧ Den φ I' w' r x ∧ (∀ k, I k → I' k) ∧ Bel w.heap.size w w' ∧ Rel lim φ I' w' H

def PureOK (P : Program) (call : CallF) (pu : FuncId → Bool) : Prop := ∀ lim f args H r H', pu f = true → call lim f args H = some (r, H') → H' = H ∧ ∀ φ I w (cs : Array Value), Rel lim φ I w H → DL φ I w args cs → CallW P f cs w (PurePost φ I w lim H r)

/-- Worlds in which all that was there is as it was. -/
theorem Den.down {x : AV} {y : Value} (hI : ∀ k, I k → k < w.heap.size) (hb : Bel w.heap.size w w') (h : Den φ I w x y) : Den φ I w' x y :=
  h.mono (List.prefix_refl _) (fun _ h => h) fun k hk => hb.block k (hI k hk)

theorem Rel.down (hR : Rel lim φ I w H) (hb : Bel w.heap.size w w') : Rel lim φ I w' H where
  len := hR.len
  tab := hR.tab_to (fun _ h => h) fun k hk => hb.block k (hR.Ilt k hk)
  limle := hR.limle
  blk := fun b k hk => by
    rcases hR.blk b k hk with h | ⟨L, C, T, h1, h2, h3, h5⟩
    · exact .inl h
    · exact .inr ⟨L, C, T, h1, by rw [hb.block _ (hR.disj b L h1).2]; exact h2, h3, h5.1, fun j x hx => by obtain ⟨y, e1, e2⟩ := h5.2 j x hx; exact ⟨y, e1, e2.down hR.Ilt hb⟩⟩
  disj := fun b L h => ⟨(hR.disj b L h).1, Nat.lt_of_lt_of_le (hR.disj b L h).2 hb.size⟩
  inj := hR.inj
  sep := hR.sep
  Ilt := fun k hk => Nat.lt_of_lt_of_le (hR.Ilt k hk) hb.size

theorem callV_spec {o : Op} {ev : Operand → AV} {f : FuncId} {args : List AV} (h : callV o ev = some (f, args)) : ∃ fo xs ts l, o = .call { callee := .value fo, args := xs, argTypes := ts } ∧ ev fo = .clo f l ∧ args = xs.toList.map ev ++ l := by
  unfold callV at h
  split at h
  · rename_i fo xs ts
    split at h
    · rename_i g l hl
      cases h
      exact ⟨fo, xs, ts, l, rfl, hl, rfl⟩
    · cases h
  · cases h

theorem call_run {o : Oper} {ev : Operand → AV} {ρ : Operand → Value} (hD : ∀ x, Den φ I w (ev x) (ρ x)) {f : FuncId} {args : List AV} (h : callV o.op ev = some (f, args)) :
    ∃ cs : Array Value, DL φ I w args cs ∧ ∀ w', (execOp ρ o).run P w' = (callFunc f cs).run P w' := by
  obtain ⟨fo, xs, ts, l, ho, hl, rfl⟩ := callV_spec h
  have hf := hD fo
  rw [hl] at hf
  generalize hv : ρ fo = vf at hf
  cases hf with
  | clo _ _ cap hs hDD =>
    refine ⟨xs.map ρ ++ cap, ⟨by simp [hs], fun j x y hx hy => ?_⟩, fun w' => ?_⟩
    · rw [List.getElem?_append] at hx
      split at hx
      · rename_i hj
        rw [Array.getElem?_append_left (by simpa using hj)] at hy
        simp at hx hy
        obtain ⟨c, g1, rfl⟩ := hx
        obtain ⟨d, g2, rfl⟩ := hy
        rw [g1] at g2; cases g2
        exact hD _
      · rename_i hj
        rw [Array.getElem?_append_right (by simpa using hj)] at hy
        simp at hx hy
        exact hDD _ _ _ hx hy
    · simp [execOp, ho, resolve, hv, Deferred.ofValue, invoke]

theorem op_sound {call : CallF} (hcall : CallOK P call) (hR : Rel lim φ I w H) {o : Oper} {e : Env} {a : Act} (hE : EnvOK φ I w e a) {r : AV} (h : opV P call lim o.op e H = some (r, H'))
    {K : Act → World → Prop} {Q : Exit → Act → World → Prop} (hK : ∀ φ' I' w' y, Den φ' I' w' r y → Rel lim φ' I' w' H' → Ext lim φ I w φ' I' w' → K (a.put o.dst y) w') : o.wp P a w K Q := by
  have hD := env_ev hE
  unfold opV at h
  split at h
  · rename_i t ad hl
    simp only [Option.map_eq_some_iff] at h
    obtain ⟨x, hx, he⟩ := h
    cases he
    have ho : o.op = .load t ad := by
      unfold isLoad at hl
      split at hl
      · rename_i ho; cases hl; exact ho
      · cases hl
    obtain ⟨y, h1, h2⟩ := load_sound hR hx (hD ad)
    have hrun : (execOp a.eval o).run P w = .ok (.value y) w := by simp [execOp, ho, h1 w (fun _ _ => rfl)]
    unfold Oper.wp
    rw [hrun]
    exact hK φ I w y h2 hR Ext.refl
  · split at h
    · rename_i f args hc
      obtain ⟨cs, hDL, hrun⟩ := call_run hD hc
      unfold Oper.wp
      rw [hrun w]
      rcases hcall _ _ _ _ _ _ h φ I w cs hR hDL with ⟨hN, hC⟩ | ⟨y, hy, hC⟩
      · rw [named_run hN]
        refine hC.mono fun e' w' he => ?_
        obtain ⟨x, φ', I', rfl, h1, h2, h3⟩ := he
        exact hK φ' I' w' x h1 h2 h3
      · rw [hy w]
        obtain ⟨x, φ', I', he, h1, h2, h3⟩ := hC
        cases he
        exact hK φ' I' w y h1 h2 h3
    · split at h
      · rename_i x hp
        cases h
        obtain ⟨y, h1, h2⟩ := pop_sound hD hp
        unfold Oper.wp
        rw [h1 w]
        exact hK φ I w y h2 hR Ext.refl
      · obtain ⟨y, φ', I', w', h1, h2, h3, h4⟩ := eff_sound hR hD h
        unfold Oper.wp
        rcases h1 with h1 | ⟨h1, rfl⟩
        · rw [h1]; exact hK φ' I' w' y h2 h3 h4
        · rw [h1]; exact hK φ' I' w' undef h2 h3 h4

theorem wanted_sound {ops : Array Oper} {e : Env} {a : Act} (hE : EnvOK φ I w e a) {o : Oper} {b : Bool} (hs : ∀ (j : Nat) (o : Oper) (d : Nat), ops[j]? = some o → o.dst = some d → d < a.tmps.size) (h : wantedA ops e o = some b) : Region.wanted o (yielded ops a.tmps) = b := by
  unfold wantedA at h
  unfold Region.wanted
  split at h
  · rename_i hg; cases h; simp [hg]
  · rename_i j want hg
    simp only [hg]
    split at h
    · rename_i d hd
      have hDd := hE d
      have hlt : d < a.tmps.size := by
        cases hj : ops[j]? with
        | none => simp [hj] at hd
        | some o' => simp [hj] at hd; exact hs j o' d hj hd
      have hget : a.tmps[d]? = some (a.tmps.getD d undef) := by simp [hlt]
      unfold yielded
      rw [hd]
      simp only [Option.bind_some, hget]
      split at h
      · rename_i t ht
        rw [ht] at hDd
        rw [den_v hDd]
        cases h
        simp
      · rename_i x hx ht
        rw [ht] at hDd
        rw [den_v hDd]
        cases h
        cases x <;> first | rfl | (exact absurd rfl (hx _))
      · cases h
    · cases h

def dstOK (N : Nat) (ops : Array Oper) : Bool := ops.all fun o => match o.dst with | some d => d < N | none => true

theorem dstOK_spec {N : Nat} {ops : Array Oper} (h : dstOK N ops = true) : ∀ (j : Nat) (o : Oper) (d : Nat), ops[j]? = some o → o.dst = some d → d < N := by
  intro j o d hj hd
  simp only [dstOK, Array.all_eq_true] at h
  have hjl : j < ops.size := (Array.getElem?_eq_some_iff.1 hj).1
  have := h j hjl
  rw [(Array.getElem?_eq_some_iff.1 hj).2, hd] at this
  simpa using this

theorem act_put_size {a : Act} {t : Option Nat} {v : Value} : (a.put t v).tmps.size = a.tmps.size := by cases t <;> simp [Act.put]
theorem act_put_defers {a : Act} {t : Option Nat} {v : Value} : (a.put t v).defers = a.defers := by cases t <;> rfl

theorem runOps_sound {call : CallF} (hcall : CallOK P call) {ops : Array Oper} {N : Nat} {loc : Env} (hdst : dstOK N ops = true) {Q : Exit → Act → World → Prop} : ∀ (l : List Oper), (∀ o ∈ l, o ∈ ops.toList) → ∀ (e e' : Env) (H H' : Heap) (φ : Phi) (I : Nat → Prop) (w : World) (a : Act),
    runOps P call lim ops l e H = some (e', H') → N ≤ a.tmps.size → a.defers = [] → EnvOK φ I w e a → EnvW loc e → Rel lim φ I w H →
    (∀ φ' I' w' a', a'.tmps.size = a.tmps.size → a'.defers = [] → EnvOK φ' I' w' e' a' → EnvW loc e' → Rel lim φ' I' w' H' → Ext lim φ I w φ' I' w' → Q .normal a' w') → wpList P ops Q l a w
  | [], _, e, e', H, H', φ, I, w, a, h, hN, hdf, hE, hW, hR, hQ => by
    simp [runOps] at h
    obtain ⟨rfl, rfl⟩ := h
    exact hQ φ I w a rfl hdf hE hW hR Ext.refl
  | o :: l, hmem, e, e', H, H', φ, I, w, a, h, hN, hdf, hE, hW, hR, hQ => by
    have hds : ∀ s, o.dst = some s → s < a.tmps.size := fun s hs => by
      obtain ⟨j, hj, hj'⟩ := List.getElem_of_mem (hmem o (by simp))
      exact Nat.lt_of_lt_of_le (dstOK_spec hdst j o s (by rw [Array.getElem?_eq_getElem (by simpa using hj)]; simpa using hj') hs) hN
    have hall : ∀ (j : Nat) (o : Oper) (d : Nat), ops[j]? = some o → o.dst = some d → d < a.tmps.size := fun j o d h1 h2 => by have := dstOK_spec hdst j o d h1 h2; omega
    simp only [runOps] at h
    simp only [wpList]
    split at h
    · rename_i hw
      rw [wanted_sound hE hall hw, if_pos rfl]
      split at h
      · rename_i x H1 hop
        refine .inl (op_sound hcall hR hE hop fun φ' I' w' y hd hR' hX => ?_)
        exact runOps_sound hcall hdst l (fun o ho => hmem o (by simp [ho])) _ _ _ _ φ' I' w' _ h (by rw [act_put_size]; exact hN) (by rw [act_put_defers]; exact hdf) (put_ok (hE.ext hR hX) hd hds) (hW.put _ _) hR'
          (fun φ'' I'' w'' a' h1 h2 h3 h4 h5 h6 => hQ φ'' I'' w'' a' (by rw [h1, act_put_size]) h2 h3 h4 h5 (hX.trans h6))
      · cases h
    · rename_i hw
      rw [wanted_sound hE hall hw]
      simp only [Bool.false_eq_true, if_false]
      exact runOps_sound hcall hdst l (fun o ho => hmem o (by simp [ho])) _ _ _ _ φ I w _ h (by rw [act_put_size]; exact hN) (by rw [act_put_defers]; exact hdf) (put_ok hE (.v _) hds) (hW.put _ _) hR
        (fun φ'' I'' w'' a' h1 h2 h3 h4 h5 h6 => hQ φ'' I'' w'' a' (by rw [h1, act_put_size]) h2 h3 h4 h5 h6)
    · cases h

/-- The very same value in every world. -/
theorem exacts_same {r : AV} (h : exacts r = true) : ∃ x, ∀ φ I w y, Den φ I w r y → y = x := by
  have pick : ∀ l : List AV, l.all exact = true → ∃ cs : Array Value, ∀ φ I w (ds : Array Value), ds.size = l.length → (∀ (j : Nat) (x : AV) (y : Value), l[j]? = some x → ds[j]? = some y → Den φ I w x y) → ds = cs := by
    intro l hl
    refine ⟨(l.map fun x => match x with | .v v => v | _ => undef).toArray, fun φ I w ds hs hd => ?_⟩
    apply Array.ext
    · simp [hs]
    · intro j h1 h2
      have hj : j < l.length := by omega
      have hx := List.all_eq_true.1 hl l[j] (List.getElem_mem hj)
      have hden := hd j l[j] ds[j] (List.getElem?_eq_getElem hj) (Array.getElem?_eq_getElem h1)
      cases hlj : l[j] with
      | v v => rw [hlj] at hden; simp [hlj, den_v hden]
      | _ => rw [hlj] at hx; simp [exact] at hx
  unfold exacts at h
  split at h
  · rename_i x; exact ⟨x, fun φ I w y hy => den_v hy⟩
  · rename_i l
    obtain ⟨cs, hcs⟩ := pick l h
    refine ⟨.tuple cs, fun φ I w y hy => ?_⟩
    cases hy with
    | tup _ ds hs hd => rw [hcs φ I w ds hs hd]
  · rename_i l
    obtain ⟨cs, hcs⟩ := pick l h
    refine ⟨.agg cs, fun φ I w y hy => ?_⟩
    cases hy with
    | agg _ ds hs hd => rw [hcs φ I w ds hs hd]
  · cases h

theorem quiet_sound {call : CallF} {pu : FuncId → Bool} (hpure : PureOK P call pu) (hcall : CallOK P call) (hR : Rel lim φ I w H) {o : Oper} {e : Env} {a : Act} (hE : EnvOK φ I w e a) {r : AV} (h : quietV P call pu o.op e H = some r) :
    ∃ y, (∀ w', Bel w.heap.size w w' → o.quietAt P a (fun w' => Bel w.heap.size w w') w' y) ∧ Den φ I w r y := by
  have hD := env_ev hE
  unfold quietV at h
  split at h
  · rename_i t ad hl
    have ho : o.op = .load t ad := by
      unfold isLoad at hl
      split at hl
      · rename_i ho; cases hl; exact ho
      · cases hl
    obtain ⟨y, h1, h2⟩ := load_sound hR h (hD ad)
    refine ⟨y, fun w' hw' => ?_, h2⟩
    unfold Oper.quietAt
    have : (execOp a.eval o).run P w' = .ok (.value y) w' := by simp [execOp, ho, h1 w' hw'.block]
    rw [this]
    exact ⟨rfl, rfl⟩
  · split at h
    · rename_i f args hc
      split at h
      · rename_i hpf
        split at h
        · rename_i x H1 hx
          split at h
          · rename_i hex
            cases h
            obtain ⟨cs, hDL, hrun⟩ := call_run hD hc
            obtain ⟨-, hC⟩ := hpure _ _ _ _ _ _ hpf hx
            obtain ⟨v, hv⟩ := exacts_same hex
            have hRL : Rel H.length φ I w H := ⟨hR.len, Nat.le_refl _, hR.blk, hR.disj, hR.inj, fun b b' L L' hb hb' hL hL' => by
              have h1 := (List.getElem?_eq_some_iff.1 hL').1
              rw [hR.len] at h1; omega, hR.Ilt, hR.tab⟩
            refine ⟨v, fun w' hw' => ?_, ?_⟩
            · unfold Oper.quietAt
              rw [hrun w']
              have hDL' : DL φ I w' args cs := ⟨hDL.1, fun j x y hx hy => (hDL.2 j x y hx hy).down hR.Ilt hw'⟩
              rcases hC φ I w' cs (hRL.down hw') hDL' with ⟨hN, hC'⟩ | ⟨z, hz, hC'⟩
              · rw [named_run hN]
                refine ⟨rfl, ?_⟩
                refine hC'.mono fun e' w'' he => ?_
                obtain ⟨y, I', rfl, g1, g2, g3, g4⟩ := he
                exact ⟨by rw [hv _ _ _ _ g1], hw'.trans (g3.mono hw'.size)⟩
              · rw [hz w']
                obtain ⟨y, I', he, g1, g2, g3, g4⟩ := hC'
                cases he
                exact ⟨rfl, hv _ _ _ _ g1⟩
            · -- a value of one shape denotes itself
              unfold exacts at hex
              split at hex
              · rename_i x; have := hv φ I w x (.v x); rw [← this]; exact .v _
              · rename_i l
                have hsz : (l.map fun x => match x with | AV.v v => v | _ => undef).toArray.size = l.length := by simp
                have hden : Den φ I w (.tup l) (.tuple (l.map fun x => match x with | AV.v v => v | _ => undef).toArray) := .tup _ _ hsz fun j x y hx hy => by
                  simp at hy
                  obtain ⟨x', h1, h2⟩ := hy
                  rw [hx] at h1; cases h1
                  have := List.all_eq_true.1 hex x (List.mem_of_getElem? hx)
                  cases x <;> simp [exact] at this
                  simp at h2; subst h2; exact .v _
                rw [← hv _ _ _ _ hden]; exact hden
              · rename_i l
                have hsz : (l.map fun x => match x with | AV.v v => v | _ => undef).toArray.size = l.length := by simp
                have hden : Den φ I w (.agg l) (.agg (l.map fun x => match x with | AV.v v => v | _ => undef).toArray) := .agg _ _ hsz fun j x y hx hy => by
                  simp at hy
                  obtain ⟨x', h1, h2⟩ := hy
                  rw [hx] at h1; cases h1
                  have := List.all_eq_true.1 hex x (List.mem_of_getElem? hx)
                  cases x <;> simp [exact] at this
                  simp at h2; subst h2; exact .v _
                rw [← hv _ _ _ _ hden]; exact hden
              · cases hex
          · cases h
        · cases h
      · cases h
    · obtain ⟨y, h1, h2⟩ := pop_sound hD h
      refine ⟨y, fun w' hw' => ?_, h2⟩
      unfold Oper.quietAt
      rw [h1 w']
      exact ⟨rfl, rfl⟩

theorem runQuiet_sound {call : CallF} {pu : FuncId → Bool} (hpure : PureOK P call pu) (hcall : CallOK P call) {ops : Array Oper} {N : Nat} {loc : Env} (hdst : dstOK N ops = true) (hR : Rel lim φ I w H) {Q : Act → Prop} : ∀ (l : List Oper), (∀ o ∈ l, o ∈ ops.toList) → ∀ (e e' : Env) (a : Act),
    runQuiet P call pu ops l e H = some e' → N ≤ a.tmps.size → a.defers = [] → EnvOK φ I w e a → EnvW loc e →
    (∀ a', a'.tmps.size = a.tmps.size → a'.defers = [] → EnvOK φ I w e' a' → EnvW loc e' → Q a') → wpQuiet P ops (fun w' => Bel w.heap.size w w') Q l a
  | [], _, e, e', a, h, hN, hdf, hE, hW, hQ => by
    simp [runQuiet] at h
    subst h
    exact hQ a rfl hdf hE hW
  | o :: l, hmem, e, e', a, h, hN, hdf, hE, hW, hQ => by
    have hds : ∀ s, o.dst = some s → s < a.tmps.size := fun s hs => by
      obtain ⟨j, hj, hj'⟩ := List.getElem_of_mem (hmem o (by simp))
      exact Nat.lt_of_lt_of_le (dstOK_spec hdst j o s (by rw [Array.getElem?_eq_getElem (by simpa using hj)]; simpa using hj') hs) hN
    have hall : ∀ (j : Nat) (o : Oper) (d : Nat), ops[j]? = some o → o.dst = some d → d < a.tmps.size := fun j o d h1 h2 => by have := dstOK_spec hdst j o d h1 h2; omega
    simp only [runQuiet] at h
    simp only [wpQuiet]
    split at h
    · rename_i hw
      rw [wanted_sound hE hall hw, if_pos rfl]
      split at h
      · rename_i x hop
        obtain ⟨y, h1, h2⟩ := quiet_sound hpure hcall hR hE hop
        refine ⟨y, h1, ?_⟩
        exact runQuiet_sound hpure hcall hdst hR l (fun o ho => hmem o (by simp [ho])) _ _ _ h (by rw [act_put_size]; exact hN) (by rw [act_put_defers]; exact hdf) (put_ok hE h2 hds) (hW.put _ _)
          (fun a' h1 h2 h3 h4 => hQ a' (by rw [h1, act_put_size]) h2 h3 h4)
      · cases h
    · rename_i hw
      rw [wanted_sound hE hall hw]
      simp only [Bool.false_eq_true, if_false]
      exact runQuiet_sound hpure hcall hdst hR l (fun o ho => hmem o (by simp [ho])) _ _ _ h (by rw [act_put_size]; exact hN) (by rw [act_put_defers]; exact hdf) (put_ok hE (.v _) hds) (hW.put _ _)
        (fun a' h1 h2 h3 h4 => hQ a' (by rw [h1, act_put_size]) h2 h3 h4)
    · cases h

end
end Go.Am
