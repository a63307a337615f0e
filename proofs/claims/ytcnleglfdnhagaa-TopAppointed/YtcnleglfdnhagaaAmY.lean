/-
  The abstract machine: what a whole call of the abstract machine answers, the model's call answers.
-/
import Derived.Test.YtcnleglfdnhagaaAmX
import Derived.Test.YtcnleglfdnhagaaAmP
set_option linter.unusedSectionVars false
namespace Go.Am
open Go Go.RowKit
variable [Dn]
set_option linter.unusedSimpArgs false
set_option linter.unusedVariables false

def exM : Ex → Exit → Prop
  | .normal, .normal => True
  | .exit i, .exit j => i = j
  | .ret, .ret => True
  | _, _ => False

def drawOk (n : Nat) (ops : Array Oper) : Bool := if n = ops.size then Region.lexB .any ops else Region.lexTailB .any ops n

/-- What is asked of a body's text: each slot that is written is one of its slots; each region that draws its order has the form that is claimed of it. -/
def chk (pu : FuncId → Bool) (N : Nat) (draws : List (Nat × Draw)) : Code → Bool
  | .region id ops draw => dstOK N ops && (!draw || match draws.lookup id with | some (.quiet n) => drawOk n ops | some (.led lead mids fin _ _) => ledB (if mids.length = 1 then fun _ => true else pu) ops lead mids fin | some (.led2 lead mid lead2 mids fin _ _) => led23B pu ops lead mid lead2 mids fin | some (.ledL lead mids fin _ _) => ledB pu ops lead mids fin | none => true)
  | .seq a b => chk pu N draws a && chk pu N draws b
  | .cond _ a b => chk pu N draws a && chk pu N draws b
  | .block _ b => chk pu N draws b
  | .loop b => chk pu N draws b
  | _ => true

section
variable {P : Program} {lim : Nat} {φ φ' φ'' : Phi} {I I' I'' : Nat → Prop} {w w' w'' : World} {H H' : Heap}

def Post (lim : Nat) (φ : Phi) (I : Nat → Prop) (w : World) (sz : Nat) (ks : List Nat) (e : Ex) (s' : St) (x : Exit) (a' : Act) (w' : World) : Prop :=
  exM e x ∧ a'.tmps.size = sz ∧ a'.defers = [] ∧ keys s'.loc = ks ∧ ∃ φ' I', EnvOK φ' I' w' s'.loc a' ∧ Rel lim φ' I' w' s'.H ∧ Ext lim φ I w φ' I' w'

theorem rel_less (hR : Rel lim φ I w H) (hl : H'.length = H.length) (hk : ∀ b k, hget H' b = some k → hget H b = some k) : Rel lim φ I w H' where
  len := by rw [hR.len, hl]
  tab := hR.tab
  limle := by rw [hl]; exact hR.limle
  blk := fun b k h => hR.blk b k (hk b k h)
  disj := hR.disj
  inj := fun b b' k k' L L' h1 h2 => hR.inj b b' k k' L L' (hk b k h1) (hk b' k' h2)
  sep := hR.sep
  Ilt := hR.Ilt
theorem keep_less {l : List Nat} {n : Nat} {H : Heap} {b : Nat} {k : Blk} (h : hget (keepOnly l n H) b = some k) : hget H b = some k := by
  simp only [keepOnly, hget, List.getElem?_mapIdx] at h ⊢
  cases hx : H[b]? with
  | none => rw [hx] at h; cases h
  | some x =>
    rw [hx] at h
    simp only [Option.map_some, Option.join_some] at h
    split at h
    · rw [Option.join_some]; exact h
    · cases h
theorem rel_lower {n : Nat} (hR : Rel lim φ I w H) (hn : n = H.length) (hp : φ <+: φ') (h : Rel n φ' I' w' H') : Rel lim φ' I' w' H' where
  len := h.len
  tab := h.tab
  limle := Nat.le_trans hR.limle (by rw [← hn]; exact h.limle)
  blk := h.blk
  disj := h.disj
  inj := h.inj
  sep := fun b b' L L' hb hb' hL hL' => by
    have low : ∀ {c : Nat} {o : Option Loc}, c < φ.length → φ'[c]? = some o → φ[c]? = some o := by
      intro c o hc hx
      obtain ⟨r, rfl⟩ := hp
      rwa [List.getElem?_append_left hc] at hx
    have hle := hR.limle
    by_cases h1 : b' < H.length
    · exact hR.sep b b' L L' hb hb' (low (by rw [hR.len]; omega) hL) (low (by rw [hR.len]; omega) hL')
    · exact h.sep b b' L L' (by omega) (by omega) hL hL'
  Ilt := h.Ilt
theorem ext_lower {n : Nat} (hn : lim ≤ n) (h : Ext n φ I w φ' I' w') : Ext lim φ I w φ' I' w' :=
  { h with lo := fun b L hb hL => h.lo b L (by omega) hL }
theorem ext_raise {n : Nat} (hR : Rel lim φ I w H) (hn : n = H.length) : Rel n φ I w H := by
  subst hn
  exact ⟨hR.len, Nat.le_refl _, hR.blk, hR.disj, hR.inj, fun b b' L L' hb hb' hL hL' => by
    have h1 := (List.getElem?_eq_some_iff.1 hL').1
    rw [hR.len] at h1; omega, hR.Ilt, hR.tab⟩
theorem EqE.ok {e e' : Env} (h : EqE e e') {a : Act} (hE : EnvOK φ I w e a) : EnvOK φ I w e' a := fun t => by rw [← h t]; exact hE t
theorem act_put_get {a : Act} {d : Option Nat} {v : Value} {t : Nat} (h : d ≠ some t) : (a.put d v).tmps.getD t undef = a.tmps.getD t undef := by
  cases d with
  | none => rfl
  | some s =>
    have : s ≠ t := fun hh => h (by rw [hh])
    simp [Act.put, Array.getElem?_setIfInBounds, this]
theorem mem_dsts {ops : Array Oper} {o : Oper} (ho : o ∈ ops.toList) {t : Nat} (h : o.dst = some t) : t ∈ dsts ops := List.mem_filterMap.2 ⟨o, ho, h⟩
/-- Whatever order the edges leave open: the model follows the machine. -/
theorem allO_sound {call : CallF} (hcall : CallOK P call) {ops : Array Oper} {N : Nat} (hdst : dstOK N ops = true) {Q : Exit → Act → World → Prop} {R : List Nat} {K : Array Bool → Env → Heap → Prop} {g : Nat} : ∀ (f : Nat) (listed : Array Bool) (e : Env) (H : Heap) (φ : Phi) (I : Nat → Prop) (w : World) (a : Act),
    allO P call lim ops R K f listed e H → N ≤ a.tmps.size → a.defers = [] → EnvOK φ I w e a → Rel lim φ I w H →
    (∀ l e' H' φ' I' w' a', K l e' H' → a'.tmps.size = a.tmps.size → a'.defers = [] → EnvOK φ' I' w' e' a' → Rel lim φ' I' w' H' → Ext lim φ I w φ' I' w' → (∀ t, t ∉ dsts ops → a'.tmps.getD t undef = a.tmps.getD t undef) → wpAny P .any ops Q g l a' w') → wpAny P .any ops Q (g + f) listed a w
  | 0, listed, e, H, φ, I, w, a, h, hN, hdf, hE, hR, hQ => hQ listed e H φ I w a h rfl hdf hE hR Ext.refl fun _ _ => rfl
  | f + 1, listed, e, H, φ, I, w, a, h, hN, hdf, hE, hR, hQ => by
    refine ⟨fun h0 => absurd h0 h.1, fun i hi => ?_⟩
    obtain ⟨o, ho, hcase⟩ := h.2 i hi
    have hmem : o ∈ ops.toList := by
      obtain ⟨hlt, rfl⟩ := Array.getElem?_eq_some_iff.1 ho
      simp
    have hall : ∀ (j : Nat) (o : Oper) (d : Nat), ops[j]? = some o → o.dst = some d → d < a.tmps.size := fun j o d h1 h2 => by have := dstOK_spec hdst j o d h1 h2; omega
    have hds : ∀ s, o.dst = some s → s < a.tmps.size := fun s hs => hall i o s ho hs
    have hout : ∀ (v : Value) (t : Nat), t ∉ dsts ops → (a.put o.dst v).tmps.getD t undef = a.tmps.getD t undef := fun v t ht => act_put_get fun hh => ht (mem_dsts hmem hh)
    unfold wpOp
    simp only [ho]
    rcases hcase with ⟨hw, x, H', hop, _, hA⟩ | ⟨hw, hA⟩
    · rw [wanted_sound hE hall hw, if_pos rfl]
      refine .inl (op_sound hcall hR hE hop fun φ' I' w' y hd hR' hX => ?_)
      exact allO_sound hcall hdst f _ _ _ φ' I' w' _ hA (by rw [act_put_size]; exact hN) (by rw [act_put_defers]; exact hdf) (put_ok (hE.ext hR hX) hd hds) hR'
        (fun l e' H'' φ'' I'' w'' a' h0 h1 h2 h3 h5 h6 h7 => hQ l e' H'' φ'' I'' w'' a' h0 (by rw [h1, act_put_size]) h2 h3 h5 (hX.trans h6) fun t ht => by rw [h7 t ht, hout _ t ht])
    · rw [wanted_sound hE hall hw]
      simp only [Bool.false_eq_true, if_false]
      exact allO_sound hcall hdst f _ _ _ φ I w _ hA (by rw [act_put_size]; exact hN) (by rw [act_put_defers]; exact hdf) (put_ok hE (.v _) hds) hR
        (fun l e' H'' φ'' I'' w'' a' h0 h1 h2 h3 h5 h6 h7 => hQ l e' H'' φ'' I'' w'' a' h0 (by rw [h1, act_put_size]) h2 h3 h5 h6 fun t ht => by rw [h7 t ht, hout _ t ht])

theorem runOps_W {call : CallF} {ops : Array Oper} {loc : Env} : ∀ (l : List Oper) (e e' : Env) (H H' : Heap), runOps P call lim ops l e H = some (e', H') → EnvW loc e → EnvW loc e'
  | [], e, e', H, H', h, hW => by
    simp only [runOps, Option.some.injEq, Prod.mk.injEq] at h
    rw [← h.1]; exact hW
  | o :: l, e, e', H, H', h, hW => by
    simp only [runOps] at h
    split at h
    · split at h
      · exact runOps_W l _ _ _ _ h (hW.put _ _)
      · cases h
    · exact runOps_W l _ _ _ _ h (hW.put _ _)
    · cases h
theorem runLead_W {ops : Array Oper} {loc : Env} : ∀ (l : List Oper) (e e' : Env) (H : Heap) (R R' : List Nat), runLead P ops l e H R = some (e', R') → EnvW loc e → EnvW loc e'
  | [], e, e', H, R, R', h, hW => by
    simp only [runLead, Option.some.injEq, Prod.mk.injEq] at h
    rw [← h.1]; exact hW
  | o :: l, e, e', H, R, R', h, hW => by
    simp only [runLead] at h
    split at h
    · split at h
      · exact runLead_W l _ _ _ _ _ h (hW.put _ _)
      · cases h
    · exact runLead_W l _ _ _ _ _ h (hW.put _ _)
    · cases h
theorem runMid_W {call : CallF} {ops : Array Oper} {loc : Env} {R : List Nat} : ∀ (l : List Oper) (e e' : Env) (H H' : Heap), runMid P call lim ops R l e H = some (e', H') → EnvW loc e → EnvW loc e'
  | [], e, e', H, H', h, hW => by
    simp only [runMid, Option.some.injEq, Prod.mk.injEq] at h
    rw [← h.1]; exact hW
  | o :: l, e, e', H, H', h, hW => by
    simp only [runMid] at h
    split at h
    rotate_left
    · cases h
    split at h
    · split at h
      · split at h
        · cases h
        exact runMid_W l _ _ _ _ h (hW.put _ _)
      · cases h
    · exact runMid_W l _ _ _ _ h (hW.put _ _)
    · cases h

/-! ### Other numbers for the new blocks -/
theorem ren_den {f : Nat → Nat} (hf : ∀ b o, φ[b]? = some o → φ'[f b]? = some o) : ∀ (d : Nat) (x : AV) (y : Value), Den φ I w x y → Den φ' I w (ren f d x) y
  | 0, x, y, _ => .any _
  | d + 1, x, y, h => by
    have ih := ren_den (f := f) hf d
    cases h with
    | any y => exact .any _
    | v y => exact .v _
    | sl0 l p => exact .sl0 _ _
    | sl n l c a Y hn hc ha hIa hY hD =>
      refine .sl _ _ c a Y hn hc ha hIa (fun j x hx => ?_) (fun j x hx => ?_)
      · simp at hx
        obtain ⟨z, h1, rfl⟩ := hx
        exact hY j z h1
      · simp at hx
        obtain ⟨z, h1, rfl⟩ := hx
        exact ih _ _ (hD j z h1)
    | own0 z b o hb => exact .own0 _ _ _ (hf _ _ hb)
    | own z b o n c off M hM hn hc ho => exact .own _ _ _ _ c off M (hf _ _ hM) hn hc ho
    | ptr b o M hM => exact .ptr _ _ M (hf _ _ hM)
    | ele l o a Y ha hIa hY hD => exact .any _
    | agg l cs hs hD =>
      refine .agg _ cs (by simpa using hs) fun j x y hx hy => ?_
      simp at hx
      obtain ⟨z, h1, rfl⟩ := hx
      exact ih _ _ (hD j z y h1 hy)
    | tup l cs hs hD =>
      refine .tup _ cs (by simpa using hs) fun j x y hx hy => ?_
      simp at hx
      obtain ⟨z, h1, rfl⟩ := hx
      exact ih _ _ (hD j z y h1 hy)
    | clo f l cs hs hD => exact .any _
theorem cut_get {ops : Array Oper} {live : List Nat} {loc e : Env} (t : Nat) : (cutE ops live loc e).get t = if t ∈ live then e.get t else if t ∈ dsts ops then .any else loc.get t := by
  have k2 : ∀ l : List Nat, Env.get (l.map (fun t => (t, AV.any)) ++ loc) t = if t ∈ l then .any else Env.get loc t := by
    intro l
    induction l with
    | nil => simp
    | cons k l ih =>
      simp only [List.map_cons, List.cons_append, Env.get, ih, List.mem_cons]
      by_cases h : t = k
      · simp [h]
      · simp [h]
  unfold cutE
  rw [List.append_assoc]
  have k1 : ∀ l : List Nat, Env.get (l.map (fun t => (t, e.get t)) ++ ((dsts ops).map (fun t => (t, AV.any)) ++ loc)) t = if t ∈ l then e.get t else Env.get ((dsts ops).map (fun t => (t, AV.any)) ++ loc) t := by
    intro l
    induction l with
    | nil => simp
    | cons k l ih =>
      simp only [List.map_cons, List.cons_append, Env.get, ih, List.mem_cons]
      by_cases h : t = k
      · simp [h]
      · simp [h]
  rw [k1, k2]
theorem rename_sound {n0 : Nat} {Hs H0 H1 : Heap} (hn : n0 = Hs.length) {live keep : List Nat} {e0 e1 loc : Env} {ops : Array Oper} {p : List Nat} (hS : SameBy n0 live keep e0 H0 e1 H1 p) (hag : agree n0 Hs H0) {a0 a : Act}
    (hR0 : Rel n0 φ I w Hs) (hE0 : EnvOK φ I w loc a0) (hE : EnvOK φ' I' w' e1 a) (hR : Rel n0 φ' I' w' H1) (hX : Ext n0 φ I w φ' I' w') (ht : ∀ t, t ∉ dsts ops → a.tmps.getD t undef = a0.tmps.getD t undef) :
    ∃ φ2, EnvOK φ2 I' w' (cutE ops live loc e0) a ∧ Rel n0 φ2 I' w' (keepOnly keep n0 H0) ∧ Ext n0 φ I w φ2 I' w' := by
  obtain ⟨h1, h2, h3, h4, h5, h6, h7, h8⟩ := hS
  have lφ : φ.length = n0 := by rw [hR0.len, hn]
  have lφ' : φ'.length = H0.length := by rw [hR.len, h2]
  let φ2 : Phi := φ ++ p.map fun q => (φ'[n0 + q]?).getD none
  have low : ∀ b, b < n0 → φ2[b]? = φ[b]? := fun b hb => by
    show (φ ++ _)[b]? = _
    rw [List.getElem?_append_left (by omega)]
  have low' : ∀ b, b < n0 → φ'[b]? = φ[b]? := fun b hb => by
    obtain ⟨r, hr⟩ := hX.pre
    rw [← hr, List.getElem?_append_left (by omega)]
  have hi : ∀ k (hk : k < p.length), φ2[n0 + k]? = φ'[n0 + p.getD k 0]? := fun k hk => by
    show (φ ++ _)[n0 + k]? = _
    have hq : p[k] < p.length := h5 _ (List.getElem_mem hk)
    rw [List.getElem?_append_right (by omega), show n0 + k - φ.length = k by omega, List.getElem?_map, List.getElem?_eq_getElem hk]
    simp only [Option.map_some, List.getD_eq_getElem?_getD, List.getElem?_eq_getElem hk, Option.getD_some]
    rw [List.getElem?_eq_getElem (by omega)]
    rfl
  have back : ∀ b o, φ2[b]? = some o → ∃ b', φ'[b']? = some o ∧ (b < n0 ∧ b' = b ∨ ∃ k, k < p.length ∧ b = n0 + k ∧ b' = n0 + p.getD k 0) := fun b o hb => by
    by_cases hlt : b < n0
    · exact ⟨b, by rw [low' b hlt, ← low b hlt]; exact hb, .inl ⟨hlt, rfl⟩⟩
    · have hl : b < φ2.length := (List.getElem?_eq_some_iff.1 hb).1
      have hl2 : φ2.length = n0 + p.length := by show (φ ++ _).length = _; simp [lφ]
      have hk : b - n0 < p.length := by omega
      have e1 : b = n0 + (b - n0) := by omega
      refine ⟨n0 + p.getD (b - n0) 0, ?_, .inr ⟨b - n0, hk, e1, rfl⟩⟩
      rw [← hi _ hk, ← e1]; exact hb
  have hrn : ∀ b o, φ'[b]? = some o → φ2[rnB n0 p b]? = some o := fun b o hb => by
    unfold rnB
    by_cases hlt : b < n0
    · rw [if_pos hlt, low b hlt, ← low' b hlt]; exact hb
    · rw [if_neg hlt]
      have hl : b < φ'.length := (List.getElem?_eq_some_iff.1 hb).1
      have hm : b - n0 ∈ p := h6 _ (by omega)
      have hx := List.idxOf_lt_length_of_mem hm
      rw [hi _ hx]
      have : p.getD (p.idxOf (b - n0)) 0 = b - n0 := by
        rw [List.getD_eq_getElem?_getD, List.getElem?_eq_getElem hx]; simp
      rw [this, show n0 + (b - n0) = b by omega]; exact hb
  have hpre : φ <+: φ2 := List.prefix_append _ _
  have keepI := hR0.keepI hX
  refine ⟨φ2, fun t => ?_, ?_, ?_⟩
  · rw [cut_get]
    split
    · rename_i hl
      rw [← h7 t hl]
      exact ren_den hrn 8 _ _ (hE t)
    · split
      · exact .any _
      · rename_i hd
        rw [ht t hd]
        exact (hE0 t).mono hpre hX.I keepI
  · refine ⟨?_, ?_, fun b k hb => ?_, fun b L hb => ?_, fun b b' k k' L L' hb hb' hL hL' he => ?_, fun b b' L L' hb hb' hL hL' => ?_, hR.Ilt, hR.tab⟩
    · show (φ ++ _).length = _; simp [keepOnly, lφ]; omega
    · simp [keepOnly]; exact h1
    · simp only [keepOnly, hget, List.getElem?_mapIdx] at hb
      cases hx : H0[b]? with
      | none => rw [hx] at hb; cases hb
      | some x =>
        rw [hx] at hb
        simp only [Option.map_some, Option.join_some] at hb
        have hbl : b < H0.length := (List.getElem?_eq_some_iff.1 hx).1
        split at hb
        · rename_i hc
          subst hb
          by_cases hlt : b < n0
          · have hg : hget Hs b = some k := by rw [← hag.2.2 b hlt]; simp [hget, hx]
            rcases hR0.blk b k hg with ⟨g1, g2⟩ | ⟨L, C, T, g1, g2, g3, g5⟩
            · exact .inl ⟨by rw [low b hlt]; exact g1, g2⟩
            · exact .inr ⟨L, C, T, by rw [low b hlt]; exact g1, by rw [hX.lo b L hlt g1]; exact g2, g3, g5.1, fun j x hx => by
                obtain ⟨y, q1, q2⟩ := g5.2 j x hx
                exact ⟨y, q1, q2.mono hpre hX.I keepI⟩⟩
          · have hkk : b - n0 ∈ keep := hc.resolve_left hlt
            have hkl : b - n0 < p.length := by omega
            have hg := h8 _ hkk
            rw [show n0 + (b - n0) = b by omega] at hg
            have hg0 : hget H0 b = some k := by simp [hget, hx]
            rw [hg0] at hg
            obtain ⟨k2, hk2, hkk2⟩ := Option.map_eq_some_iff.1 hg.symm
            subst hkk2
            have hφ : φ2[b]? = φ'[n0 + p.getD (b - n0) 0]? := by rw [← hi _ hkl, show n0 + (b - n0) = b by omega]
            rcases hR.blk _ k2 hk2 with ⟨g1, g2⟩ | ⟨L, C, T, g1, g2, g3, g5⟩
            · exact .inl ⟨by rw [hφ]; exact g1, by rw [g2]; rfl⟩
            · refine .inr ⟨L, C, T, by rw [hφ]; exact g1, g2, g3, by simpa using g5.1, fun j x hx => ?_⟩
              rw [List.getElem?_map, Option.map_eq_some_iff] at hx
              obtain ⟨x0, hx0, rfl⟩ := hx
              obtain ⟨y, q1, q2⟩ := g5.2 j x0 hx0
              exact ⟨y, q1, ren_den hrn 8 _ _ q2⟩
        · cases hb
    · obtain ⟨b', hb', -⟩ := back b _ hb
      exact hR.disj b' L hb'
    · have hgl : ∀ {b : Nat} {k : Blk}, hget (keepOnly keep n0 H0) b = some k → hget H0 b = some k ∧ (b < n0 ∨ b - n0 ∈ keep) ∧ b < H0.length := by
        intro b k hb
        simp only [keepOnly, hget, List.getElem?_mapIdx] at hb ⊢
        cases hx : H0[b]? with
        | none => rw [hx] at hb; cases hb
        | some x =>
          rw [hx] at hb
          simp only [Option.map_some, Option.join_some] at hb
          split at hb
          · rename_i hc; exact ⟨by rw [Option.join_some]; exact hb, hc, (List.getElem?_eq_some_iff.1 hx).1⟩
          · cases hb
      obtain ⟨g1, g2, g3⟩ := hgl hb
      obtain ⟨g1', g2', g3'⟩ := hgl hb'
      by_cases hlt : b < n0
      · by_cases hlt' : b' < n0
        · rw [low b hlt] at hL
          rw [low b' hlt'] at hL'
          exact hR0.inj b b' k k' L L' (by rw [← hag.2.2 b hlt]; exact g1) (by rw [← hag.2.2 b' hlt']; exact g1') hL hL' he
        · exfalso
          obtain ⟨c, hc, hcc⟩ := back b' _ hL'
          rw [low b hlt, ← low' b hlt] at hL
          rcases hcc with ⟨h, _⟩ | ⟨q, hq, _, rfl⟩
          · exact hlt' h
          · exact hR.sep b _ L L' hlt (Nat.le_add_right _ _) hL hc he
      · by_cases hlt' : b' < n0
        · exfalso
          obtain ⟨c, hc, hcc⟩ := back b _ hL
          rw [low b' hlt', ← low' b' hlt'] at hL'
          rcases hcc with ⟨h, _⟩ | ⟨q, hq, _, rfl⟩
          · exact hlt h
          · exact hR.sep b' _ L' L hlt' (Nat.le_add_right _ _) hL' hc he.symm
        · have q1 : b - n0 < p.length := by omega
          have q2 : b' - n0 < p.length := by omega
          have hg := h8 _ (g2.resolve_left hlt)
          have hg' := h8 _ (g2'.resolve_left hlt')
          rw [show n0 + (b - n0) = b by omega, g1] at hg
          rw [show n0 + (b' - n0) = b' by omega, g1'] at hg'
          obtain ⟨c, hc, -⟩ := Option.map_eq_some_iff.1 hg.symm
          obtain ⟨c', hc', -⟩ := Option.map_eq_some_iff.1 hg'.symm
          have e1 := hi _ q1
          have e2 := hi _ q2
          rw [show n0 + (b - n0) = b by omega] at e1
          rw [show n0 + (b' - n0) = b' by omega] at e2
          rw [e1] at hL
          rw [e2] at hL'
          have := hR.inj _ _ c c' L L' hc hc' hL hL' he
          have e3 : p.getD (b - n0) 0 = p.getD (b' - n0) 0 := by omega
          rw [List.getD_eq_getElem?_getD, List.getD_eq_getElem?_getD, List.getElem?_eq_getElem q1, List.getElem?_eq_getElem q2] at e3
          simp only [Option.getD_some] at e3
          rcases Nat.lt_trichotomy (b - n0) (b' - n0) with hh | hh | hh
          · exact absurd e3 (List.pairwise_iff_getElem.1 h4 _ _ q1 q2 hh)
          · omega
          · exact absurd e3.symm (List.pairwise_iff_getElem.1 h4 _ _ q2 q1 hh)
    · obtain ⟨c, hc, hcc⟩ := back b' _ hL'
      rw [low b hb, ← low' b hb] at hL
      rcases hcc with ⟨h, _⟩ | ⟨q, hq, _, rfl⟩
      · omega
      · exact hR.sep b _ L L' hb (Nat.le_add_right _ _) hL hc
  · refine ⟨hpre, hX.I, hX.old, hX.lo, fun b L hb => ?_, hX.os, hX.tape, hX.output, hX.size⟩
    obtain ⟨b', hb', -⟩ := back b _ hb
    exact hX.fresh b' L hb'

theorem still_of {call : CallF} {pu : FuncId → Bool} (hpure : PureOK P call pu) : Still call pu := fun lim f args H r H' hp h => (hpure lim f args H r H' hp h).1
theorem led_sound {call : CallF} {pu : FuncId → Bool} (hm : P.follows .mixedOrders = true) (hcall : CallOK P call) (hpure : PureOK P call pu) {N : Nat} {id : Nat} {ops : Array Oper} {lead : List Nat} {mids : List (List Nat)} {fin live keep : List Nat} {s s' : St} (hdst : dstOK N ops = true) (hb : ledB (if mids.length = 1 then fun _ => true else pu) ops lead mids fin = true) {a : Act} (hN : N ≤ a.tmps.size) (hdf : a.defers = []) (hE : EnvOK φ I w s.loc a) (hR : Rel lim φ I w s.H)
    (h : led P call lim ops lead mids fin live keep s = some s') : (Code.region id ops true).wp P (Post lim φ I w a.tmps.size (keys s.loc) .normal s') a w := by
  have hst := still_of hpure
  have hR1 := hR.drew (w.drawn + 1)
  have hX1 : Ext lim φ I w φ I { w with drawn := w.drawn + 1 } := Ext.drew (w.drawn + 1)
  have hE1 := hE.ext hR hX1
  have hR2 : Rel s.H.length φ I { w with drawn := w.drawn + 1 } s.H := ext_raise hR1 rfl
  have hW : EnvW s.loc s.loc := ⟨[], rfl⟩
  refine wp_region_any hm ?_
  -- behind the middle: what the last ones do
  have last : ∀ (e2 : Env) (H2 : Heap) (s2 : St) (l : Array Bool) (φ2 : Phi) (I2 : Nat → Prop) (w2 : World) (a2 : Act), (runOps P call lim ops (pick ops fin) e2 H2).map (fun x => (⟨trim x.1 s.loc, x.2⟩ : St)) = some s2 → EnvW s.loc e2 →
      exhB ops (fun l'' => (Region.ready .any ops l'').isEmpty) fin.length l [fin] = true → a2.tmps.size = a.tmps.size → a2.defers = [] → EnvOK φ2 I2 w2 e2 a2 → Rel lim φ2 I2 w2 H2 → Ext lim φ I { w with drawn := w.drawn + 1 } φ2 I2 w2 →
      wpAny P .any ops (Post lim φ I w a.tmps.size (keys s.loc) .normal s2) fin.length l a2 w2 := by
    intro e2 H2 s2 l φ2 I2 w2 a2 hr hW2 hex hsz hd2 hE2 hRl hXl
    simp only [Option.map_eq_some_iff] at hr
    obtain ⟨⟨e3, H3⟩, hr, rfl⟩ := hr
    have hA := allO_alts (P := P) (call := call) (lim := lim) (R := []) (Q := fun e H => e = e3 ∧ H = H3) _ _ _ e2 H2 hex fun m' hm' => by
      have : m' = fin := by simpa using hm'
      subst this
      exact ⟨e3, H3, runs_any _ _ _ _ _ hr, rfl, rfl⟩
    have key := allO_sound (g := 0) hcall hdst (Q := Post lim φ I w a.tmps.size (keys s.loc) .normal ⟨trim e3 s.loc, H3⟩) fin.length l e2 H2 φ2 I2 w2 a2 hA (by rw [hsz]; exact hN) hd2 hE2 hRl fun l' e' H' φ' I' w' a' hk g1 g2 g3 g5 g6 g7 => by
      obtain ⟨k1, rfl, rfl⟩ := hk
      refine ⟨by simpa using k1, ?_⟩
      have ht := trim_ok (runOps_W _ _ _ _ _ hr hW2) g3
      exact ⟨trivial, by rw [g1, hsz], g2, ht.2, φ', I', ht.1, g5, (hX1.trans hXl).trans g6⟩
    rwa [Nat.zero_add] at key
  unfold led at h
  split at h
  · -- one order
    rename_i e R m hlead
    split at h
    rotate_left
    · cases h
    rename_i e1 H1 hrun
    have hWe : EnvW s.loc e1 := runMid_W _ _ _ _ _ hrun (runLead_W _ _ _ _ _ _ hlead hW)
    obtain ⟨hsz, hA⟩ := allO_led (P := P) (call := call) (lim := lim) (Q := fun e' H' => e' = e1 ∧ H' = H1) hb hlead fun m' hm' => by
      have : m' = m := by simpa using hm'
      subst this
      exact ⟨e1, H1, runs_mid' hst _ _ _ _ _ hrun, rfl, rfl⟩
    have key := allO_sound (g := fin.length) hcall hdst (Q := Post lim φ I w a.tmps.size (keys s.loc) .normal s') _ _ _ _ φ I _ a hA hN hdf hE1 hR1 fun l e' H' φ' I' w' a' hk g1 g2 g3 g5 g6 g7 => by
      obtain ⟨k1, e2, k2, rfl, rfl⟩ := hk
      exact last e2 H' s' l φ' I' w' a' h hWe k1 g1 g2 (k2.symm.ok g3) g5 g6
    rwa [hsz] at key
  · rename_i e R m m2 ms hlead
    rw [if_neg (by simp)] at hb
    have hcalls := ledB_calls hb
    split at h
    rotate_left
    · cases h
    rename_i e1 H1 hrun
    split at h
    rotate_left
    · cases h
    rename_i halt
    have hWe : EnvW s.loc e1 := runOps_W _ _ _ _ _ hrun (runLead_W _ _ _ _ _ _ hlead hW)
    have hRl := (runLead_low _ _ _ _ _ hlead (fun b hb => by cases hb)).2
    have hagree : agree s.H.length s.H H1 := runOps_agree hst _ _ _ _ _ (hcalls m (by simp)) (Nat.le_refl _) hrun
    obtain ⟨hsz, hA⟩ := allO_led (P := P) (call := call) (lim := s.H.length) (Q := fun e' H' => (e' = e1 ∧ H' = H1) ∨ SameUp s.H.length live keep e1 H1 e' H') hb hlead fun m' hm' => by
      rcases List.mem_cons.1 hm' with h1 | hm''
      · subst h1
        exact ⟨e1, H1, runs_low hst hRl _ _ _ _ _ (hcalls _ hm') (Nat.le_refl _) hrun, .inl ⟨rfl, rfl⟩⟩
      · obtain ⟨e', H', q1, q2⟩ := altsOK_spec _ halt m' hm''
        exact ⟨e', H', runs_low hst hRl _ _ _ _ _ (hcalls _ hm') (Nat.le_refl _) q1, .inr q2⟩
    have hWc : EnvW s.loc (cutE ops live s.loc e1) := ⟨_, rfl⟩
    have low : ∀ {φ2 : Phi} {I2 : Nat → Prop} {w2 : World} {H2 : Heap}, Rel s.H.length φ2 I2 w2 H2 → Ext s.H.length φ I { w with drawn := w.drawn + 1 } φ2 I2 w2 → Rel lim φ2 I2 w2 H2 ∧ Ext lim φ I { w with drawn := w.drawn + 1 } φ2 I2 w2 := fun hr hx => ⟨rel_lower hR1 rfl hx.pre hr, ext_lower hR.limle hx⟩
    have key := allO_sound (g := fin.length) hcall hdst (Q := Post lim φ I w a.tmps.size (keys s.loc) .normal s') _ _ _ _ φ I _ a hA hN hdf hE1 hR2 fun l e' H' φ' I' w' a' hk g1 g2 g3 g5 g6 g7 => by
      obtain ⟨k1, e2, k2, k3⟩ := hk
      rcases k3 with ⟨rfl, rfl⟩ | ⟨p, hp⟩
      · have hl := low (rel_less (H' := keepOnly keep s.H.length H') g5 (by simp [keepOnly]) fun b k hb => keep_less hb) g6
        refine last _ _ s' l φ' I' w' a' h hWc k1 g1 g2 (fun t => ?_) hl.1 hl.2
        rw [cut_get]
        split
        · exact (k2.symm.ok g3) t
        · split
          · exact .any _
          · rename_i hd
            rw [g7 t hd]
            exact (hE1 t).mono g6.pre g6.I (hR2.keepI g6)
      · obtain ⟨φ2, q1, q2, q3⟩ := rename_sound rfl hp hagree hR2 hE1 (k2.symm.ok g3) g5 g6 g7
        have hl := low q2 q3
        exact last _ _ s' l φ2 I' w' a' h hWc k1 g1 g2 q1 hl.1 hl.2
    rwa [hsz] at key
  · cases h

theorem keepP_get {l : List Nat} {n b : Nat} {H : Heap} {k : Blk} (h : hget (keepP l n H) b = some k) : hget H b = some k ∧ (b < n ∧ plainK k = true ∨ n ≤ b ∧ b - n ∈ l) := by
  simp only [keepP, hget, List.getElem?_mapIdx] at h ⊢
  cases hx : H[b]? with
  | none => rw [hx] at h; cases h
  | some x =>
    rw [hx] at h
    simp only [Option.map_some, Option.join_some] at h ⊢
    split at h
    · rename_i hb
      cases x with
      | none => cases h
      | some k' =>
        simp only at h
        split at h
        · rename_i hp; cases h; exact ⟨rfl, .inl ⟨hb, hp⟩⟩
        · cases h
    · rename_i hb
      split at h
      · rename_i hm; exact ⟨h, .inr ⟨by omega, hm⟩⟩
      · cases h
theorem plain_den {φ2 : Phi} {k : Blk} (hk : plainK k = true) {j : Nat} {x : AV} {y : Value} (hx : k[j]? = some x) (h : Den φ' I' w' x y) : Den φ2 I' w' x y := by
  have := List.all_eq_true.1 hk x (List.mem_of_getElem? hx)
  cases x <;> first | (cases this; done) | skip
  cases h
  exact .v _
theorem rename_soundL {n0 : Nat} {Hs H0 H1 : Heap} (hn : n0 = Hs.length) {live keep : List Nat} {e0 e1 loc : Env} {ops : Array Oper} {p : List Nat} (hS : SameBy n0 live keep e0 H0 e1 H1 p) (hlow : lowEq n0 H0 H1) {a0 a : Act}
    (hR0 : Rel lim φ I w Hs) (hE0 : EnvOK φ I w loc a0) (hE : EnvOK φ' I' w' e1 a) (hR : Rel lim φ' I' w' H1) (hX : Ext lim φ I w φ' I' w') (ht : ∀ t, t ∉ dsts ops → a.tmps.getD t undef = a0.tmps.getD t undef) :
    ∃ φ2, EnvOK φ2 I' w' (cutE ops live loc e0) a ∧ Rel lim φ2 I' w' (keepP keep n0 H0) ∧ Ext lim φ I w φ2 I' w' := by
  obtain ⟨h1, h2, h3, h4, h5, h6, h7, h8⟩ := hS
  have lφ : φ.length = n0 := by rw [hR0.len, hn]
  have lφ' : φ'.length = H0.length := by rw [hR.len, h2]
  have hln : lim ≤ n0 := by rw [hn]; exact hR0.limle
  let φ2 : Phi := φ ++ p.map fun q => (φ'[n0 + q]?).getD none
  have low : ∀ b, b < n0 → φ2[b]? = φ[b]? := fun b hb => by
    show (φ ++ _)[b]? = _
    rw [List.getElem?_append_left (by omega)]
  have low' : ∀ b, b < n0 → φ'[b]? = φ[b]? := fun b hb => by
    obtain ⟨r, hr⟩ := hX.pre
    rw [← hr, List.getElem?_append_left (by omega)]
  have hi : ∀ k (hk : k < p.length), φ2[n0 + k]? = φ'[n0 + p.getD k 0]? := fun k hk => by
    show (φ ++ _)[n0 + k]? = _
    have hq : p[k] < p.length := h5 _ (List.getElem_mem hk)
    rw [List.getElem?_append_right (by omega), show n0 + k - φ.length = k by omega, List.getElem?_map, List.getElem?_eq_getElem hk]
    simp only [Option.map_some, List.getD_eq_getElem?_getD, List.getElem?_eq_getElem hk, Option.getD_some]
    rw [List.getElem?_eq_getElem (by omega)]
    rfl
  have back : ∀ b o, φ2[b]? = some o → ∃ b', φ'[b']? = some o ∧ (b < n0 ∧ b' = b ∨ ∃ k, k < p.length ∧ b = n0 + k ∧ b' = n0 + p.getD k 0) := fun b o hb => by
    by_cases hlt : b < n0
    · exact ⟨b, by rw [low' b hlt, ← low b hlt]; exact hb, .inl ⟨hlt, rfl⟩⟩
    · have hl : b < φ2.length := (List.getElem?_eq_some_iff.1 hb).1
      have hl2 : φ2.length = n0 + p.length := by show (φ ++ _).length = _; simp [lφ]
      have hk : b - n0 < p.length := by omega
      have e1 : b = n0 + (b - n0) := by omega
      refine ⟨n0 + p.getD (b - n0) 0, ?_, .inr ⟨b - n0, hk, e1, rfl⟩⟩
      rw [← hi _ hk, ← e1]; exact hb
  have hrn : ∀ b o, φ'[b]? = some o → φ2[rnB n0 p b]? = some o := fun b o hb => by
    unfold rnB
    by_cases hlt : b < n0
    · rw [if_pos hlt, low b hlt, ← low' b hlt]; exact hb
    · rw [if_neg hlt]
      have hl : b < φ'.length := (List.getElem?_eq_some_iff.1 hb).1
      have hm : b - n0 ∈ p := h6 _ (by omega)
      have hx := List.idxOf_lt_length_of_mem hm
      rw [hi _ hx]
      have : p.getD (p.idxOf (b - n0)) 0 = b - n0 := by
        rw [List.getD_eq_getElem?_getD, List.getElem?_eq_getElem hx]; simp
      rw [this, show n0 + (b - n0) = b by omega]; exact hb
  have hpre : φ <+: φ2 := List.prefix_append _ _
  have keepI := hR0.keepI hX
  -- what a block that lives on is in the other order
  have hgl : ∀ {b : Nat} {k : Blk}, hget (keepP keep n0 H0) b = some k → ∃ c k', hget H1 c = some k' ∧ φ'[c]? = φ2[b]? ∧ (b < n0 ∧ c = b ∧ k' = k ∧ plainK k = true ∨ n0 ≤ b ∧ b - n0 < p.length ∧ c = n0 + p.getD (b - n0) 0 ∧ k = k'.map (ren (rnB n0 p) 8)) := by
    intro b k hb
    obtain ⟨g1, g2⟩ := keepP_get hb
    have hbl : b < H0.length := by
      unfold hget at g1
      cases hx : H0[b]? with
      | none => rw [hx] at g1; cases g1
      | some x => exact (List.getElem?_eq_some_iff.1 hx).1
    rcases g2 with ⟨hlt, hp⟩ | ⟨hge, hm⟩
    · exact ⟨b, k, by rw [← hlow b hlt]; exact g1, by rw [low b hlt, low' b hlt], .inl ⟨hlt, rfl, rfl, hp⟩⟩
    · have hkl : b - n0 < p.length := by omega
      have hg := h8 _ hm
      rw [show n0 + (b - n0) = b by omega, g1] at hg
      obtain ⟨k2, hk2, hkk2⟩ := Option.map_eq_some_iff.1 hg.symm
      exact ⟨_, k2, hk2, by rw [← hi _ hkl, show n0 + (b - n0) = b by omega], .inr ⟨hge, hkl, rfl, hkk2.symm⟩⟩
  refine ⟨φ2, fun t => ?_, ?_, ?_⟩
  · rw [cut_get]
    split
    · rename_i hl
      rw [← h7 t hl]
      exact ren_den hrn 8 _ _ (hE t)
    · split
      · exact .any _
      · rename_i hd
        rw [ht t hd]
        exact (hE0 t).mono hpre hX.I keepI
  · refine ⟨?_, ?_, fun b k hb => ?_, fun b L hb => ?_, fun b b' k k' L L' hb hb' hL hL' he => ?_, fun b b' L L' hb hb' hL hL' => ?_, hR.Ilt, hR.tab⟩
    · show (φ ++ _).length = _; simp [keepP, lφ]; omega
    · simp [keepP]; omega
    · obtain ⟨c, k2, hk2, hφ, hcase⟩ := hgl hb
      rcases hcase with ⟨hlt, rfl, rfl, hp⟩ | ⟨hge, hkl, rfl, rfl⟩
      · rcases hR.blk _ _ hk2 with ⟨g1, g2⟩ | ⟨L, C, T, g1, g2, g3, g5⟩
        · exact .inl ⟨by rw [← hφ]; exact g1, g2⟩
        · exact .inr ⟨L, C, T, by rw [← hφ]; exact g1, g2, g3, g5.1, fun j x hx => by
            obtain ⟨y, q1, q2⟩ := g5.2 j x hx
            exact ⟨y, q1, plain_den hp hx q2⟩⟩
      · rcases hR.blk _ k2 hk2 with ⟨g1, g2⟩ | ⟨L, C, T, g1, g2, g3, g5⟩
        · exact .inl ⟨by rw [← hφ]; exact g1, by rw [g2]; rfl⟩
        · refine .inr ⟨L, C, T, by rw [← hφ]; exact g1, g2, g3, by simpa using g5.1, fun j x hx => ?_⟩
          rw [List.getElem?_map, Option.map_eq_some_iff] at hx
          obtain ⟨x0, hx0, rfl⟩ := hx
          obtain ⟨y, q1, q2⟩ := g5.2 j x0 hx0
          exact ⟨y, q1, ren_den hrn 8 _ _ q2⟩
    · obtain ⟨b', hb', -⟩ := back b _ hb
      exact hR.disj b' L hb'
    · obtain ⟨c, k1, hc, hφ, hcase⟩ := hgl hb
      obtain ⟨c', k1', hc', hφ', hcase'⟩ := hgl hb'
      rw [← hφ] at hL
      rw [← hφ'] at hL'
      have hcc := hR.inj c c' k1 k1' L L' hc hc' hL hL' he
      rcases hcase with ⟨hlt, rfl, -, -⟩ | ⟨hge, q1, rfl, -⟩
      · rcases hcase' with ⟨hlt', rfl, -, -⟩ | ⟨hge', q2, rfl, -⟩
        · exact hcc
        · omega
      · rcases hcase' with ⟨hlt', rfl, -, -⟩ | ⟨hge', q2, rfl, -⟩
        · omega
        · have e3 : p.getD (b - n0) 0 = p.getD (b' - n0) 0 := by omega
          rw [List.getD_eq_getElem?_getD, List.getD_eq_getElem?_getD, List.getElem?_eq_getElem q1, List.getElem?_eq_getElem q2] at e3
          simp only [Option.getD_some] at e3
          rcases Nat.lt_trichotomy (b - n0) (b' - n0) with hh | hh | hh
          · exact absurd e3 (List.pairwise_iff_getElem.1 h4 _ _ q1 q2 hh)
          · omega
          · exact absurd e3.symm (List.pairwise_iff_getElem.1 h4 _ _ q2 q1 hh)
    · obtain ⟨c, hc, hcc⟩ := back b' _ hL'
      rw [low b (by omega), ← low' b (by omega)] at hL
      exact hR.sep b c L L' hb (by rcases hcc with ⟨_, rfl⟩ | ⟨q, _, _, rfl⟩ <;> omega) hL hc
  · refine ⟨hpre, hX.I, hX.old, hX.lo, fun b L hb => ?_, hX.os, hX.tape, hX.output, hX.size⟩
    obtain ⟨b', hb', -⟩ := back b _ hb
    exact hX.fresh b' L hb'
theorem altsL_spec {call : CallF} {ops : Array Oper} {R live keep : List Nat} {n0 : Nat} {e e0 : Env} {H H0 : Heap} : ∀ (ms : List (List Nat)), altsL P call lim ops R live keep n0 e H e0 H0 ms = true → ∀ m ∈ ms, ∃ e' H', runMid P call lim ops R (pick ops m) e H = some (e', H') ∧ SameUp n0 live keep e0 H0 e' H' ∧ lowEq n0 H0 H'
  | [], _, m, hm => by cases hm
  | m0 :: ms, h, m, hm => by
    simp only [altsL, Bool.and_eq_true] at h
    rcases List.mem_cons.1 hm with rfl | hm
    · have h1 := h.1
      split at h1
      · rename_i r hr
        simp only [decide_eq_true_eq] at h1
        exact ⟨r.1, r.2, hr, h1⟩
      · cases h1
    · exact altsL_spec ms h.2 m hm
theorem ledL_sound {call : CallF} {pu : FuncId → Bool} (hm : P.follows .mixedOrders = true) (hcall : CallOK P call) (hpure : PureOK P call pu) {N : Nat} {id : Nat} {ops : Array Oper} {lead : List Nat} {mids : List (List Nat)} {fin live keep : List Nat} {s s' : St} (hdst : dstOK N ops = true) (hb : ledB pu ops lead mids fin = true) {a : Act} (hN : N ≤ a.tmps.size) (hdf : a.defers = []) (hE : EnvOK φ I w s.loc a) (hR : Rel lim φ I w s.H)
    (h : ledL P call lim ops lead mids fin live keep s = some s') : (Code.region id ops true).wp P (Post lim φ I w a.tmps.size (keys s.loc) .normal s') a w := by
  have hst := still_of hpure
  have hR1 := hR.drew (w.drawn + 1)
  have hX1 : Ext lim φ I w φ I { w with drawn := w.drawn + 1 } := Ext.drew (w.drawn + 1)
  have hE1 := hE.ext hR hX1
  have hW : EnvW s.loc s.loc := ⟨[], rfl⟩
  have hcalls := ledB_calls hb
  refine wp_region_any hm ?_
  have last : ∀ (e2 : Env) (H2 : Heap) (s2 : St) (l : Array Bool) (φ2 : Phi) (I2 : Nat → Prop) (w2 : World) (a2 : Act), (runOps P call lim ops (pick ops fin) e2 H2).map (fun x => (⟨trim x.1 s.loc, x.2⟩ : St)) = some s2 → EnvW s.loc e2 →
      exhB ops (fun l'' => (Region.ready .any ops l'').isEmpty) fin.length l [fin] = true → a2.tmps.size = a.tmps.size → a2.defers = [] → EnvOK φ2 I2 w2 e2 a2 → Rel lim φ2 I2 w2 H2 → Ext lim φ I { w with drawn := w.drawn + 1 } φ2 I2 w2 →
      wpAny P .any ops (Post lim φ I w a.tmps.size (keys s.loc) .normal s2) fin.length l a2 w2 := by
    intro e2 H2 s2 l φ2 I2 w2 a2 hr hW2 hex hsz hd2 hE2 hRl hXl
    simp only [Option.map_eq_some_iff] at hr
    obtain ⟨⟨e3, H3⟩, hr, rfl⟩ := hr
    have hA := allO_alts (P := P) (call := call) (lim := lim) (R := []) (Q := fun e H => e = e3 ∧ H = H3) _ _ _ e2 H2 hex fun m' hm' => by
      have : m' = fin := by simpa using hm'
      subst this
      exact ⟨e3, H3, runs_any _ _ _ _ _ hr, rfl, rfl⟩
    have key := allO_sound (g := 0) hcall hdst (Q := Post lim φ I w a.tmps.size (keys s.loc) .normal ⟨trim e3 s.loc, H3⟩) fin.length l e2 H2 φ2 I2 w2 a2 hA (by rw [hsz]; exact hN) hd2 hE2 hRl fun l' e' H' φ' I' w' a' hk g1 g2 g3 g5 g6 g7 => by
      obtain ⟨k1, rfl, rfl⟩ := hk
      refine ⟨by simpa using k1, ?_⟩
      have ht := trim_ok (runOps_W _ _ _ _ _ hr hW2) g3
      exact ⟨trivial, by rw [g1, hsz], g2, ht.2, φ', I', ht.1, g5, (hX1.trans hXl).trans g6⟩
    rwa [Nat.zero_add] at key
  unfold ledL at h
  split at h
  · rename_i e R m ms hlead
    split at h
    rotate_left
    · cases h
    rename_i e1 H1 hrun
    split at h
    rotate_left
    · cases h
    rename_i halt
    obtain ⟨hsz, hA⟩ := allO_led (P := P) (call := call) (lim := lim) (Q := fun e' H' => (e' = e1 ∧ H' = H1) ∨ (SameUp s.H.length live keep e1 H1 e' H' ∧ lowEq s.H.length H1 H')) hb hlead fun m' hm' => by
      rcases List.mem_cons.1 hm' with h1 | hm''
      · subst h1
        exact ⟨e1, H1, runs_mid hst _ _ _ _ _ (hcalls _ hm') hrun, .inl ⟨rfl, rfl⟩⟩
      · obtain ⟨e', H', q1, q2⟩ := altsL_spec _ halt m' hm''
        exact ⟨e', H', runs_mid hst _ _ _ _ _ (hcalls _ hm') q1, .inr q2⟩
    have hWc : EnvW s.loc (cutE ops live s.loc e1) := ⟨_, rfl⟩
    have key := allO_sound (g := fin.length) hcall hdst (Q := Post lim φ I w a.tmps.size (keys s.loc) .normal s') _ _ _ _ φ I _ a hA hN hdf hE1 hR1 fun l e' H' φ' I' w' a' hk g1 g2 g3 g5 g6 g7 => by
      obtain ⟨k1, e2, k2, k3⟩ := hk
      rcases k3 with ⟨rfl, rfl⟩ | ⟨⟨p, hp⟩, hlo⟩
      · refine last _ _ s' l φ' I' w' a' h hWc k1 g1 g2 (fun t => ?_) (rel_less (H' := keepP keep s.H.length H') g5 (by simp [keepP]) fun b k hb => (keepP_get hb).1) g6
        rw [cut_get]
        split
        · exact (k2.symm.ok g3) t
        · split
          · exact .any _
          · rename_i hd
            rw [g7 t hd]
            exact (hE1 t).mono g6.pre g6.I (hR1.keepI g6)
      · obtain ⟨φ2, q1, q2, q3⟩ := rename_soundL rfl hp hlo hR1 hE1 (k2.symm.ok g3) g5 g6 g7
        exact last _ _ s' l φ2 I' w' a' h hWc k1 g1 g2 q1 q2 q3
    rwa [hsz] at key
  · cases h

theorem led2_sound {call : CallF} {pu : FuncId → Bool} (hm : P.follows .mixedOrders = true) (hcall : CallOK P call) (hpure : PureOK P call pu) {N : Nat} {id : Nat} {ops : Array Oper} {lead mid lead2 : List Nat} {mids : List (List Nat)} {fin live keep : List Nat} {s s' : St} (hdst : dstOK N ops = true) (hb : led2B pu ops lead mid lead2 mids fin = true) {a : Act} (hN : N ≤ a.tmps.size) (hdf : a.defers = []) (hE : EnvOK φ I w s.loc a) (hR : Rel lim φ I w s.H)
    (h : led2 P call lim ops lead mid lead2 mids fin live keep s = some s') : (Code.region id ops true).wp P (Post lim φ I w a.tmps.size (keys s.loc) .normal s') a w := by
  have hst := still_of hpure
  have hR1 := hR.drew (w.drawn + 1)
  have hX1 : Ext lim φ I w φ I { w with drawn := w.drawn + 1 } := Ext.drew (w.drawn + 1)
  have hE1 := hE.ext hR hX1
  have hR2 : Rel s.H.length φ I { w with drawn := w.drawn + 1 } s.H := ext_raise hR1 rfl
  have hW : EnvW s.loc s.loc := ⟨[], rfl⟩
  obtain ⟨hcalls1, hcalls⟩ := led2B_calls hb
  refine wp_region_any hm ?_
  -- behind the middle: what the last ones do
  have last : ∀ (e2 : Env) (H2 : Heap) (s2 : St) (l : Array Bool) (φ2 : Phi) (I2 : Nat → Prop) (w2 : World) (a2 : Act), (runOps P call lim ops (pick ops fin) e2 H2).map (fun x => (⟨trim x.1 s.loc, x.2⟩ : St)) = some s2 → EnvW s.loc e2 →
      exhB ops (fun l'' => (Region.ready .any ops l'').isEmpty) fin.length l [fin] = true → a2.tmps.size = a.tmps.size → a2.defers = [] → EnvOK φ2 I2 w2 e2 a2 → Rel lim φ2 I2 w2 H2 → Ext lim φ I { w with drawn := w.drawn + 1 } φ2 I2 w2 →
      wpAny P .any ops (Post lim φ I w a.tmps.size (keys s.loc) .normal s2) fin.length l a2 w2 := by
    intro e2 H2 s2 l φ2 I2 w2 a2 hr hW2 hex hsz hd2 hE2 hRl hXl
    simp only [Option.map_eq_some_iff] at hr
    obtain ⟨⟨e3, H3⟩, hr, rfl⟩ := hr
    have hA := allO_alts (P := P) (call := call) (lim := lim) (R := []) (Q := fun e H => e = e3 ∧ H = H3) _ _ _ e2 H2 hex fun m' hm' => by
      have : m' = fin := by simpa using hm'
      subst this
      exact ⟨e3, H3, runs_any _ _ _ _ _ hr, rfl, rfl⟩
    have key := allO_sound (g := 0) hcall hdst (Q := Post lim φ I w a.tmps.size (keys s.loc) .normal ⟨trim e3 s.loc, H3⟩) fin.length l e2 H2 φ2 I2 w2 a2 hA (by rw [hsz]; exact hN) hd2 hE2 hRl fun l' e' H' φ' I' w' a' hk g1 g2 g3 g5 g6 g7 => by
      obtain ⟨k1, rfl, rfl⟩ := hk
      refine ⟨by simpa using k1, ?_⟩
      have ht := trim_ok (runOps_W _ _ _ _ _ hr hW2) g3
      exact ⟨trivial, by rw [g1, hsz], g2, ht.2, φ', I', ht.1, g5, (hX1.trans hXl).trans g6⟩
    rwa [Nat.zero_add] at key
  unfold led2 at h
  split at h
  rotate_left
  · cases h
  rename_i e R hlead
  split at h
  rotate_left
  · cases h
  rename_i e1 H1' hrun1
  split at h
  rotate_left
  · cases h
  rename_i hH
  subst hH
  split at h
  rotate_left
  · cases h
  rename_i e2 R2 m ms hlead2
  split at h
  rotate_left
  · cases h
  rename_i e3 H1 hrun
  split at h
  rotate_left
  · cases h
  rename_i halt
  have hRl1 := runLead_low _ _ _ _ _ hlead (fun b hb => by cases hb)
  have hRl := (runLead_low _ _ _ _ _ hlead2 hRl1.2).2
  have hagree : agree s.H.length s.H H1 := runOps_agree hst _ _ _ _ _ (hcalls m (by simp)) (Nat.le_refl _) hrun
  obtain ⟨hsz, hA⟩ := allO_led2 (P := P) (call := call) (lim := s.H.length) (Q := fun e' H' => (e' = e3 ∧ H' = H1) ∨ SameUp s.H.length live keep e3 H1 e' H') hb hlead (runs_low hst hRl _ _ _ _ _ hcalls1 (Nat.le_refl _) hrun1) hlead2 fun m' hm' => by
    rcases List.mem_cons.1 hm' with h1 | hm''
    · subst h1
      exact ⟨e3, H1, runs_low hst hRl _ _ _ _ _ (hcalls _ hm') (Nat.le_refl _) hrun, .inl ⟨rfl, rfl⟩⟩
    · obtain ⟨e', H', q1, q2⟩ := altsOK_spec _ halt m' hm''
      exact ⟨e', H', runs_low hst hRl _ _ _ _ _ (hcalls _ hm') (Nat.le_refl _) q1, .inr q2⟩
  have hWc : EnvW s.loc (cutE ops live s.loc e3) := ⟨_, rfl⟩
  have low : ∀ {φ2 : Phi} {I2 : Nat → Prop} {w2 : World} {H2 : Heap}, Rel s.H.length φ2 I2 w2 H2 → Ext s.H.length φ I { w with drawn := w.drawn + 1 } φ2 I2 w2 → Rel lim φ2 I2 w2 H2 ∧ Ext lim φ I { w with drawn := w.drawn + 1 } φ2 I2 w2 := fun hr hx => ⟨rel_lower hR1 rfl hx.pre hr, ext_lower hR.limle hx⟩
  have key := allO_sound (g := fin.length) hcall hdst (Q := Post lim φ I w a.tmps.size (keys s.loc) .normal s') _ _ _ _ φ I _ a hA hN hdf hE1 hR2 fun l e' H' φ' I' w' a' hk g1 g2 g3 g5 g6 g7 => by
    obtain ⟨k1, e2, k2, k3⟩ := hk
    rcases k3 with ⟨rfl, rfl⟩ | ⟨p, hp⟩
    · have hl := low (rel_less (H' := keepOnly keep s.H.length H') g5 (by simp [keepOnly]) fun b k hb => keep_less hb) g6
      refine last _ _ s' l φ' I' w' a' h hWc k1 g1 g2 (fun t => ?_) hl.1 hl.2
      rw [cut_get]
      split
      · exact (k2.symm.ok g3) t
      · split
        · exact .any _
        · rename_i hd
          rw [g7 t hd]
          exact (hE1 t).mono g6.pre g6.I (hR2.keepI g6)
    · obtain ⟨φ2, q1, q2, q3⟩ := rename_sound rfl hp hagree hR2 hE1 (k2.symm.ok g3) g5 g6 g7
      have hl := low q2 q3
      exact last _ _ s' l φ2 I' w' a' h hWc k1 g1 g2 q1 hl.1 hl.2
  rwa [hsz] at key

theorem led3_sound {call : CallF} {pu : FuncId → Bool} (hm : P.follows .mixedOrders = true) (hcall : CallOK P call) (hpure : PureOK P call pu) {N : Nat} {id : Nat} {ops : Array Oper} {lead mid lead2 : List Nat} {m fin : List Nat} {s s' : St} (hdst : dstOK N ops = true) (hb : led3B pu ops lead mid lead2 m fin = true) {a : Act} (hN : N ≤ a.tmps.size) (hdf : a.defers = []) (hE : EnvOK φ I w s.loc a) (hR : Rel lim φ I w s.H)
    (h : led3 P call lim ops lead mid lead2 m fin s = some s') : (Code.region id ops true).wp P (Post lim φ I w a.tmps.size (keys s.loc) .normal s') a w := by
  have hst := still_of hpure
  have hR1 := hR.drew (w.drawn + 1)
  have hX1 : Ext lim φ I w φ I { w with drawn := w.drawn + 1 } := Ext.drew (w.drawn + 1)
  have hE1 := hE.ext hR hX1
  have hR2 : Rel s.H.length φ I { w with drawn := w.drawn + 1 } s.H := ext_raise hR1 rfl
  have hW : EnvW s.loc s.loc := ⟨[], rfl⟩
  obtain ⟨hcalls1, hcalls⟩ := led3B_calls hb
  refine wp_region_any hm ?_
  -- behind the middle: what the last ones do
  have last : ∀ (e2 : Env) (H2 : Heap) (s2 : St) (l : Array Bool) (φ2 : Phi) (I2 : Nat → Prop) (w2 : World) (a2 : Act), (runOps P call lim ops (pick ops fin) e2 H2).map (fun x => (⟨trim x.1 s.loc, x.2⟩ : St)) = some s2 → EnvW s.loc e2 →
      exhB ops (fun l'' => (Region.ready .any ops l'').isEmpty) fin.length l [fin] = true → a2.tmps.size = a.tmps.size → a2.defers = [] → EnvOK φ2 I2 w2 e2 a2 → Rel lim φ2 I2 w2 H2 → Ext lim φ I { w with drawn := w.drawn + 1 } φ2 I2 w2 →
      wpAny P .any ops (Post lim φ I w a.tmps.size (keys s.loc) .normal s2) fin.length l a2 w2 := by
    intro e2 H2 s2 l φ2 I2 w2 a2 hr hW2 hex hsz hd2 hE2 hRl hXl
    simp only [Option.map_eq_some_iff] at hr
    obtain ⟨⟨e3, H3⟩, hr, rfl⟩ := hr
    have hA := allO_alts (P := P) (call := call) (lim := lim) (R := []) (Q := fun e H => e = e3 ∧ H = H3) _ _ _ e2 H2 hex fun m' hm' => by
      have : m' = fin := by simpa using hm'
      subst this
      exact ⟨e3, H3, runs_any _ _ _ _ _ hr, rfl, rfl⟩
    have key := allO_sound (g := 0) hcall hdst (Q := Post lim φ I w a.tmps.size (keys s.loc) .normal ⟨trim e3 s.loc, H3⟩) fin.length l e2 H2 φ2 I2 w2 a2 hA (by rw [hsz]; exact hN) hd2 hE2 hRl fun l' e' H' φ' I' w' a' hk g1 g2 g3 g5 g6 g7 => by
      obtain ⟨k1, rfl, rfl⟩ := hk
      refine ⟨by simpa using k1, ?_⟩
      have ht := trim_ok (runOps_W _ _ _ _ _ hr hW2) g3
      exact ⟨trivial, by rw [g1, hsz], g2, ht.2, φ', I', ht.1, g5, (hX1.trans hXl).trans g6⟩
    rwa [Nat.zero_add] at key
  unfold led3 at h
  split at h
  rotate_left
  · cases h
  rename_i e R hlead
  split at h
  rotate_left
  · cases h
  rename_i e1 H1 hrun1
  split at h
  rotate_left
  · cases h
  rename_i e2 R2 hlead2
  split at h
  rotate_left
  · cases h
  rename_i e3 H3 hrun2
  have hWe : EnvW s.loc e3 := runMid_W _ _ _ _ _ hrun2 (runLead_W _ _ _ _ _ _ hlead2 (runMid_W _ _ _ _ _ hrun1 (runLead_W _ _ _ _ _ _ hlead hW)))
  obtain ⟨hsz, hA⟩ := allO_led3 (P := P) (call := call) (lim := lim) hb hlead (runs_mid hst _ _ _ _ _ hcalls1 hrun1) hlead2 (runs_mid hst _ _ _ _ _ hcalls hrun2)
  have key := allO_sound (g := fin.length) hcall hdst (Q := Post lim φ I w a.tmps.size (keys s.loc) .normal s') _ _ _ _ φ I _ a hA hN hdf hE1 hR1 fun l e' H' φ' I' w' a' hk g1 g2 g3 g5 g6 g7 => by
    obtain ⟨k1, k2, rfl⟩ := hk
    exact last e3 H' s' l φ' I' w' a' h hWe k1 g1 g2 (k2.symm.ok g3) g5 g6
  rwa [hsz] at key
theorem led4_sound {call : CallF} {pu : FuncId → Bool} (hm : P.follows .mixedOrders = true) (hcall : CallOK P call) (hpure : PureOK P call pu) {N : Nat} {id : Nat} {ops : Array Oper} {lead lead2 : List Nat} {m fin : List Nat} {s s' : St} (hdst : dstOK N ops = true) (hb : led4B pu ops lead lead2 m fin = true) {a : Act} (hN : N ≤ a.tmps.size) (hdf : a.defers = []) (hE : EnvOK φ I w s.loc a) (hR : Rel lim φ I w s.H)
    (h : led4 P call lim ops lead lead2 m fin s = some s') : (Code.region id ops true).wp P (Post lim φ I w a.tmps.size (keys s.loc) .normal s') a w := by
  have hst := still_of hpure
  have hR1 := hR.drew (w.drawn + 1)
  have hX1 : Ext lim φ I w φ I { w with drawn := w.drawn + 1 } := Ext.drew (w.drawn + 1)
  have hE1 := hE.ext hR hX1
  have hR2 : Rel s.H.length φ I { w with drawn := w.drawn + 1 } s.H := ext_raise hR1 rfl
  have hW : EnvW s.loc s.loc := ⟨[], rfl⟩
  have hcalls := led4B_calls hb
  refine wp_region_any hm ?_
  -- behind the middle: what the last ones do
  have last : ∀ (e2 : Env) (H2 : Heap) (s2 : St) (l : Array Bool) (φ2 : Phi) (I2 : Nat → Prop) (w2 : World) (a2 : Act), (runOps P call lim ops (pick ops fin) e2 H2).map (fun x => (⟨trim x.1 s.loc, x.2⟩ : St)) = some s2 → EnvW s.loc e2 →
      exhB ops (fun l'' => (Region.ready .any ops l'').isEmpty) fin.length l [fin] = true → a2.tmps.size = a.tmps.size → a2.defers = [] → EnvOK φ2 I2 w2 e2 a2 → Rel lim φ2 I2 w2 H2 → Ext lim φ I { w with drawn := w.drawn + 1 } φ2 I2 w2 →
      wpAny P .any ops (Post lim φ I w a.tmps.size (keys s.loc) .normal s2) fin.length l a2 w2 := by
    intro e2 H2 s2 l φ2 I2 w2 a2 hr hW2 hex hsz hd2 hE2 hRl hXl
    simp only [Option.map_eq_some_iff] at hr
    obtain ⟨⟨e3, H3⟩, hr, rfl⟩ := hr
    have hA := allO_alts (P := P) (call := call) (lim := lim) (R := []) (Q := fun e H => e = e3 ∧ H = H3) _ _ _ e2 H2 hex fun m' hm' => by
      have : m' = fin := by simpa using hm'
      subst this
      exact ⟨e3, H3, runs_any _ _ _ _ _ hr, rfl, rfl⟩
    have key := allO_sound (g := 0) hcall hdst (Q := Post lim φ I w a.tmps.size (keys s.loc) .normal ⟨trim e3 s.loc, H3⟩) fin.length l e2 H2 φ2 I2 w2 a2 hA (by rw [hsz]; exact hN) hd2 hE2 hRl fun l' e' H' φ' I' w' a' hk g1 g2 g3 g5 g6 g7 => by
      obtain ⟨k1, rfl, rfl⟩ := hk
      refine ⟨by simpa using k1, ?_⟩
      have ht := trim_ok (runOps_W _ _ _ _ _ hr hW2) g3
      exact ⟨trivial, by rw [g1, hsz], g2, ht.2, φ', I', ht.1, g5, (hX1.trans hXl).trans g6⟩
    rwa [Nat.zero_add] at key
  unfold led4 at h
  split at h
  rotate_left
  · cases h
  rename_i e R hlead
  split at h
  rotate_left
  · cases h
  rename_i e2 R2 hlead2
  split at h
  rotate_left
  · cases h
  rename_i e3 H3 hrun2
  have hWe : EnvW s.loc e3 := runMid_W _ _ _ _ _ hrun2 (runLead_W _ _ _ _ _ _ hlead2 (runLead_W _ _ _ _ _ _ hlead hW))
  obtain ⟨hsz, hA⟩ := allO_led4 (P := P) (call := call) (lim := lim) hb hlead hlead2 (runs_mid hst _ _ _ _ _ hcalls hrun2)
  have key := allO_sound (g := fin.length) hcall hdst (Q := Post lim φ I w a.tmps.size (keys s.loc) .normal s') _ _ _ _ φ I _ a hA hN hdf hE1 hR1 fun l e' H' φ' I' w' a' hk g1 g2 g3 g5 g6 g7 => by
    obtain ⟨k1, k2, rfl⟩ := hk
    exact last e3 H' s' l φ' I' w' a' h hWe k1 g1 g2 (k2.symm.ok g3) g5 g6
  rwa [hsz] at key
theorem led23_sound {call : CallF} {pu : FuncId → Bool} (hm : P.follows .mixedOrders = true) (hcall : CallOK P call) (hpure : PureOK P call pu) {N : Nat} {id : Nat} {ops : Array Oper} {lead mid lead2 : List Nat} {mids : List (List Nat)} {fin live keep : List Nat} {s s' : St} (hdst : dstOK N ops = true) (hb : led23B pu ops lead mid lead2 mids fin = true) {a : Act} (hN : N ≤ a.tmps.size) (hdf : a.defers = []) (hE : EnvOK φ I w s.loc a) (hR : Rel lim φ I w s.H)
    (h : led23 P call lim ops lead mid lead2 mids fin live keep s = some s') : (Code.region id ops true).wp P (Post lim φ I w a.tmps.size (keys s.loc) .normal s') a w := by
  unfold led23 at h
  unfold led23B at hb
  split at h
  · simp only at hb
    split at h
    · rename_i h0
      rw [if_pos h0] at hb
      exact led4_sound hm hcall hpure hdst hb hN hdf hE hR h
    · rename_i h0
      rw [if_neg h0] at hb
      exact led3_sound hm hcall hpure hdst hb hN hdf hE hR h
  · rename_i hne
    split at hb
    · rename_i m; exact absurd rfl (hne m)
    · exact led2_sound hm hcall hpure hdst hb hN hdf hE hR h

theorem region_sound {call : CallF} {pu : FuncId → Bool} (hm : P.follows .mixedOrders = true) (hcall : CallOK P call) (hpure : PureOK P call pu) {N : Nat} {draws : List (Nat × Draw)} {id : Nat} {ops : Array Oper} {draw : Bool} {s s' : St}
    (h : region P call pu lim draws id ops draw s = some s') (hc : chk pu N draws (.region id ops draw) = true) {a : Act} (hN : N ≤ a.tmps.size) (hdf : a.defers = []) (hE : EnvOK φ I w s.loc a)  (hR : Rel lim φ I w s.H) :
    (Code.region id ops draw).wp P (Post lim φ I w a.tmps.size (keys s.loc) .normal s') a w := by
  simp only [chk, Bool.and_eq_true] at hc
  obtain ⟨hdst, hdr⟩ := hc
  have hW : EnvW s.loc s.loc := ⟨[], rfl⟩
  unfold region at h
  split at h
  · rename_i hd
    subst hd
    split at h
    · rename_i n hn
      simp only [hn, Bool.not_true, Bool.false_or] at hdr
      split at h
      · rename_i e1 hq
        simp only [Option.map_eq_some_iff] at h
        obtain ⟨⟨e2, H2⟩, hr, rfl⟩ := h
        have hR1 := hR.drew (w.drawn + 1)
        have hX1 : Ext lim φ I w φ I { w with drawn := w.drawn + 1 } := Ext.drew (w.drawn + 1)
        have hE1 := hE.ext hR hX1
        have fin : ∀ (w1 : World), Bel ({ w with drawn := w.drawn + 1 } : World).heap.size { w with drawn := w.drawn + 1 } w1 → ∀ a1 : Act, a1.tmps.size = a.tmps.size → a1.defers = [] → EnvOK φ I { w with drawn := w.drawn + 1 } e1 a1 → EnvW s.loc e1 →
            wpList P ops (Post lim φ I w a.tmps.size (keys s.loc) .normal ⟨trim e2 s.loc, H2⟩) (ops.toList.drop n) a1 w1 := by
          intro w1 hb a1 h1 h2 h3 h4
          have hR2 := hR1.down hb
          have hX2 : Ext lim φ I { w with drawn := w.drawn + 1 } φ I w1 := ⟨List.prefix_refl _, fun _ h => h, fun k hk _ => hb.block k hk, fun b L _ hL => hb.block _ (hR1.disj b L hL).2, fun b L hL => .inr ⟨b, L, hL, rfl⟩, hb.os, hb.tape, hb.output, hb.size⟩
          refine runOps_sound hcall hdst (ops.toList.drop n) (fun o ho => List.mem_of_mem_drop ho) _ _ _ _ φ I w1 a1 hr (by rw [h1]; exact hN) h2 (h3.ext hR1 hX2) h4 hR2 fun φ' I' w' a' g1 g2 g3 g4 g5 g6 => ?_
          have ht := trim_ok g4 g3
          exact ⟨trivial, by rw [g1, h1], g2, ht.2, φ', I', ht.1, g5, (hX1.trans hX2).trans g6⟩
        unfold drawOk at hdr
        split at hdr
        · rename_i hsz
          refine wp_region_quiet (C := fun w' => Bel ({ w with drawn := w.drawn + 1 } : World).heap.size { w with drawn := w.drawn + 1 } w') hm hdr (Bel.refl _ _) ?_
          have htk : ops.toList.take n = ops.toList := by rw [List.take_of_length_le]; simp; omega
          have hdp : ops.toList.drop n = [] := by apply List.drop_of_length_le; simp; omega
          rw [htk] at hq
          refine runQuiet_sound (loc := s.loc) hpure hcall hdst hR1 ops.toList (fun o ho => ho) _ _ a hq hN hdf hE1 hW fun a1 h1 h2 h3 h4 w1 hb => ?_
          have := fin w1 hb a1 h1 h2 h3 h4
          rw [hdp] at this
          exact this
        · refine region_quiet_tail (C := fun w' => Bel ({ w with drawn := w.drawn + 1 } : World).heap.size { w with drawn := w.drawn + 1 } w') n hm hdr (Bel.refl _ _) ?_
          exact runQuiet_sound (loc := s.loc) hpure hcall hdst hR1 (ops.toList.take n) (fun o ho => List.mem_of_mem_take ho) _ _ a hq hN hdf hE1 hW fun a1 h1 h2 h3 h4 w1 hb => fin w1 hb a1 h1 h2 h3 h4
      · cases h
    · rename_i lead mids fin live keep hn
      simp only [hn, Bool.not_true, Bool.false_or] at hdr
      exact led_sound hm hcall hpure hdst hdr hN hdf hE hR h
    · rename_i lead mid lead2 mids fin live keep hn
      simp only [hn, Bool.not_true, Bool.false_or] at hdr
      exact led23_sound hm hcall hpure hdst hdr hN hdf hE hR h
    · rename_i lead mids fin live keep hn
      simp only [hn, Bool.not_true, Bool.false_or] at hdr
      exact ledL_sound hm hcall hpure hdst hdr hN hdf hE hR h
    · cases h
  · rename_i hd
    have hd' : draw = false := by simpa using hd
    subst hd'
    simp only [Option.map_eq_some_iff] at h
    obtain ⟨⟨e2, H2⟩, hr, rfl⟩ := h
    refine wp_region_list ?_
    refine runOps_sound hcall hdst ops.toList (fun o ho => ho) _ _ _ _ φ I w a hr hN hdf hE hW hR fun φ' I' w' a' g1 g2 g3 g4 g5 g6 => ?_
    have ht := trim_ok g4 g3
    exact ⟨trivial, g1, g2, ht.2, φ', I', ht.1, g5, g6⟩

theorem exec_sound {call : CallF} {pu : FuncId → Bool} (hm : P.follows .mixedOrders = true) (hcall : CallOK P call) (hpure : PureOK P call pu) {N : Nat} {draws : List (Nat × Draw)} : ∀ (n : Nat) (c : Code) (s s' : St) (e : Ex),
    exec P call pu lim draws n c s = some (e, s') → chk pu N draws c = true → ∀ (φ : Phi) (I : Nat → Prop) (w : World) (a : Act), N ≤ a.tmps.size → a.defers = [] → EnvOK φ I w s.loc a → Rel lim φ I w s.H →
    c.wp P (Post lim φ I w a.tmps.size (keys s.loc) e s') a w := by
  intro n
  induction n using Nat.strongRecOn with
  | _ n ih =>
    intro c s s' e h hc φ I w a hN hdf hE hR
    cases n with
    | zero => cases h
    | succ n =>
      have same : Post lim φ I w a.tmps.size (keys s.loc) .normal s .normal a w := ⟨trivial, rfl, hdf, rfl, φ, I, hE, hR, Ext.refl⟩
      have chain : ∀ {e1 : Ex} {s1 : St} {x : Exit} {a1 : Act} {w1 : World} {c' : Code} {m : Nat}, m < n + 1 → Post lim φ I w a.tmps.size (keys s.loc) e1 s1 x a1 w1 → exec P call pu lim draws m c' s1 = some (e, s') → chk pu N draws c' = true →
          c'.wp P (Post lim φ I w a.tmps.size (keys s.loc) e s') a1 w1 := by
        intro e1 s1 x a1 w1 c' m hm' ⟨h1, h2, h3, h4, φ1, I1, h5, h6, h7⟩ hex hck
        refine wp_mono (ih m hm' c' s1 s' e hex hck φ1 I1 w1 a1 (by rw [h2]; exact hN) h3 h5 h6) fun x' a' w' hp => ?_
        obtain ⟨g1, g2, g3, g4, φ2, I2, g5, g6, g7⟩ := hp
        exact ⟨g1, by rw [g2, h2], g3, by rw [g4, h4], φ2, I2, g5, g6, h7.trans g7⟩
      cases c <;> simp only [exec] at h <;> try (cases h; done)
      case skip => cases h; exact wp_skip same
      case region id ops draw =>
        simp only [Option.map_eq_some_iff] at h
        obtain ⟨s1, hr, he⟩ := h
        cases he
        exact region_sound hm hcall hpure hr hc hN hdf hE hR
      case seq x y =>
        simp only [chk, Bool.and_eq_true] at hc
        refine wp_seq ?_
        split at h
        · rename_i s1 h1
          refine wp_mono (ih n (by omega) x s s1 .normal h1 hc.1 φ I w a hN hdf hE hR) fun x' a1 w1 hp => ?_
          have hx := hp.1
          cases x' <;> simp only [exM] at hx
          exact chain (by omega) hp h hc.2
        · rename_i hne
          refine wp_mono (ih n (by omega) x s s' e h hc.1 φ I w a hN hdf hE hR) fun x' a1 w1 hp => ?_
          have hx := hp.1
          cases e with
          | normal => exact absurd h (hne s')
          | exit i => cases x' <;> simp only [exM] at hx; exact hp
          | ret => cases x' <;> simp only [exM] at hx; exact hp
      case cond o x y =>
        simp only [chk, Bool.and_eq_true] at hc
        split at h
        · rename_i t ht
          have hD := env_ev hE o
          rw [ht] at hD
          have hv := den_v hD
          cases t with
          | true => exact wp_cond_true hv (ih n (by omega) x s s' e (by simpa using h) hc.1 φ I w a hN hdf hE hR)
          | false => exact wp_cond_false hv (ih n (by omega) y s s' e (by simpa using h) hc.2 φ I w a hN hdf hE hR)
        · cases h
      case block id b =>
        simp only [chk] at hc
        refine wp_block ?_
        split at h
        · rename_i j s1 h1
          refine wp_mono (ih n (by omega) b s s1 (.exit j) h1 hc φ I w a hN hdf hE hR) fun x' a1 w1 hp => ?_
          have hx := hp.1
          cases x' <;> simp only [exM] at hx
          subst hx
          simp only [Exit.inBlock]
          split at h
          · rename_i hj
            cases h
            rw [if_pos hj]
            exact ⟨trivial, hp.2⟩
          · rename_i hj
            cases h
            rw [if_neg hj]
            exact hp
        · rename_i hne
          refine wp_mono (ih n (by omega) b s s' e h hc φ I w a hN hdf hE hR) fun x' a1 w1 hp => ?_
          have hx := hp.1
          cases e with
          | normal => cases x' <;> simp only [exM] at hx; exact hp
          | exit i => exact absurd h (hne i s')
          | ret => cases x' <;> simp only [exM] at hx; exact hp
      case loop b =>
        simp only [chk] at hc
        have key : ∀ (m : Nat), m ≤ n + 1 → ∀ (s1 : St) (x : Exit) (a1 : Act) (w1 : World), exec P call pu lim draws m (.loop b) s1 = some (e, s') → Post lim φ I w a.tmps.size (keys s.loc) .normal s1 x a1 w1 →
            Code.rounds P b (Post lim φ I w a.tmps.size (keys s.loc) e s') m a1 w1 := by
          intro m
          induction m with
          | zero => intro _ s1 x a1 w1 h _; cases h
          | succ m ihm =>
            intro hle s1 x a1 w1 h hp
            simp only [exec] at h
            rw [rounds_succ]
            have body : ∀ (e2 : Ex) (s2 : St), exec P call pu lim draws m b s1 = some (e2, s2) → b.wp P (Post lim φ I w a.tmps.size (keys s.loc) e2 s2) a1 w1 := by
              intro e2 s2 hb
              obtain ⟨-, h2, h3, h4, φ1, I1, h5, h6, h7⟩ := hp
              refine wp_mono (ih m (by omega) b s1 s2 e2 hb hc φ1 I1 w1 a1 (by rw [h2]; exact hN) h3 h5 h6) fun x' a' w' hp' => ?_
              obtain ⟨g1, g2, g3, g4, φ2, I2, g5, g6, g7⟩ := hp'
              exact ⟨g1, by rw [g2, h2], g3, by rw [g4, h4], φ2, I2, g5, g6, h7.trans g7⟩
            split at h
            · rename_i s2 hb
              refine wp_mono (body .normal s2 hb) fun x' a' w' hp' => ?_
              have hx := hp'.1
              cases x' <;> simp only [exM] at hx
              exact ihm (by omega) s2 .normal a' w' h hp'
            · rename_i hne
              refine wp_mono (body e s' h) fun x' a' w' hp' => ?_
              have hx := hp'.1
              cases e with
              | normal => exact absurd h (hne s')
              | exit i => cases x' <;> simp only [exM] at hx; exact hp'
              | ret => cases x' <;> simp only [exM] at hx; exact hp'
        exact wp_loop_rounds (n + 1) (key (n + 1) (Nat.le_refl _) s .normal a w (by simp only [exec]; exact h) same)
      case exit id => cases h; exact wp_exit ⟨rfl, same.2⟩
      case ret => cases h; exact wp_ret ⟨trivial, same.2⟩


/-! ### What a call hands back -/
theorem frz_sound {L : Nat} {H1 : Heap} (hp : φ <+: φ') (hl : φ.length = L) (hR : Rel L φ' I' w' H1) (hI : ∀ k, I' k → I'' k) (hN : ∀ (b : Nat) (M : Loc), L ≤ b → φ'[b]? = some (some M) → I'' M.k) :
    ∀ (d : Nat) (x : AV) (y : Value), Den φ' I' w' x y → Den φ I'' w' (frz H1 L d x) y := by
  have low : ∀ {b : Nat} {o : Option Loc}, b < L → φ'[b]? = some o → φ[b]? = some o := by
    intro b o hb h
    obtain ⟨r, rfl⟩ := hp
    rwa [List.getElem?_append_left (by omega)] at h
  intro d
  induction d with
  | zero => intro x y _; exact .any _
  | succ d ih =>
    intro x y h
    cases h with
    | any y => exact .any _
    | v y => exact .v _
    | sl0 l p => exact .sl0 _ _
    | sl n l c a Y hn hc ha hIa hY hD =>
      refine .sl _ _ c a Y hn hc ha (hI _ hIa) (fun j x hx => ?_) (fun j x hx => ?_)
      · simp at hx
        obtain ⟨z, h1, rfl⟩ := hx
        exact hY j z h1
      · simp at hx
        obtain ⟨z, h1, rfl⟩ := hx
        exact ih _ _ (hD j z h1)
    | own0 z b o hb =>
      simp only [frz]
      split
      · rename_i hlt; exact .own0 _ _ _ (low hlt hb)
      · split
        · exact .sl0 _ _
        · exact .any _
    | own z b o n c off M hM hn hc ho =>
      simp only [frz]
      split
      · rename_i hlt; exact .own _ _ _ _ c off M (low hlt hM) hn hc ho
      · rename_i hge
        split
        · rename_i k hk
          rcases hR.blk b k hk with ⟨h1, h2⟩ | ⟨M', C, T, h1, h2, h3, h5⟩
          · rw [hM] at h1; cases h1
          · rw [hM] at h1; cases h1
            by_cases hc0 : c = 0
            · have hn0 : n = 0 := by omega
              subst hn0; subst hc0
              exact .sl0 _ _
            · obtain ⟨rfl, -⟩ := ho.resolve_left hc0
              refine .sl _ _ c ⟨M.k, M.base + o, none⟩ (fun j => C.getD (M.base + (o + j)) undef) hn hc rfl (hN b M (by omega) hM) (fun j x hx => ?_) (fun j x hx => ?_)
              · simp at hx
                obtain ⟨z, g1, rfl⟩ := hx
                obtain ⟨y, g2, g3⟩ := h5.2 _ _ g1
                simp only
                rw [cell_of_row w' M.k _ C T _ h2, Nat.add_assoc, g2]
                simp [Array.getD_eq_getD_getElem?, g2]
              · simp at hx
                obtain ⟨z, g1, rfl⟩ := hx
                obtain ⟨y, g2, g3⟩ := h5.2 _ _ g1
                have : C.getD (M.base + (o + j)) undef = y := by simp [Array.getD_eq_getD_getElem?, g2]
                rw [this]
                exact ih _ _ g3
        · exact .any _
    | ptr b o M hM =>
      simp only [frz]
      split
      · rename_i hlt; exact .ptr _ _ M (low hlt hM)
      · exact .any _
    | ele l o a Y ha hIa hY hD => exact .any _
    | agg l cs hs hD =>
      refine .agg _ cs (by simpa using hs) fun j x y hx hy => ?_
      simp at hx
      obtain ⟨z, h1, rfl⟩ := hx
      exact ih _ _ (hD j z y h1 hy)
    | tup l cs hs hD =>
      refine .tup _ cs (by simpa using hs) fun j x y hx hy => ?_
      simp at hx
      obtain ⟨z, h1, rfl⟩ := hx
      exact ih _ _ (hD j z y h1 hy)
    | clo f l cs hs hD => exact .any _

theorem Rel.moreI (hR : Rel lim φ I w H) (hI : ∀ k, I k → I' k) (hd : ∀ (b : Nat) (L : Loc), φ[b]? = some (some L) → ¬ I' L.k) (hl : ∀ k, I' k → k < w.heap.size) : Rel lim φ I' w H where
  len := hR.len
  tab := hR.tab_to hI (fun _ _ => rfl)
  limle := hR.limle
  blk := fun b k hk => by
    rcases hR.blk b k hk with h | ⟨L, C, T, h1, h2, h3, h5⟩
    · exact .inl h
    · exact .inr ⟨L, C, T, h1, h2, h3, h5.1, fun j x hx => by obtain ⟨y, e1, e2⟩ := h5.2 j x hx; exact ⟨y, e1, e2.mono (List.prefix_refl _) hI (fun _ _ => rfl)⟩⟩
  disj := fun b L h => ⟨hd b L h, (hR.disj b L h).2⟩
  inj := hR.inj
  sep := hR.sep
  Ilt := hl

theorem resAll_sound (hR : Rel lim φ I w H) {e : Env} {a : Act} (hE : EnvOK φ I w e a) : ∀ (rs : List ResultVar) (l : List AV), resAll P e H rs = some l →
    ∃ vs : List Value, (rs.mapM fun | .tmp t => pure (a.tmps.getD t undef) | .cell p t => do loadVar t (← asAddr (a.tmps.getD p undef)) : Sem (List Value)).run P w = .ok vs w ∧ vs.length = l.length ∧
      ∀ (j : Nat) (x : AV) (y : Value), l[j]? = some x → vs[j]? = some y → Den φ I w x y
  | [], l, h => by simp [resAll] at h; subst h; exact ⟨[], by simp, rfl, fun j x y hx => by simp at hx⟩
  | r :: rs, l, h => by
    simp only [resAll] at h
    split at h
    · rename_i x l' hx hl
      cases h
      obtain ⟨vs, h1, h2, h3⟩ := resAll_sound hR hE rs l' hl
      have one : ∃ y, ((match r with | .tmp t => pure (a.tmps.getD t undef) | .cell p t => do loadVar t (← asAddr (a.tmps.getD p undef)) : Sem Value)).run P w = .ok y w ∧ Den φ I w x y := by
        cases r with
        | tmp t =>
          simp [resA] at hx
          subst hx
          exact ⟨_, by simp, hE t⟩
        | cell p t =>
          simp only [resA] at hx
          obtain ⟨y, g1, g2⟩ := load_sound hR hx (hE p)
          have g1' := g1 w (fun _ _ => rfl)
          have hp := hE p
          refine ⟨y, ?_, g2⟩
          unfold loadV at hx
          split at hx
          · rename_i ty b o ht hb
            rw [hb] at hp
            generalize hv : a.tmps.getD p undef = v at hp g1'
            cases hp with
            | ptr _ _ L hL =>
              show ((do loadVar t (← asAddr (a.tmps.getD p undef)) : Sem Value)).run P w = .ok y w
              rw [hv]
              simpa [asAddr, Instr.loadAt, Instr.sureAddr] using g1'
          · rename_i ty l o ht hb
            rw [hb] at hp
            generalize hv : a.tmps.getD p undef = v at hp g1'
            cases hp with
            | ele _ _ ad Y ha hI hY hD =>
              show ((do loadVar t (← asAddr (a.tmps.getD p undef)) : Sem Value)).run P w = .ok y w
              rw [hv]
              simpa [asAddr, Instr.loadAt, Instr.sureAddr] using g1'
          · cases hx
      obtain ⟨y, g1, g2⟩ := one
      refine ⟨y :: vs, ?_, by simp [h2], fun j z u hz hu => ?_⟩
      · rw [List.mapM_cons]
        simp only [Sem.run_bind]
        rw [g1]
        simp only [Result.andThen_ok]
        rw [h1]
        simp
      · cases j with
        | zero => simp at hz hu; subst hz; subst hu; exact g2
        | succ j => simp at hz hu; exact h3 j z u hz hu
    · cases h

theorem results_sound (hR : Rel lim φ I w H) {e : Env} {a : Act} (hE : EnvOK φ I w e a) {fn : Func} {l : List AV} (h : resAll P e H fn.results.toList = some l) : ∃ v, (results fn a.tmps).run P w = .ok v w ∧ Den φ I w (oneOr l) v := by
  obtain ⟨vs, h1, h2, h3⟩ := resAll_sound hR hE _ _ h
  have hrun : (fn.results.mapM fun | .tmp t => pure (a.tmps.getD t undef) | .cell p t => do loadVar t (← asAddr (a.tmps.getD p undef)) : Sem (Array Value)).run P w = .ok vs.toArray w := by
    rw [Array.mapM_eq_mapM_toList]
    simp only [Sem.run_map, h1, Result.andThen_ok]
  have hun : results fn a.tmps = (do
      let vs ← (fn.results.mapM fun | .tmp t => pure (a.tmps.getD t undef) | .cell p t => do loadVar t (← asAddr (a.tmps.getD p undef)) : Sem (Array Value))
      pure (if h : vs.size = 1 then vs[0] else .tuple vs)) := rfl
  rw [hun, Sem.run_bind, hrun]
  simp only [Result.andThen_ok]
  match l, vs, h2, h3 with
  | [x], [y], _, h3 => exact ⟨y, by simp, h3 0 x y rfl rfl⟩
  | [], [], _, h3 => exact ⟨.tuple #[], by simp, .tup _ _ rfl (fun j x y hx => by simp at hx)⟩
  | x :: x' :: l, y :: y' :: vs, h2, h3 =>
    refine ⟨.tuple (y :: y' :: vs).toArray, by simp, .tup _ _ (by simpa using h2) fun j a b ha hb => h3 j a b ha (by simpa using hb)⟩

structure FnOK (P : Program) (pu : FuncId → Bool) (f : FuncId) (fa : FnA) : Prop where
  fn : P.funcs[f]? = some fa.fn
  name : (fa.fn.name == "runtime.NumGoroutine") = false
  body : ∀ c, fa.fn.body = some c → chk pu fa.fn.ntmps fa.draws c = true

structure SigOK (S : Sig) : Prop where
  mixed : S.P.follows .mixedOrders = true
  fns : ∀ f fa, S.fns f = some fa → FnOK S.P S.pure f fa
  fz : ∀ f, S.fz f = true → S.own f = false
  prim : ∀ f p, S.prim f = some p → S.own f = false ∧ ∀ args H r, p args H = some r → ∀ lim φ I w (cs : Array Value), Tb w → Rel lim φ I w H → DL φ I w args cs → CallW S.P f cs w (PurePost φ I w lim H r)
  eff : ∀ f p, S.eff f = some p → S.own f = true ∧ ∀ lim args H r H', p lim args H = some (r, H') → ∀ φ I w (cs : Array Value), Tb w → Rel lim φ I w H → DL φ I w args cs → Calls S.P f cs w (CallPost lim φ I w H' r) ∧ Named S.P f

theorem env0_get (keep : List Nat) (args : List AV) (t : Nat) : (env0 keep args).get t = .any ∨ (env0 keep args).get t = args[t]?.getD .any := by
  unfold env0
  induction keep with
  | nil => left; rfl
  | cons k ks ih =>
    simp only [List.map_cons, Env.get]
    split
    · subst_vars; right; rfl
    · exact ih

theorem keys_env0 (keep : List Nat) (args : List AV) : keys (env0 keep args) = keep := by
  simp [keys, env0, Function.comp_def]

theorem env0_ok {keep : List Nat} {args : List AV} {cs : Array Value} {n : Nat} (h : DL φ I w args cs) : EnvOK φ I w (env0 keep args) { tmps := cs ++ Array.replicate n undef, defers := [] } := by
  intro t
  rcases env0_get keep args t with h1 | h1
  · rw [h1]; exact .any _
  · rw [h1]
    cases hx : args[t]? with
    | none => exact .any _
    | some x =>
      have ht : t < cs.size := by rw [h.1]; exact (List.getElem?_eq_some_iff.1 hx).1
      refine h.2 t x _ hx ?_
      simp [Array.getElem?_append_left ht, ht]

theorem PurePost.call {f : FuncId} {r : AV} {e : Ending} (hR : Rel lim φ I w H) (h : PurePost φ I w lim H r e w') : CallPost lim φ I w H r e w' := by
  obtain ⟨x, I', rfl, h1, h2, h3, h4⟩ := h
  exact ⟨x, φ, I', rfl, h1, h4, List.prefix_refl _, h2, fun k hk _ => h3.block k hk, fun b L _ hL => h3.block _ (hR.disj b L hL).2, fun b L hL => .inr ⟨b, L, hL, rfl⟩, h3.os, h3.tape, h3.output, h3.size⟩

/-- **Soundness of calls.** -/
theorem exact_den {r : AV} (h : exacts r = true) {x : Value} (hd : Den φ I w r x) : Den φ' I' w' r x := by
  unfold exacts at h
  split at h
  · have := den_v hd
    subst this
    exact .v _
  · cases hd with
    | tup _ ds hs hD =>
      refine .tup _ _ hs fun j a y ha hy => ?_
      have he := List.all_eq_true.1 h a (List.mem_of_getElem? ha)
      have hdd := hD j a y ha hy
      cases a <;> simp [exact] at he
      have := den_v hdd
      subst this
      exact .v _
  · cases hd with
    | agg _ ds hs hD =>
      refine .agg _ _ hs fun j a y ha hy => ?_
      have he := List.all_eq_true.1 h a (List.mem_of_getElem? ha)
      have hdd := hD j a y ha hy
      cases a <;> simp [exact] at he
      have := den_v hdd
      subst this
      exact .v _
  · cases h
theorem acall_sound {S : Sig} (hS : SigOK S) : ∀ n, CallOK S.P (acall S n) ∧ PureOK S.P (acall S n) S.pure := by
  intro n
  induction n with
  | zero => exact ⟨(fun _ _ _ _ _ _ h => by cases h), (fun _ _ _ _ _ _ _ h => by cases h)⟩
  | succ n ih =>
    have main : ∀ lim f args H r H', acall S (n + 1) lim f args H = some (r, H') →
        (S.own f = true → ∀ φ I w (cs : Array Value), Rel lim φ I w H → DL φ I w args cs → CallW S.P f cs w (CallPost lim φ I w H' r)) ∧
        (S.own f = false → H' = H ∧ ∀ φ I w (cs : Array Value), Rel lim φ I w H → DL φ I w args cs → CallW S.P f cs w (PurePost φ I w lim H r)) := by
      intro lim f args H r H' h
      simp only [acall] at h
      split at h
      · rename_i p hp
        obtain ⟨ho, hpp⟩ := hS.prim f p hp
        simp only [Option.map_eq_some_iff] at h
        obtain ⟨r', hr, he⟩ := h
        cases he
        have h2 := hpp args H r hr
        exact ⟨(fun h => by rw [ho] at h; cases h), fun _ => ⟨rfl, fun φ I w cs hR hD => h2 lim φ I w cs hR.tab_here hR hD⟩⟩
      · split at h
        · rename_i fa hf
          have hF := hS.fns f fa hf
          split at h
          · rename_i c hb
            have hN : Named S.P f := ⟨fa.fn, hF.fn, hF.name, by rw [hb]; rfl⟩
            have hck := hF.body c hb
            have core : ∀ (lim : Nat) (args : List AV) (H : Heap) (r : AV) (H' : Heap), finish S false fa H (exec S.P (acall S n) S.pure H.length fa.draws n c ⟨env0 fa.keep args, H⟩) = some (r, H') →
                H' = H ∧ ∀ φ I w (cs : Array Value), Rel lim φ I w H → DL φ I w args cs → Calls S.P f cs w (PurePost φ I w lim H r) := by
              intro lim args H r H' h
              unfold finish at h
              split at h
              · cases h
              · cases h
              · rename_i e s hne hex
                split at h
                · rename_i l hl
                  simp only [Bool.false_eq_true, if_false] at h
                  cases h
                  refine ⟨rfl, fun φ I w cs hR hD => ?_⟩
                  have hR0 : Rel H.length φ I w H := ⟨hR.len, Nat.le_refl _, hR.blk, hR.disj, hR.inj, fun b b' L L' hb hb' hL hL' => by
                    have h1 := (List.getElem?_eq_some_iff.1 hL').1
                    rw [hR.len] at h1; omega, hR.Ilt, hR.tab⟩
                  refine calls_of_wp hF.fn hb ?_
                  refine wp_mono (exec_sound hS.mixed ih.1 ih.2 n c _ s e hex hck φ I w { tmps := cs ++ Array.replicate (fa.fn.ntmps - cs.size) undef, defers := [] } (by simp; omega) rfl (env0_ok hD) hR0) fun x a' w' hp => ?_
                  obtain ⟨g1, g2, g3, g4, φ', I', g5, g6, g7⟩ := hp
                  obtain ⟨v, v1, v2⟩ := results_sound g6 g5 hl
                  have hbel : Bel w.heap.size w w' := by
                    refine ⟨g7.os, g7.tape, g7.output, g7.size, fun k hk => ?_⟩
                    by_cases hex : ∃ (b : Nat) (L : Loc), φ[b]? = some (some L) ∧ L.k = k
                    · obtain ⟨b, L, hL, rfl⟩ := hex
                      exact g7.lo b L (by rw [← hR.len]; exact (List.getElem?_eq_some_iff.1 hL).1) hL
                    · exact g7.old k hk fun b L hL he => hex ⟨b, L, hL, he⟩
                  have hpost : PurePost φ I w lim H (frz s.H H.length 8 (oneOr l)) (.returned v) w' := by
                    refine ⟨v, fun k => I' k ∨ ∃ (b : Nat) (M : Loc), H.length ≤ b ∧ φ'[b]? = some (some M) ∧ M.k = k, rfl, ?_, fun k hk => .inl (g7.I k hk), hbel, ?_⟩
                    · exact frz_sound (I'' := fun k => I' k ∨ ∃ (b : Nat) (M : Loc), H.length ≤ b ∧ φ'[b]? = some (some M) ∧ M.k = k) g7.pre hR.len g6 (fun k hk => .inl hk) (fun b M hb hM => .inr ⟨b, M, hb, hM, rfl⟩) 8 _ _ v2
                    · refine (hR.down hbel).moreI (fun k hk => .inl (g7.I k hk)) (fun b L hL hh => ?_) (fun k hk => ?_)
                      · have hL' := pre_get g7.pre hL
                        rcases hh with hh | ⟨b', M, hb', hM, he⟩
                        · exact (g6.disj b L hL').1 hh
                        · exact g6.sep b b' L M (by rw [← hR.len]; exact (List.getElem?_eq_some_iff.1 hL).1) hb' hL' hM he.symm
                      · rcases hk with hk | ⟨b', M, hb', hM, rfl⟩
                        · exact g6.Ilt k hk
                        · exact (g6.disj b' M hM).2
                  cases e with
                  | exit i => exact absurd rfl (hne i)
                  | normal => cases x <;> simp only [exM] at g1; exact ⟨g3, v, v1, hpost⟩
                  | ret => cases x <;> simp only [exM] at g1; exact ⟨g3, v, v1, hpost⟩
                · cases h
            by_cases hz : S.fz f = true
            · simp only [hz, if_true] at h
              have ho := hS.fz f hz
              refine ⟨(fun h => by rw [ho] at h; cases h), fun _ => ?_⟩
              split at h
              · rename_i r0 H0 hfin
                split at h
                · rename_i hex
                  cases h
                  obtain ⟨-, hC⟩ := core 0 _ [] _ _ hfin
                  refine ⟨rfl, fun φ I w cs hR hD => ?_⟩
                  have hR0 : Rel 0 φ I w H := ⟨hR.len, Nat.zero_le _, hR.blk, hR.disj, hR.inj, fun b _ _ _ hb => absurd hb (Nat.not_lt_zero _), hR.Ilt, hR.tab⟩
                  have hRE : Rel 0 [] (fun k => I k ∨ ∃ (b : Nat) (M : Loc), φ[b]? = some (some M) ∧ M.k = k) w [] :=
                    ⟨rfl, Nat.le_refl _, fun b k hk => by simp [hget] at hk, fun b L h => by simp at h, fun b b' k k' L L' hk => by simp [hget] at hk, fun b b' L L' hb => by omega, fun k hk => by
                      rcases hk with hk | ⟨b, M, hM, rfl⟩
                      · exact hR.Ilt k hk
                      · exact (hR.disj b M hM).2, hR.tab_to (fun k hk => .inl hk) (fun _ _ => rfl)⟩
                  have hD' : DL [] (fun k => I k ∨ ∃ (b : Nat) (M : Loc), φ[b]? = some (some M) ∧ M.k = k) w (args.map (frz H 0 8)) cs := ⟨by rw [List.length_map]; exact hD.1, fun j x y hx hy => by
                    rw [List.getElem?_map, Option.map_eq_some_iff] at hx
                    obtain ⟨x0, hx0, rfl⟩ := hx
                    exact frz_sound (φ := []) (φ' := φ) (I' := I) List.nil_prefix rfl hR0 (fun k hk => .inl hk) (fun b M _ hM => .inr ⟨b, M, hM, rfl⟩) 8 x0 y (hD.2 j x0 y hx0 hy)⟩
                  refine .inl ⟨hN, (hC [] _ w cs hRE hD').mono fun e w' hp => ?_⟩
                  obtain ⟨x, I', he, g1, g2, g3, g4⟩ := hp
                  exact ⟨x, I, he, exact_den hex g1, fun k hk => hk, g3, hR.down g3⟩
                · cases h
              · cases h
            simp only [hz, Bool.false_eq_true, if_false] at h
            refine ⟨fun ho => ?_, fun ho => ?_⟩
            · intro φ I w cs hR hD
              refine .inl ⟨hN, ?_⟩
              simp only [ho, if_true] at h
              unfold finish at h
              split at h
              · cases h
              · cases h
              · rename_i e s hne hex
                split at h
                · rename_i l hl
                  simp only [if_true] at h
                  cases h
                  refine calls_of_wp hF.fn hb ?_
                  refine wp_mono (exec_sound hS.mixed ih.1 ih.2 n c _ s e hex hck φ I w { tmps := cs ++ Array.replicate (fa.fn.ntmps - cs.size) undef, defers := [] } (by simp; omega) rfl (env0_ok hD) hR) fun x a' w' hp => ?_
                  obtain ⟨g1, g2, g3, g4, φ', I', g5, g6, g7⟩ := hp
                  obtain ⟨v, v1, v2⟩ := results_sound g6 g5 hl
                  cases e with
                  | exit i => exact absurd rfl (hne i)
                  | normal => cases x <;> simp only [exM] at g1; exact ⟨g3, v, v1, v, φ', I', rfl, v2, g6, g7⟩
                  | ret => cases x <;> simp only [exM] at g1; exact ⟨g3, v, v1, v, φ', I', rfl, v2, g6, g7⟩
                · cases h
            · simp only [ho, Bool.false_eq_true, if_false] at h
              obtain ⟨he, hC⟩ := core lim args H r H' h
              exact ⟨he, fun φ I w cs hR hD => .inl ⟨hN, hC φ I w cs hR hD⟩⟩
          · cases h
        · split at h
          · rename_i p hp
            obtain ⟨ho, hpp⟩ := hS.eff f p hp
            exact ⟨fun _ φ I w cs hR hD => let ⟨h1, h2⟩ := hpp lim args H r H' h φ I w cs hR.tab_here hR hD; .inl ⟨h2, h1⟩, (fun h => by rw [ho] at h; cases h)⟩
          · cases h
    refine ⟨fun lim f args H r H' h => ?_, fun lim f args H r H' hpu h => ?_⟩
    · obtain ⟨h2, h3⟩ := main lim f args H r H' h
      intro φ I w cs hR hD
      cases ho : S.own f with
      | true => exact h2 ho φ I w cs hR hD
      | false =>
        obtain ⟨rfl, h4⟩ := h3 ho
        exact (h4 φ I w cs hR hD).mono fun e w' hp => PurePost.call (f := f) hR hp
    · obtain ⟨h2, h3⟩ := main lim f args H r H' h
      exact h3 (by simpa [Sig.pure] using hpu)

/-- What the abstract machine answers for data that came in, the model answers, and nothing that was there is written. -/
theorem calls_of_acall' {S : Sig} (hS : SigOK S) {n : Nat} {f : FuncId} {args : List AV} {r : AV} {H' : Heap} (hf : S.own f = false) (h : acall S n 0 f args [] = some (r, H')) {w : World} {cs : Array Value}
    (hD : DL [] (fun k => k < w.heap.size) w args cs) (hT : ∀ w1 : World, (∀ k, k < w.heap.size → w1.heap[k]? = w.heap[k]?) → Tb w1 := by intro _ _; exact trivial) (hpr : S.prim f = none := by rfl) : Calls S.P f cs w fun e w' => ∃ x I', e = .returned x ∧ Den [] I' w' r x ∧ Bel w.heap.size w w' := by
  have hR : Rel 0 [] (fun k => k < w.heap.size) w [] :=
    ⟨rfl, Nat.le_refl _, fun b k hk => by simp [hget] at hk, fun b L h => by simp at h, fun b b' k k' L L' hk => by simp [hget] at hk, fun b b' L L' hb => by omega, fun k hk => hk, hT⟩
  have hp := (acall_sound hS n).2 0 f args [] r H' (by simp [Sig.pure, hf]) h
  have hN : Named S.P f := by
    cases n with
    | zero => cases h
    | succ n =>
      simp only [acall, hpr] at h
      split at h
      · rename_i fa hf
        have hF := hS.fns f fa hf
        split at h
        · rename_i c hb
          exact ⟨fa.fn, hF.fn, hF.name, by rw [hb]; rfl⟩
        · cases h
      · split at h
        · rename_i p hp
          have := (hS.eff f p hp).1
          rw [hf] at this; cases this
        · cases h
  rcases hp.2 [] _ w cs hR hD with ⟨_, hC⟩ | ⟨x, hx, _⟩
  · exact hC.mono fun e w' ⟨x, I', h1, h2, h3, h4, h5⟩ => ⟨x, I', h1, h2, h4⟩
  · have := (named_run hN cs w).symm.trans (hx w)
    cases this

theorem calls_of_acall {S : Sig} (hS : SigOK S) {n : Nat} {f : FuncId} {args : List AV} {r : AV} {H' : Heap} (hf : S.own f = false) (h : acall S n 0 f args [] = some (r, H')) {w : World} {cs : Array Value}
    (hD : DL [] (fun k => k < w.heap.size) w args cs) (hT : ∀ w1 : World, (∀ k, k < w.heap.size → w1.heap[k]? = w.heap[k]?) → Tb w1 := by intro _ _; exact trivial) (hpr : S.prim f = none := by rfl) : Calls S.P f cs w fun e w' => ∃ x I', e = .returned x ∧ Den [] I' w' r x ∧ Below w.heap.size w w' :=
  (calls_of_acall' hS hf h hD hT hpr).mono fun e w' ⟨x, I', h1, h2, h3⟩ => ⟨x, I', h1, h2, h3.os, h3.tape.1, h3.output, h3.size, h3.block⟩

end
end Go.Am
