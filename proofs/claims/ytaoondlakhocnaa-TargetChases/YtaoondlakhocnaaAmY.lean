/-
  The abstract machine: what a whole call of the abstract machine answers, the model's call answers.
-/
import Derived.Test.YtaoondlakhocnaaAmX
namespace Go.Am
open Go Go.RowKit
set_option linter.unusedSimpArgs false
set_option linter.unusedVariables false

def exM : Ex → Exit → Prop
  | .normal, .normal => True
  | .exit i, .exit j => i = j
  | .ret, .ret => True
  | _, _ => False

def drawOk (n : Nat) (ops : Array Oper) : Bool := if n = ops.size then Region.lexB .any ops else Region.lexTailB .any ops n

/-- What is asked of a body's text: each slot that is written is one of its slots; each region that draws its order has the form that is claimed of it. -/
def chk (N : Nat) (draws : List (Nat × Nat)) : Code → Bool
  | .region id ops draw => dstOK N ops && (!draw || match draws.lookup id with | some n => drawOk n ops | none => true)
  | .seq a b => chk N draws a && chk N draws b
  | .cond _ a b => chk N draws a && chk N draws b
  | .block _ b => chk N draws b
  | .loop b => chk N draws b
  | _ => true

section
variable {P : Program} {lim : Nat} {φ φ' φ'' : Phi} {I I' I'' : Nat → Prop} {w w' w'' : World} {H H' : Heap}

def Post (lim : Nat) (φ : Phi) (I : Nat → Prop) (w : World) (sz : Nat) (ks : List Nat) (e : Ex) (s' : St) (x : Exit) (a' : Act) (w' : World) : Prop :=
  exM e x ∧ a'.tmps.size = sz ∧ a'.defers = [] ∧ keys s'.loc = ks ∧ ∃ φ' I', EnvOK φ' I' w' s'.loc a' ∧ Rel lim φ' I' w' s'.H ∧ Ext lim φ I w φ' I' w'

theorem region_sound {call : CallF} {pu : FuncId → Bool} (hm : P.follows .mixedOrders = true) (hcall : CallOK P call) (hpure : PureOK P call pu) {N : Nat} {draws : List (Nat × Nat)} {id : Nat} {ops : Array Oper} {draw : Bool} {s s' : St}
    (h : region P call pu lim draws id ops draw s = some s') (hc : chk N draws (.region id ops draw) = true) {a : Act} (hN : N ≤ a.tmps.size) (hdf : a.defers = []) (hE : EnvOK φ I w s.loc a)  (hR : Rel lim φ I w s.H) :
    (Code.region id ops draw).wp P (Post lim φ I w a.tmps.size (keys s.loc) .normal s') a w := by
  simp only [chk, Bool.and_eq_true] at hc
  obtain ⟨hdst, hdr⟩ := hc
  have hW : EnvW s.loc s.loc := ⟨[], rfl⟩
  unfold region at h
  split at h
  · rename_i hd
    subst hd
    split at h
    · rename_i n hn
      simp only [hn, Bool.not_true, Bool.false_or] at hdr
      split at h
      · rename_i e1 hq
        simp only [Option.map_eq_some_iff] at h
        obtain ⟨⟨e2, H2⟩, hr, rfl⟩ := h
        have hR1 := hR.drew (w.drawn + 1)
        have hX1 : Ext lim φ I w φ I { w with drawn := w.drawn + 1 } := Ext.drew (w.drawn + 1)
        have hE1 := hE.ext hR hX1
        have fin : ∀ (w1 : World), Below ({ w with drawn := w.drawn + 1 } : World).heap.size { w with drawn := w.drawn + 1 } w1 → ∀ a1 : Act, a1.tmps.size = a.tmps.size → a1.defers = [] → EnvOK φ I { w with drawn := w.drawn + 1 } e1 a1 → EnvW s.loc e1 →
            wpList P ops (Post lim φ I w a.tmps.size (keys s.loc) .normal ⟨trim e2 s.loc, H2⟩) (ops.toList.drop n) a1 w1 := by
          intro w1 hb a1 h1 h2 h3 h4
          have hR2 := hR1.down hb
          have hX2 : Ext lim φ I { w with drawn := w.drawn + 1 } φ I w1 := ⟨List.prefix_refl _, fun _ h => h, fun k hk _ => hb.block k hk, fun b L _ hL => hb.block _ (hR1.disj b L hL).2, fun b L hL => .inr ⟨b, L, hL, rfl⟩, hb.os, hb.tape, hb.output, hb.size⟩
          refine runOps_sound hcall hdst (ops.toList.drop n) (fun o ho => List.mem_of_mem_drop ho) _ _ _ _ φ I w1 a1 hr (by rw [h1]; exact hN) h2 (h3.ext hR1 hX2) h4 hR2 fun φ' I' w' a' g1 g2 g3 g4 g5 g6 => ?_
          have ht := trim_ok g4 g3
          exact ⟨trivial, by rw [g1, h1], g2, ht.2, φ', I', ht.1, g5, (hX1.trans hX2).trans g6⟩
        unfold drawOk at hdr
        split at hdr
        · rename_i hsz
          refine wp_region_quiet (C := fun w' => Below ({ w with drawn := w.drawn + 1 } : World).heap.size { w with drawn := w.drawn + 1 } w') hm hdr (Below.refl _ _) ?_
          have htk : ops.toList.take n = ops.toList := by rw [List.take_of_length_le]; simp; omega
          have hdp : ops.toList.drop n = [] := by apply List.drop_of_length_le; simp; omega
          rw [htk] at hq
          refine runQuiet_sound (loc := s.loc) hpure hcall hdst hR1 ops.toList (fun o ho => ho) _ _ a hq hN hdf hE1 hW fun a1 h1 h2 h3 h4 w1 hb => ?_
          have := fin w1 hb a1 h1 h2 h3 h4
          rw [hdp] at this
          exact this
        · refine region_quiet_tail (C := fun w' => Below ({ w with drawn := w.drawn + 1 } : World).heap.size { w with drawn := w.drawn + 1 } w') n hm hdr (Below.refl _ _) ?_
          exact runQuiet_sound (loc := s.loc) hpure hcall hdst hR1 (ops.toList.take n) (fun o ho => List.mem_of_mem_take ho) _ _ a hq hN hdf hE1 hW fun a1 h1 h2 h3 h4 w1 hb => fin w1 hb a1 h1 h2 h3 h4
      · cases h
    · unfold mixed at h
      split at h
      · rename_i hex
        cases h
        have hA := Classical.choose_spec hex
        generalize Classical.choose hex = s2 at hA ⊢
        have hR1 := hR.drew (w.drawn + 1)
        have hX1 : Ext lim φ I w φ I { w with drawn := w.drawn + 1 } := Ext.drew (w.drawn + 1)
        obtain ⟨hE1, hC1⟩ := open0_ok (ops := ops) (hE.ext hR hX1)
        refine wp_region_any hm ?_
        refine allOrd_sound (loc := s.loc) hcall hdst _ _ _ _ φ I _ a hA hN hdf hE1 hC1 hR1 fun e' H' φ' I' w' a' g0 g1 g2 g3 g4 g5 g6 => ?_
        obtain ⟨d, hd, _⟩ := g4
        have ht := trim_ok ⟨d, hd⟩ g3
        subst g0
        exact ⟨trivial, g1, g2, ht.2, φ', I', ht.1, g5, hX1.trans g6⟩
      · cases h
  · rename_i hd
    have hd' : draw = false := by simpa using hd
    subst hd'
    simp only [Option.map_eq_some_iff] at h
    obtain ⟨⟨e2, H2⟩, hr, rfl⟩ := h
    refine wp_region_list ?_
    refine runOps_sound hcall hdst ops.toList (fun o ho => ho) _ _ _ _ φ I w a hr hN hdf hE hW hR fun φ' I' w' a' g1 g2 g3 g4 g5 g6 => ?_
    have ht := trim_ok g4 g3
    exact ⟨trivial, g1, g2, ht.2, φ', I', ht.1, g5, g6⟩

theorem exec_sound {call : CallF} {pu : FuncId → Bool} (hm : P.follows .mixedOrders = true) (hcall : CallOK P call) (hpure : PureOK P call pu) {N : Nat} {draws : List (Nat × Nat)} : ∀ (n : Nat) (c : Code) (s s' : St) (e : Ex),
    exec P call pu lim draws n c s = some (e, s') → chk N draws c = true → ∀ (φ : Phi) (I : Nat → Prop) (w : World) (a : Act), N ≤ a.tmps.size → a.defers = [] → EnvOK φ I w s.loc a → Rel lim φ I w s.H →
    c.wp P (Post lim φ I w a.tmps.size (keys s.loc) e s') a w := by
  intro n
  induction n using Nat.strongRecOn with
  | _ n ih =>
    intro c s s' e h hc φ I w a hN hdf hE hR
    cases n with
    | zero => cases h
    | succ n =>
      have same : Post lim φ I w a.tmps.size (keys s.loc) .normal s .normal a w := ⟨trivial, rfl, hdf, rfl, φ, I, hE, hR, Ext.refl⟩
      have chain : ∀ {e1 : Ex} {s1 : St} {x : Exit} {a1 : Act} {w1 : World} {c' : Code} {m : Nat}, m < n + 1 → Post lim φ I w a.tmps.size (keys s.loc) e1 s1 x a1 w1 → exec P call pu lim draws m c' s1 = some (e, s') → chk N draws c' = true →
          c'.wp P (Post lim φ I w a.tmps.size (keys s.loc) e s') a1 w1 := by
        intro e1 s1 x a1 w1 c' m hm' ⟨h1, h2, h3, h4, φ1, I1, h5, h6, h7⟩ hex hck
        refine wp_mono (ih m hm' c' s1 s' e hex hck φ1 I1 w1 a1 (by rw [h2]; exact hN) h3 h5 h6) fun x' a' w' hp => ?_
        obtain ⟨g1, g2, g3, g4, φ2, I2, g5, g6, g7⟩ := hp
        exact ⟨g1, by rw [g2, h2], g3, by rw [g4, h4], φ2, I2, g5, g6, h7.trans g7⟩
      cases c <;> simp only [exec] at h <;> try (cases h; done)
      case skip => cases h; exact wp_skip same
      case region id ops draw =>
        simp only [Option.map_eq_some_iff] at h
        obtain ⟨s1, hr, he⟩ := h
        cases he
        exact region_sound hm hcall hpure hr hc hN hdf hE hR
      case seq x y =>
        simp only [chk, Bool.and_eq_true] at hc
        refine wp_seq ?_
        split at h
        · rename_i s1 h1
          refine wp_mono (ih n (by omega) x s s1 .normal h1 hc.1 φ I w a hN hdf hE hR) fun x' a1 w1 hp => ?_
          have hx := hp.1
          cases x' <;> simp only [exM] at hx
          exact chain (by omega) hp h hc.2
        · rename_i hne
          refine wp_mono (ih n (by omega) x s s' e h hc.1 φ I w a hN hdf hE hR) fun x' a1 w1 hp => ?_
          have hx := hp.1
          cases e with
          | normal => exact absurd h (hne s')
          | exit i => cases x' <;> simp only [exM] at hx; exact hp
          | ret => cases x' <;> simp only [exM] at hx; exact hp
      case cond o x y =>
        simp only [chk, Bool.and_eq_true] at hc
        split at h
        · rename_i t ht
          have hD := env_ev hE o
          rw [ht] at hD
          have hv := den_v hD
          cases t with
          | true => exact wp_cond_true hv (ih n (by omega) x s s' e (by simpa using h) hc.1 φ I w a hN hdf hE hR)
          | false => exact wp_cond_false hv (ih n (by omega) y s s' e (by simpa using h) hc.2 φ I w a hN hdf hE hR)
        · cases h
      case block id b =>
        simp only [chk] at hc
        refine wp_block ?_
        split at h
        · rename_i j s1 h1
          refine wp_mono (ih n (by omega) b s s1 (.exit j) h1 hc φ I w a hN hdf hE hR) fun x' a1 w1 hp => ?_
          have hx := hp.1
          cases x' <;> simp only [exM] at hx
          subst hx
          simp only [Exit.inBlock]
          split at h
          · rename_i hj
            cases h
            rw [if_pos hj]
            exact ⟨trivial, hp.2⟩
          · rename_i hj
            cases h
            rw [if_neg hj]
            exact hp
        · rename_i hne
          refine wp_mono (ih n (by omega) b s s' e h hc φ I w a hN hdf hE hR) fun x' a1 w1 hp => ?_
          have hx := hp.1
          cases e with
          | normal => cases x' <;> simp only [exM] at hx; exact hp
          | exit i => exact absurd h (hne i s')
          | ret => cases x' <;> simp only [exM] at hx; exact hp
      case loop b =>
        simp only [chk] at hc
        have key : ∀ (m : Nat), m ≤ n + 1 → ∀ (s1 : St) (x : Exit) (a1 : Act) (w1 : World), exec P call pu lim draws m (.loop b) s1 = some (e, s') → Post lim φ I w a.tmps.size (keys s.loc) .normal s1 x a1 w1 →
            Code.rounds P b (Post lim φ I w a.tmps.size (keys s.loc) e s') m a1 w1 := by
          intro m
          induction m with
          | zero => intro _ s1 x a1 w1 h _; cases h
          | succ m ihm =>
            intro hle s1 x a1 w1 h hp
            simp only [exec] at h
            rw [rounds_succ]
            have body : ∀ (e2 : Ex) (s2 : St), exec P call pu lim draws m b s1 = some (e2, s2) → b.wp P (Post lim φ I w a.tmps.size (keys s.loc) e2 s2) a1 w1 := by
              intro e2 s2 hb
              obtain ⟨-, h2, h3, h4, φ1, I1, h5, h6, h7⟩ := hp
              refine wp_mono (ih m (by omega) b s1 s2 e2 hb hc φ1 I1 w1 a1 (by rw [h2]; exact hN) h3 h5 h6) fun x' a' w' hp' => ?_
              obtain ⟨g1, g2, g3, g4, φ2, I2, g5, g6, g7⟩ := hp'
              exact ⟨g1, by rw [g2, h2], g3, by rw [g4, h4], φ2, I2, g5, g6, h7.trans g7⟩
            split at h
            · rename_i s2 hb
              refine wp_mono (body .normal s2 hb) fun x' a' w' hp' => ?_
              have hx := hp'.1
              cases x' <;> simp only [exM] at hx
              exact ihm (by omega) s2 .normal a' w' h hp'
            · rename_i hne
              refine wp_mono (body e s' h) fun x' a' w' hp' => ?_
              have hx := hp'.1
              cases e with
              | normal => exact absurd h (hne s')
              | exit i => cases x' <;> simp only [exM] at hx; exact hp'
              | ret => cases x' <;> simp only [exM] at hx; exact hp'
        exact wp_loop_rounds (n + 1) (key (n + 1) (Nat.le_refl _) s .normal a w (by simp only [exec]; exact h) same)
      case exit id => cases h; exact wp_exit ⟨rfl, same.2⟩
      case ret => cases h; exact wp_ret ⟨trivial, same.2⟩


/-! ### What a call hands back -/
theorem frz_sound {L : Nat} {H1 : Heap} (hp : φ <+: φ') (hl : φ.length = L) (hR : Rel L φ' I' w' H1) (hI : ∀ k, I' k → I'' k) (hN : ∀ (b : Nat) (M : Loc), L ≤ b → φ'[b]? = some (some M) → I'' M.k) :
    ∀ (d : Nat) (x : AV) (y : Value), Den φ' I' w' x y → Den φ I'' w' (frz H1 L d x) y := by
  have low : ∀ {b : Nat} {o : Option Loc}, b < L → φ'[b]? = some o → φ[b]? = some o := by
    intro b o hb h
    obtain ⟨r, rfl⟩ := hp
    rwa [List.getElem?_append_left (by omega)] at h
  intro d
  induction d with
  | zero => intro x y _; exact .any _
  | succ d ih =>
    intro x y h
    cases h with
    | any y => exact .any _
    | v y => exact .v _
    | sl0 l p => exact .sl0 _ _
    | sl n l c a Y hn hc ha hIa hY hD =>
      refine .sl _ _ c a Y hn hc ha (hI _ hIa) (fun j x hx => ?_) (fun j x hx => ?_)
      · simp at hx
        obtain ⟨z, h1, rfl⟩ := hx
        exact hY j z h1
      · simp at hx
        obtain ⟨z, h1, rfl⟩ := hx
        exact ih _ _ (hD j z h1)
    | own0 z b o hb =>
      simp only [frz]
      split
      · rename_i hlt; exact .own0 _ _ _ (low hlt hb)
      · split
        · exact .sl0 _ _
        · exact .any _
    | own z b o n c off M hM hn hc ho =>
      simp only [frz]
      split
      · rename_i hlt; exact .own _ _ _ _ c off M (low hlt hM) hn hc ho
      · rename_i hge
        split
        · rename_i k hk
          rcases hR.blk b k hk with ⟨h1, h2⟩ | ⟨M', C, T, h1, h2, h3, h5⟩
          · rw [hM] at h1; cases h1
          · rw [hM] at h1; cases h1
            by_cases hc0 : c = 0
            · have hn0 : n = 0 := by omega
              subst hn0; subst hc0
              exact .sl0 _ _
            · obtain ⟨rfl, -⟩ := ho.resolve_left hc0
              refine .sl _ _ c ⟨M.k, M.base + o, none⟩ (fun j => C.getD (M.base + (o + j)) undef) hn hc rfl (hN b M (by omega) hM) (fun j x hx => ?_) (fun j x hx => ?_)
              · simp at hx
                obtain ⟨z, g1, rfl⟩ := hx
                obtain ⟨y, g2, g3⟩ := h5.2 _ _ g1
                simp only
                rw [cell_of_row w' M.k _ C T _ h2, Nat.add_assoc, g2]
                simp [Array.getD_eq_getD_getElem?, g2]
              · simp at hx
                obtain ⟨z, g1, rfl⟩ := hx
                obtain ⟨y, g2, g3⟩ := h5.2 _ _ g1
                have : C.getD (M.base + (o + j)) undef = y := by simp [Array.getD_eq_getD_getElem?, g2]
                rw [this]
                exact ih _ _ g3
        · exact .any _
    | ptr b o M hM =>
      simp only [frz]
      split
      · rename_i hlt; exact .ptr _ _ M (low hlt hM)
      · exact .any _
    | ele l o a Y ha hIa hY hD => exact .any _
    | agg l cs hs hD =>
      refine .agg _ cs (by simpa using hs) fun j x y hx hy => ?_
      simp at hx
      obtain ⟨z, h1, rfl⟩ := hx
      exact ih _ _ (hD j z y h1 hy)
    | tup l cs hs hD =>
      refine .tup _ cs (by simpa using hs) fun j x y hx hy => ?_
      simp at hx
      obtain ⟨z, h1, rfl⟩ := hx
      exact ih _ _ (hD j z y h1 hy)
    | clo f l cs hs hD => exact .any _

theorem Rel.moreI (hR : Rel lim φ I w H) (hI : ∀ k, I k → I' k) (hd : ∀ (b : Nat) (L : Loc), φ[b]? = some (some L) → ¬ I' L.k) (hl : ∀ k, I' k → k < w.heap.size) : Rel lim φ I' w H where
  len := hR.len
  limle := hR.limle
  blk := fun b k hk => by
    rcases hR.blk b k hk with h | ⟨L, C, T, h1, h2, h3, h5⟩
    · exact .inl h
    · exact .inr ⟨L, C, T, h1, h2, h3, h5.1, fun j x hx => by obtain ⟨y, e1, e2⟩ := h5.2 j x hx; exact ⟨y, e1, e2.mono (List.prefix_refl _) hI (fun _ _ => rfl)⟩⟩
  disj := fun b L h => ⟨hd b L h, (hR.disj b L h).2⟩
  inj := hR.inj
  sep := hR.sep
  Ilt := hl

theorem resAll_sound (hR : Rel lim φ I w H) {e : Env} {a : Act} (hE : EnvOK φ I w e a) : ∀ (rs : List ResultVar) (l : List AV), resAll P e H rs = some l →
    ∃ vs : List Value, (rs.mapM fun | .tmp t => pure (a.tmps.getD t undef) | .cell p t => do loadVar t (← asAddr (a.tmps.getD p undef)) : Sem (List Value)).run P w = .ok vs w ∧ vs.length = l.length ∧
      ∀ (j : Nat) (x : AV) (y : Value), l[j]? = some x → vs[j]? = some y → Den φ I w x y
  | [], l, h => by simp [resAll] at h; subst h; exact ⟨[], by simp, rfl, fun j x y hx => by simp at hx⟩
  | r :: rs, l, h => by
    simp only [resAll] at h
    split at h
    · rename_i x l' hx hl
      cases h
      obtain ⟨vs, h1, h2, h3⟩ := resAll_sound hR hE rs l' hl
      have one : ∃ y, ((match r with | .tmp t => pure (a.tmps.getD t undef) | .cell p t => do loadVar t (← asAddr (a.tmps.getD p undef)) : Sem Value)).run P w = .ok y w ∧ Den φ I w x y := by
        cases r with
        | tmp t =>
          simp [resA] at hx
          subst hx
          exact ⟨_, by simp, hE t⟩
        | cell p t =>
          simp only [resA] at hx
          obtain ⟨y, g1, g2⟩ := load_sound hR hx (hE p)
          have g1' := g1 w (fun _ _ => rfl)
          have hp := hE p
          refine ⟨y, ?_, g2⟩
          unfold loadV at hx
          split at hx
          · rename_i ty b o ht hb
            rw [hb] at hp
            generalize hv : a.tmps.getD p undef = v at hp g1'
            cases hp with
            | ptr _ _ L hL =>
              show ((do loadVar t (← asAddr (a.tmps.getD p undef)) : Sem Value)).run P w = .ok y w
              rw [hv]
              simpa [asAddr, Instr.loadAt, Instr.sureAddr] using g1'
          · rename_i ty l o ht hb
            rw [hb] at hp
            generalize hv : a.tmps.getD p undef = v at hp g1'
            cases hp with
            | ele _ _ ad Y ha hI hY hD =>
              show ((do loadVar t (← asAddr (a.tmps.getD p undef)) : Sem Value)).run P w = .ok y w
              rw [hv]
              simpa [asAddr, Instr.loadAt, Instr.sureAddr] using g1'
          · cases hx
      obtain ⟨y, g1, g2⟩ := one
      refine ⟨y :: vs, ?_, by simp [h2], fun j z u hz hu => ?_⟩
      · rw [List.mapM_cons]
        simp only [Sem.run_bind]
        rw [g1]
        simp only [Result.andThen_ok]
        rw [h1]
        simp
      · cases j with
        | zero => simp at hz hu; subst hz; subst hu; exact g2
        | succ j => simp at hz hu; exact h3 j z u hz hu
    · cases h

theorem results_sound (hR : Rel lim φ I w H) {e : Env} {a : Act} (hE : EnvOK φ I w e a) {fn : Func} {l : List AV} (h : resAll P e H fn.results.toList = some l) : ∃ v, (results fn a.tmps).run P w = .ok v w ∧ Den φ I w (oneOr l) v := by
  obtain ⟨vs, h1, h2, h3⟩ := resAll_sound hR hE _ _ h
  have hrun : (fn.results.mapM fun | .tmp t => pure (a.tmps.getD t undef) | .cell p t => do loadVar t (← asAddr (a.tmps.getD p undef)) : Sem (Array Value)).run P w = .ok vs.toArray w := by
    rw [Array.mapM_eq_mapM_toList]
    simp only [Sem.run_map, h1, Result.andThen_ok]
  have hun : results fn a.tmps = (do
      let vs ← (fn.results.mapM fun | .tmp t => pure (a.tmps.getD t undef) | .cell p t => do loadVar t (← asAddr (a.tmps.getD p undef)) : Sem (Array Value))
      pure (if h : vs.size = 1 then vs[0] else .tuple vs)) := rfl
  rw [hun, Sem.run_bind, hrun]
  simp only [Result.andThen_ok]
  match l, vs, h2, h3 with
  | [x], [y], _, h3 => exact ⟨y, by simp, h3 0 x y rfl rfl⟩
  | [], [], _, h3 => exact ⟨.tuple #[], by simp, .tup _ _ rfl (fun j x y hx => by simp at hx)⟩
  | x :: x' :: l, y :: y' :: vs, h2, h3 =>
    refine ⟨.tuple (y :: y' :: vs).toArray, by simp, .tup _ _ (by simpa using h2) fun j a b ha hb => h3 j a b ha (by simpa using hb)⟩

structure FnOK (P : Program) (f : FuncId) (fa : FnA) : Prop where
  fn : P.funcs[f]? = some fa.fn
  name : (fa.fn.name == "runtime.NumGoroutine") = false
  body : ∀ c, fa.fn.body = some c → chk fa.fn.ntmps fa.draws c = true

structure SigOK (S : Sig) : Prop where
  mixed : S.P.follows .mixedOrders = true
  fns : ∀ f fa, S.fns f = some fa → FnOK S.P f fa
  prim : ∀ f p, S.prim f = some p → S.own f = false ∧ ∀ args H r, p args H = some r → Named S.P f ∧ ∀ lim φ I w (cs : Array Value), Rel lim φ I w H → DL φ I w args cs → Calls S.P f cs w (PurePost φ I w lim H r)

theorem env0_get (keep : List Nat) (args : List AV) (t : Nat) : (env0 keep args).get t = .any ∨ (env0 keep args).get t = args[t]?.getD .any := by
  unfold env0
  induction keep with
  | nil => left; rfl
  | cons k ks ih =>
    simp only [List.map_cons, Env.get]
    split
    · subst_vars; right; rfl
    · exact ih

theorem keys_env0 (keep : List Nat) (args : List AV) : keys (env0 keep args) = keep := by
  simp [keys, env0, Function.comp_def]

theorem env0_ok {keep : List Nat} {args : List AV} {cs : Array Value} {n : Nat} (h : DL φ I w args cs) : EnvOK φ I w (env0 keep args) { tmps := cs ++ Array.replicate n undef, defers := [] } := by
  intro t
  rcases env0_get keep args t with h1 | h1
  · rw [h1]; exact .any _
  · rw [h1]
    cases hx : args[t]? with
    | none => exact .any _
    | some x =>
      have ht : t < cs.size := by rw [h.1]; exact (List.getElem?_eq_some_iff.1 hx).1
      refine h.2 t x _ hx ?_
      simp [Array.getElem?_append_left ht, ht]

theorem PurePost.call {f : FuncId} {r : AV} {e : Ending} (hR : Rel lim φ I w H) (h : PurePost φ I w lim H r e w') : CallPost lim φ I w H r e w' := by
  obtain ⟨x, I', rfl, h1, h2, h3, h4⟩ := h
  exact ⟨x, φ, I', rfl, h1, h4, List.prefix_refl _, h2, fun k hk _ => h3.block k hk, fun b L _ hL => h3.block _ (hR.disj b L hL).2, fun b L hL => .inr ⟨b, L, hL, rfl⟩, h3.os, h3.tape, h3.output, h3.size⟩

/-- **Soundness of calls.** -/
theorem acall_sound {S : Sig} (hS : SigOK S) : ∀ n, CallOK S.P (acall S n) ∧ PureOK S.P (acall S n) S.pure := by
  intro n
  induction n with
  | zero => exact ⟨(fun _ _ _ _ _ _ h => by cases h), (fun _ _ _ _ _ _ _ h => by cases h)⟩
  | succ n ih =>
    have main : ∀ lim f args H r H', acall S (n + 1) lim f args H = some (r, H') → Named S.P f ∧
        (S.own f = true → ∀ φ I w (cs : Array Value), Rel lim φ I w H → DL φ I w args cs → Calls S.P f cs w (CallPost lim φ I w H' r)) ∧
        (S.own f = false → H' = H ∧ ∀ φ I w (cs : Array Value), Rel lim φ I w H → DL φ I w args cs → Calls S.P f cs w (PurePost φ I w lim H r)) := by
      intro lim f args H r H' h
      simp only [acall] at h
      split at h
      · rename_i p hp
        obtain ⟨ho, hpp⟩ := hS.prim f p hp
        simp only [Option.map_eq_some_iff] at h
        obtain ⟨r', hr, he⟩ := h
        cases he
        obtain ⟨h1, h2⟩ := hpp args H r hr
        exact ⟨h1, (fun h => by rw [ho] at h; cases h), fun _ => ⟨rfl, fun φ I w cs hR hD => h2 lim φ I w cs hR hD⟩⟩
      · split at h
        · rename_i fa hf
          have hF := hS.fns f fa hf
          split at h
          · rename_i c hb
            have hN : Named S.P f := ⟨fa.fn, hF.fn, hF.name, by rw [hb]; rfl⟩
            have hck := hF.body c hb
            refine ⟨hN, fun ho => ?_, fun ho => ?_⟩
            · intro φ I w cs hR hD
              simp only [ho, if_true] at h
              unfold finish at h
              split at h
              · cases h
              · cases h
              · rename_i e s hne hex
                split at h
                · rename_i l hl
                  simp only [if_true] at h
                  cases h
                  refine calls_of_wp hF.fn hb ?_
                  refine wp_mono (exec_sound hS.mixed ih.1 ih.2 n c _ s e hex hck φ I w { tmps := cs ++ Array.replicate (fa.fn.ntmps - cs.size) undef, defers := [] } (by simp; omega) rfl (env0_ok hD) hR) fun x a' w' hp => ?_
                  obtain ⟨g1, g2, g3, g4, φ', I', g5, g6, g7⟩ := hp
                  obtain ⟨v, v1, v2⟩ := results_sound g6 g5 hl
                  cases e with
                  | exit i => exact absurd rfl (hne i)
                  | normal => cases x <;> simp only [exM] at g1; exact ⟨g3, v, v1, v, φ', I', rfl, v2, g6, g7⟩
                  | ret => cases x <;> simp only [exM] at g1; exact ⟨g3, v, v1, v, φ', I', rfl, v2, g6, g7⟩
                · cases h
            · simp only [ho, Bool.false_eq_true, if_false] at h
              unfold finish at h
              split at h
              · cases h
              · cases h
              · rename_i e s hne hex
                split at h
                · rename_i l hl
                  simp only [Bool.false_eq_true, if_false] at h
                  cases h
                  refine ⟨rfl, fun φ I w cs hR hD => ?_⟩
                  have hR0 : Rel H.length φ I w H := ⟨hR.len, Nat.le_refl _, hR.blk, hR.disj, hR.inj, fun b b' L L' hb hb' hL hL' => by
                    have h1 := (List.getElem?_eq_some_iff.1 hL').1
                    rw [hR.len] at h1; omega, hR.Ilt⟩
                  refine calls_of_wp hF.fn hb ?_
                  refine wp_mono (exec_sound hS.mixed ih.1 ih.2 n c _ s e hex hck φ I w { tmps := cs ++ Array.replicate (fa.fn.ntmps - cs.size) undef, defers := [] } (by simp; omega) rfl (env0_ok hD) hR0) fun x a' w' hp => ?_
                  obtain ⟨g1, g2, g3, g4, φ', I', g5, g6, g7⟩ := hp
                  obtain ⟨v, v1, v2⟩ := results_sound g6 g5 hl
                  have hbel : Below w.heap.size w w' := by
                    refine ⟨g7.os, g7.tape, g7.output, g7.size, fun k hk => ?_⟩
                    by_cases hex : ∃ (b : Nat) (L : Loc), φ[b]? = some (some L) ∧ L.k = k
                    · obtain ⟨b, L, hL, rfl⟩ := hex
                      exact g7.lo b L (by rw [← hR.len]; exact (List.getElem?_eq_some_iff.1 hL).1) hL
                    · exact g7.old k hk fun b L hL he => hex ⟨b, L, hL, he⟩
                  have hpost : PurePost φ I w lim H (frz s.H H.length 8 (oneOr l)) (.returned v) w' := by
                    refine ⟨v, fun k => I' k ∨ ∃ (b : Nat) (M : Loc), H.length ≤ b ∧ φ'[b]? = some (some M) ∧ M.k = k, rfl, ?_, fun k hk => .inl (g7.I k hk), hbel, ?_⟩
                    · exact frz_sound (I'' := fun k => I' k ∨ ∃ (b : Nat) (M : Loc), H.length ≤ b ∧ φ'[b]? = some (some M) ∧ M.k = k) g7.pre hR.len g6 (fun k hk => .inl hk) (fun b M hb hM => .inr ⟨b, M, hb, hM, rfl⟩) 8 _ _ v2
                    · refine (hR.down hbel).moreI (fun k hk => .inl (g7.I k hk)) (fun b L hL hh => ?_) (fun k hk => ?_)
                      · have hL' := pre_get g7.pre hL
                        rcases hh with hh | ⟨b', M, hb', hM, he⟩
                        · exact (g6.disj b L hL').1 hh
                        · exact g6.sep b b' L M (by rw [← hR.len]; exact (List.getElem?_eq_some_iff.1 hL).1) hb' hL' hM he.symm
                      · rcases hk with hk | ⟨b', M, hb', hM, rfl⟩
                        · exact g6.Ilt k hk
                        · exact (g6.disj b' M hM).2
                  cases e with
                  | exit i => exact absurd rfl (hne i)
                  | normal => cases x <;> simp only [exM] at g1; exact ⟨g3, v, v1, hpost⟩
                  | ret => cases x <;> simp only [exM] at g1; exact ⟨g3, v, v1, hpost⟩
                · cases h
          · cases h
        · cases h
    refine ⟨fun lim f args H r H' h => ?_, fun lim f args H r H' hpu h => ?_⟩
    · obtain ⟨h1, h2, h3⟩ := main lim f args H r H' h
      refine ⟨h1, fun φ I w cs hR hD => ?_⟩
      cases ho : S.own f with
      | true => exact h2 ho φ I w cs hR hD
      | false =>
        obtain ⟨rfl, h4⟩ := h3 ho
        exact (h4 φ I w cs hR hD).mono fun e w' hp => PurePost.call (f := f) hR hp
    · obtain ⟨h1, h2, h3⟩ := main lim f args H r H' h
      exact h3 (by simpa [Sig.pure] using hpu)

/-- What the abstract machine answers for data that came in, the model answers, and nothing that was there is written. -/
theorem calls_of_acall {S : Sig} (hS : SigOK S) {n : Nat} {f : FuncId} {args : List AV} {r : AV} {H' : Heap} (hf : S.own f = false) (h : acall S n 0 f args [] = some (r, H')) {w : World} {cs : Array Value}
    (hD : DL [] (fun k => k < w.heap.size) w args cs) : Calls S.P f cs w fun e w' => ∃ x I', e = .returned x ∧ Den [] I' w' r x ∧ Below w.heap.size w w' := by
  have hR : Rel 0 [] (fun k => k < w.heap.size) w [] :=
    ⟨rfl, Nat.le_refl _, fun b k hk => by simp [hget] at hk, fun b L h => by simp at h, fun b b' k k' L L' hk => by simp [hget] at hk, fun b b' L L' hb => by omega, fun k hk => hk⟩
  have hp := (acall_sound hS n).2 0 f args [] r H' (by simp [Sig.pure, hf]) h
  exact (hp.2 [] _ w cs hR hD).mono fun e w' ⟨x, I', h1, h2, h3, h4, h5⟩ => ⟨x, I', h1, h2, h4⟩

end
end Go.Am
