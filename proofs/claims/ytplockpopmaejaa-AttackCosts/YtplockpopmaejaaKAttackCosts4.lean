/-
  Texts of AttackCosts, part 5 of 17. The abstract machine, symbolically: what is enough for a piece of code, an operation, a call to come to a given end.
-/
import Derived.Test.YtplockpopmaejaaKAttackCosts0
import Derived.Attr
import Derived.Test.YtplockpopmaejaaKAttackCosts3
section
namespace Go.Am
open Go

/-! ### More fuel, the same answer -/
def CallLe (c c' : CallF) : Prop := ∀ lim f args H r, c lim f args H = some r → c' lim f args H = some r

theorem opV_mono {P : Program} {c c' : CallF} (hc : CallLe c c') {lim : Nat} {o : Op} {e : Env} {H : Heap} {r : AV × Heap} (h : opV P c lim o e H = some r) : opV P c' lim o e H = some r := by
  unfold opV at *
  split
  · rename_i t a hl; simp only [hl] at h; exact h
  · rename_i hl
    simp only [hl] at h
    split
    · rename_i f args hcv; simp only [hcv] at h; exact hc _ _ _ _ _ h
    · rename_i hcv; simp only [hcv] at h; exact h

theorem runOps_mono {P : Program} {c c' : CallF} (hc : CallLe c c') {lim : Nat} {ops : Array Oper} : ∀ (l : List Oper) (e : Env) (H : Heap) (r : Env × Heap),
    runOps P c lim ops l e H = some r → runOps P c' lim ops l e H = some r
  | [], _, _, _, h => h
  | o :: l, e, H, r, h => by
    simp only [runOps] at h ⊢
    split
    · rename_i hw
      simp only [hw] at h
      split at h
      · rename_i x H' ho
        rw [opV_mono hc ho]
        exact runOps_mono hc l _ _ _ h
      · cases h
    · rename_i hw
      simp only [hw] at h
      exact runOps_mono hc l _ _ _ h
    · rename_i hw
      simp only [hw] at h
      cases h

theorem quietV_mono {P : Program} {c c' : CallF} (hc : CallLe c c') {pu : FuncId → Bool} {o : Op} {e : Env} {H : Heap} {r : AV} (h : quietV P c pu o e H = some r) : quietV P c' pu o e H = some r := by
  unfold quietV at *
  split
  · rename_i t a hl; simp only [hl] at h; exact h
  · rename_i hl
    simp only [hl] at h
    split
    · rename_i f args hcv
      simp only [hcv] at h
      split
      · rename_i hp
        simp only [hp, if_true] at h
        split at h
        · rename_i x H' hx
          rw [hc _ _ _ _ _ hx]
          exact h
        · cases h
      · rename_i hp; simp [hp] at h
    · rename_i hcv; simp only [hcv] at h; exact h

theorem runQuiet_mono {P : Program} {c c' : CallF} (hc : CallLe c c') {pu : FuncId → Bool} {ops : Array Oper} : ∀ (l : List Oper) (e : Env) (H : Heap) (r : Env),
    runQuiet P c pu ops l e H = some r → runQuiet P c' pu ops l e H = some r
  | [], _, _, _, h => h
  | o :: l, e, H, r, h => by
    simp only [runQuiet] at h ⊢
    split
    · rename_i hw
      simp only [hw] at h
      split at h
      · rename_i x ho
        rw [quietV_mono hc ho]
        exact runQuiet_mono hc l _ _ _ h
      · cases h
    · rename_i hw
      simp only [hw] at h
      exact runQuiet_mono hc l _ _ _ h
    · rename_i hw
      simp only [hw] at h
      cases h

theorem altsOK_mono {P : Program} {c c' : CallF} (hc : CallLe c c') {ops : Array Oper} {live keep : List Nat} {n0 : Nat} {e e0 : Env} {H H0 : Heap} : ∀ (ms : List (List Nat)), altsOK P c ops live keep n0 e H e0 H0 ms = true → altsOK P c' ops live keep n0 e H e0 H0 ms = true
  | [], _ => rfl
  | m :: ms, h => by
    simp only [altsOK, Bool.and_eq_true] at h ⊢
    refine ⟨?_, altsOK_mono hc ms h.2⟩
    have h1 := h.1
    split at h1
    · rename_i r hr; rw [runOps_mono hc _ _ _ _ hr]; exact h1
    · cases h1
theorem runMid_mono {P : Program} {c c' : CallF} (hc : CallLe c c') {lim : Nat} {ops : Array Oper} {R : List Nat} : ∀ (l : List Oper) (e : Env) (H : Heap) (r : Env × Heap),
    runMid P c lim ops R l e H = some r → runMid P c' lim ops R l e H = some r
  | [], _, _, _, h => h
  | o :: l, e, H, r, h => by
    simp only [runMid] at h ⊢
    split at h
    rotate_left
    · cases h
    rename_i hwc
    rw [if_pos hwc]
    split
    · rename_i hw
      simp only [hw] at h
      split at h
      · rename_i x H' ho
        rw [opV_mono hc ho]
        exact runMid_mono hc l _ _ _ h
      · cases h
    · rename_i hw
      simp only [hw] at h
      exact runMid_mono hc l _ _ _ h
    · rename_i hw
      simp only [hw] at h
      cases h
theorem led_mono {P : Program} {c c' : CallF} (hc : CallLe c c') {lim : Nat} {ops : Array Oper} {lead : List Nat} {mids : List (List Nat)} {fin live keep : List Nat} {s r : St} (h : led P c lim ops lead mids fin live keep s = some r) : led P c' lim ops lead mids fin live keep s = some r := by
  unfold led at *
  split at h
  · split at h
    rotate_left
    · cases h
    rename_i e1 H1 hrun
    simp only [runMid_mono hc _ _ _ _ hrun]
    simp only [Option.map_eq_some_iff] at h ⊢
    obtain ⟨x, hx, hr⟩ := h
    exact ⟨x, runOps_mono hc _ _ _ _ hx, hr⟩
  · split at h
    rotate_left
    · cases h
    rename_i e1 H1 hrun
    simp only [runOps_mono hc _ _ _ _ hrun]
    split at h
    rotate_left
    · cases h
    rename_i halt
    rw [if_pos (altsOK_mono hc _ halt)]
    simp only [Option.map_eq_some_iff] at h ⊢
    obtain ⟨x, hx, hr⟩ := h
    exact ⟨x, runOps_mono hc _ _ _ _ hx, hr⟩
  · cases h

theorem led2_mono {P : Program} {c c' : CallF} (hc : CallLe c c') {lim : Nat} {ops : Array Oper} {lead mid lead2 : List Nat} {mids : List (List Nat)} {fin live keep : List Nat} {s r : St} (h : led2 P c lim ops lead mid lead2 mids fin live keep s = some r) : led2 P c' lim ops lead mid lead2 mids fin live keep s = some r := by
  unfold led2 at *
  split at h
  rotate_left
  · cases h
  split at h
  rotate_left
  · cases h
  rename_i e1 H1 hrun
  simp only [runOps_mono hc _ _ _ _ hrun]
  split at h
  rotate_left
  · cases h
  rename_i hH
  rw [if_pos hH]
  split at h
  rotate_left
  · cases h
  split at h
  rotate_left
  · cases h
  rename_i e3 H3 hrun3
  simp only [runOps_mono hc _ _ _ _ hrun3]
  split at h
  rotate_left
  · cases h
  rename_i halt
  rw [if_pos (altsOK_mono hc _ halt)]
  simp only [Option.map_eq_some_iff] at h ⊢
  obtain ⟨x, hx, hr⟩ := h
  exact ⟨x, runOps_mono hc _ _ _ _ hx, hr⟩

theorem led3_mono {P : Program} {c c' : CallF} (hc : CallLe c c') {lim : Nat} {ops : Array Oper} {lead mid lead2 m fin : List Nat} {s r : St} (h : led3 P c lim ops lead mid lead2 m fin s = some r) : led3 P c' lim ops lead mid lead2 m fin s = some r := by
  unfold led3 at *
  split at h
  rotate_left
  · cases h
  split at h
  rotate_left
  · cases h
  rename_i e1 H1 hrun
  simp only [runMid_mono hc _ _ _ _ hrun]
  split at h
  rotate_left
  · cases h
  split at h
  rotate_left
  · cases h
  rename_i e3 H3 hrun3
  simp only [runMid_mono hc _ _ _ _ hrun3]
  simp only [Option.map_eq_some_iff] at h ⊢
  obtain ⟨x, hx, hr⟩ := h
  exact ⟨x, runOps_mono hc _ _ _ _ hx, hr⟩
theorem led4_mono {P : Program} {c c' : CallF} (hc : CallLe c c') {lim : Nat} {ops : Array Oper} {lead lead2 m fin : List Nat} {s r : St} (h : led4 P c lim ops lead lead2 m fin s = some r) : led4 P c' lim ops lead lead2 m fin s = some r := by
  unfold led4 at *
  split at h
  rotate_left
  · cases h
  split at h
  rotate_left
  · cases h
  split at h
  rotate_left
  · cases h
  rename_i e3 H3 hrun3
  simp only [runMid_mono hc _ _ _ _ hrun3]
  simp only [Option.map_eq_some_iff] at h ⊢
  obtain ⟨x, hx, hr⟩ := h
  exact ⟨x, runOps_mono hc _ _ _ _ hx, hr⟩
theorem led23_mono {P : Program} {c c' : CallF} (hc : CallLe c c') {lim : Nat} {ops : Array Oper} {lead mid lead2 : List Nat} {mids : List (List Nat)} {fin live keep : List Nat} {s r : St} (h : led23 P c lim ops lead mid lead2 mids fin live keep s = some r) : led23 P c' lim ops lead mid lead2 mids fin live keep s = some r := by
  unfold led23 at *
  split at h
  · split at h
    · rename_i h0
      simp only [if_pos h0]
      exact led4_mono hc h
    · rename_i h0
      simp only [if_neg h0]
      exact led3_mono hc h
  · exact led2_mono hc h

theorem region_mono {P : Program} {c c' : CallF} (hc : CallLe c c') {pu : FuncId → Bool} {lim : Nat} {dr : List (Nat × Draw)} {id : Nat} {ops : Array Oper} {draw : Bool} {s : St} {r : St}
    (h : region P c pu lim dr id ops draw s = some r) : region P c' pu lim dr id ops draw s = some r := by
  unfold region at *
  split
  · rename_i hd
    simp only [hd, if_true] at h
    split
    · rename_i n hn
      simp only [hn] at h
      split at h
      · rename_i e he
        rw [runQuiet_mono hc _ _ _ _ he]
        simp only [Option.map_eq_some_iff] at h ⊢
        obtain ⟨x, hx, hr⟩ := h
        exact ⟨x, runOps_mono hc _ _ _ _ hx, hr⟩
      · cases h
    · rename_i lead mids fin live keep hn; simp only [hn] at h; exact led_mono hc h
    · rename_i lead mid lead2 mids fin live keep hn; simp only [hn] at h; exact led23_mono hc h
    · rename_i hn; simp only [hn] at h; cases h
  · rename_i hd
    simp only [hd] at h
    simp only [Bool.false_eq_true, if_false, Option.map_eq_some_iff] at h ⊢
    obtain ⟨x, hx, hr⟩ := h
    exact ⟨x, runOps_mono hc _ _ _ _ hx, hr⟩

theorem exec_mono {P : Program} {c c' : CallF} (hc : CallLe c c') {pu : FuncId → Bool} {lim : Nat} {dr : List (Nat × Draw)} : ∀ (n m : Nat), n ≤ m → ∀ (code : Code) (s : St) (r : Ex × St),
    exec P c pu lim dr n code s = some r → exec P c' pu lim dr m code s = some r
  | 0, _, _, _, _, _, h => by cases h
  | n + 1, 0, hle, _, _, _, _ => by omega
  | n + 1, m + 1, hle, code, s, r, h => by
    have ih := exec_mono (P := P) hc (pu := pu) (lim := lim) (dr := dr) n m (by omega)
    cases code <;> simp only [exec] at h ⊢ <;> try exact h
    case region id ops draw =>
      simp only [Option.map_eq_some_iff] at h ⊢
      obtain ⟨x, hx, hr⟩ := h
      exact ⟨x, region_mono hc hx, hr⟩
    case seq a b =>
      split at h
      · rename_i s' ha
        rw [ih _ _ _ ha]
        exact ih _ _ _ h
      · rename_i hr
        cases hx : exec P c pu lim dr n a s with
        | none => rw [hx] at h; cases h
        | some y =>
          rw [ih _ _ _ hx]
          rw [hx] at h hr
          obtain ⟨e, s'⟩ := y
          cases e
          · exact absurd rfl (hr _)
          · exact h
          · exact h
    case cond c x y =>
      split at h
      · rename_i t ht
        split at h
        · rename_i h1; simp only [h1]; exact ih _ _ _ h
        · rename_i h1; simp only [h1]; exact ih _ _ _ h
      · cases h
    case block id b =>
      cases hx : exec P c pu lim dr n b s with
      | none => rw [hx] at h; cases h
      | some y =>
        rw [ih _ _ _ hx]
        rw [hx] at h
        exact h
    case loop b =>
      cases hx : exec P c pu lim dr n b s with
      | none => rw [hx] at h; cases h
      | some y =>
        rw [ih _ _ _ hx]
        rw [hx] at h
        obtain ⟨e, s'⟩ := y
        cases e
        · exact ih _ _ _ h
        · exact h
        · exact h

theorem acall_mono (S : Sig) : ∀ (n m : Nat), n ≤ m → CallLe (acall S n) (acall S m)
  | 0, _, _ => fun _ _ _ _ _ h => by cases h
  | n + 1, 0, h => by omega
  | n + 1, m + 1, hle => by
    intro lim f args H r h
    simp only [acall] at h ⊢
    split
    · rename_i p hp; simp only [hp] at h; exact h
    · rename_i hp
      simp only [hp] at h
      split
      · rename_i fa hf
        simp only [hf] at h
        split
        · rename_i c hb
          simp only [hb] at h
          have ih := acall_mono S n m (by omega)
          by_cases hz : S.fz f = true
          · simp only [hz, if_true] at h ⊢
            cases hx : exec S.P (acall S n) S.pure 0 fa.draws n c ⟨env0 fa.keep (args.map (frz H 0 8)), []⟩ with
            | none => rw [hx] at h; simp [finish] at h
            | some y => rw [exec_mono ih n m (by omega) _ _ _ hx]; rw [hx] at h; exact h
          · simp only [hz, Bool.false_eq_true, if_false] at h ⊢
            cases hx : exec S.P (acall S n) S.pure (if S.own f then lim else H.length) fa.draws n c ⟨env0 fa.keep args, H⟩ with
            | none => rw [hx] at h; simp [finish] at h
            | some y => rw [exec_mono ih n m (by omega) _ _ _ hx]; rw [hx] at h; exact h
        · rename_i hb; simp only [hb] at h; cases h
      · rename_i hf; simp only [hf] at h; exact h

/-! ### Enough for an end -/
section
variable (S : Sig)

/-- The call comes to an end of which K holds. -/
def ACall (lim : Nat) (f : FuncId) (args : List AV) (H : Heap) (K : AV → Heap → Prop) : Prop := ∃ n r H', acall S n lim f args H = some (r, H') ∧ K r H'

def W (lim : Nat) (dr : List (Nat × Draw)) (c : Code) (s : St) (Q : Ex → St → Prop) : Prop := ∃ n e s', exec S.P (acall S n) S.pure lim dr n c s = some (e, s') ∧ Q e s'

def optP {α : Type} (x : Option α) (K : α → Prop) : Prop :=
  match x with
  | some a => K a
  | none => False

def opP (lim : Nat) (o : Op) (e : Env) (H : Heap) (K : AV → Heap → Prop) : Prop :=
  match o with
  | .load t a => optP (loadV S.P H t (evO e a)) (K · H)
  | .move x | .assign x => K (evO e x) H
  | .call { callee := .value f, args, argTypes := _ } =>
    match evO e f with
    | .clo g l => ACall S lim g (args.toList.map (evO e) ++ l) H K
    | _ => False
  | .alloc _ | .box _ _ | .store _ _ _ | .buildSlice _ _ _ | .makeSlice _ _ _ | .call { callee := .builtin .append, args := _, argTypes := _ } => optP (effV S.P lim o (evO e) H) fun r => K r.1 r.2
  | .convert s d x =>
    match convV S.P s d (evO e x) with
    | some y => K y H
    | none => optP (effV S.P lim (.convert s d x) (evO e) H) fun r => K r.1 r.2
  | o => optP (popV S.P o (evO e)) (K · H)

def guardP (ops : Array Oper) (e : Env) (o : Oper) (Y N : Prop) : Prop :=
  match wantedA ops e o with
  | some true => Y
  | some false => N
  | none => False

def Rp (lim : Nat) (ops : Array Oper) : List Oper → Env → Heap → (Env → Heap → Prop) → Prop
  | [], e, H, K => K e H
  | o :: l, e, H, K => guardP ops e o (opP S lim o.op e H fun x H' => Rp lim ops l (e.put o.dst x) H' K) (Rp lim ops l (e.put o.dst (.v undef)) H K)

/-- A call in a region that draws its order: its answer must be the same in every world. -/
def opQ (o : Op) (e : Env) (H : Heap) (K : AV → Prop) : Prop :=
  match o with
  | .load t a => optP (loadV S.P H t (evO e a)) K
  | .move x | .assign x => K (evO e x)
  | .call { callee := .value f, args, argTypes := _ } =>
    match evO e f with
    | .clo g l => S.pure g = true ∧ ACall S H.length g (args.toList.map (evO e) ++ l) H fun x _ => exacts x = true ∧ K x
    | _ => False
  | o => optP (popV S.P o (evO e)) K

def Qp (ops : Array Oper) : List Oper → Env → Heap → (Env → Prop) → Prop
  | [], e, _, K => K e
  | o :: l, e, H, K => guardP ops e o (opQ S o.op e H fun x => Qp ops l (e.put o.dst x) H K) (Qp ops l (e.put o.dst (.v undef)) H K)

variable {S}

theorem opV_of_opP {lim : Nat} {o : Op} {e : Env} {H : Heap} {K : AV → Heap → Prop} (h : opP S lim o e H K) : ∃ n x H', opV S.P (acall S n) lim o e H = some (x, H') ∧ K x H' := by
  unfold opP at h
  split at h
  · rename_i t a
    unfold optP at h
    split at h
    · rename_i x hx; exact ⟨0, x, H, by simp [opV, isLoad, hx], h⟩
    · exact h.elim
  · exact ⟨0, _, H, by simp [opV, isLoad, callV, popV], h⟩
  · exact ⟨0, _, H, by simp [opV, isLoad, callV, popV], h⟩
  · rename_i f args _
    split at h
    · rename_i g l hf
      obtain ⟨n, r, H', hc, hk⟩ := h
      exact ⟨n, r, H', by simp [opV, isLoad, callV, hf, hc], hk⟩
    · exact h.elim
  · unfold optP at h
    split at h
    · rename_i x hx; exact ⟨0, x.1, x.2, by simp [opV, isLoad, callV, popV, hx], h⟩
    · exact h.elim
  · unfold optP at h
    split at h
    · rename_i x hx; exact ⟨0, x.1, x.2, by simp [opV, isLoad, callV, popV, hx], h⟩
    · exact h.elim
  · unfold optP at h
    split at h
    · rename_i x hx; exact ⟨0, x.1, x.2, by simp [opV, isLoad, callV, popV, hx], h⟩
    · exact h.elim
  · unfold optP at h
    split at h
    · rename_i x hx; exact ⟨0, x.1, x.2, by simp [opV, isLoad, callV, popV, hx], h⟩
    · exact h.elim
  · unfold optP at h
    split at h
    · rename_i x hx; exact ⟨0, x.1, x.2, by simp [opV, isLoad, callV, popV, hx], h⟩
    · exact h.elim
  · unfold optP at h
    split at h
    · rename_i x hx; exact ⟨0, x.1, x.2, by simp [opV, isLoad, callV, popV, hx], h⟩
    · exact h.elim
  · split at h
    · rename_i y hy; exact ⟨0, y, H, by simp [opV, isLoad, callV, popV, hy], h⟩
    · rename_i hn
      unfold optP at h
      split at h
      · rename_i x hx; exact ⟨0, x.1, x.2, by simp [opV, isLoad, callV, popV, hn, hx], h⟩
      · exact h.elim
  · rename_i h1 h2 h3 h4 h5 h6 h7 h8 h9 h10 h11
    unfold optP at h
    split at h
    · rename_i x hx
      refine ⟨0, x, H, ?_, h⟩
      have e1 : isLoad o = none := by unfold isLoad; split <;> first | rfl | (exact absurd rfl (h1 _ _))
      have e2 : callV o (evO e) = none := by
        unfold callV
        split
        · exact absurd rfl (h4 _ _ _)
        · rfl
      simp [opV, e1, e2, hx]
    · exact h.elim

theorem runOps_of_Rp {lim : Nat} {ops : Array Oper} : ∀ (l : List Oper) (e : Env) (H : Heap) (K : Env → Heap → Prop), Rp S lim ops l e H K → ∃ n e' H', runOps S.P (acall S n) lim ops l e H = some (e', H') ∧ K e' H'
  | [], e, H, K, h => ⟨0, e, H, rfl, h⟩
  | o :: l, e, H, K, h => by
    simp only [Rp, guardP] at h
    split at h
    · rename_i hw
      obtain ⟨n, x, H', ho, hr⟩ := opV_of_opP h
      obtain ⟨m, e', H'', hm, hk⟩ := runOps_of_Rp l _ _ _ hr
      refine ⟨max n m, e', H'', ?_, hk⟩
      simp only [runOps, hw, opV_mono (acall_mono S n (max n m) (by omega)) ho]
      exact runOps_mono (acall_mono S m (max n m) (by omega)) _ _ _ _ hm
    · rename_i hw
      obtain ⟨m, e', H'', hm, hk⟩ := runOps_of_Rp l _ _ _ h
      exact ⟨m, e', H'', by simp only [runOps, hw]; exact hm, hk⟩
    · exact h.elim

theorem quietV_of_opQ {o : Op} {e : Env} {H : Heap} {K : AV → Prop} (h : opQ S o e H K) : ∃ n x, quietV S.P (acall S n) S.pure o e H = some x ∧ K x := by
  unfold opQ at h
  split at h
  · rename_i t a
    unfold optP at h
    split at h
    · rename_i x hx; exact ⟨0, x, by simp [quietV, isLoad, hx], h⟩
    · exact h.elim
  · exact ⟨0, _, by simp [quietV, isLoad, callV, popV], h⟩
  · exact ⟨0, _, by simp [quietV, isLoad, callV, popV], h⟩
  · rename_i f args _
    split at h
    · rename_i g l hf
      obtain ⟨hp, n, r, H', hc, hk, hk'⟩ := h
      exact ⟨n, r, by simp [quietV, isLoad, callV, hf, hp, hc, hk], hk'⟩
    · exact h.elim
  · rename_i h1 h2 h3 h4
    unfold optP at h
    split at h
    · rename_i x hx
      refine ⟨0, x, ?_, h⟩
      have e1 : isLoad o = none := by unfold isLoad; split <;> first | rfl | (exact absurd rfl (h1 _ _))
      have e2 : callV o (evO e) = none := by
        unfold callV
        split
        · exact absurd rfl (h4 _ _ _)
        · rfl
      simp [quietV, e1, e2, hx]
    · exact h.elim

theorem runQuiet_of_Qp {ops : Array Oper} : ∀ (l : List Oper) (e : Env) (H : Heap) (K : Env → Prop), Qp S ops l e H K → ∃ n e', runQuiet S.P (acall S n) S.pure ops l e H = some e' ∧ K e'
  | [], e, H, K, h => ⟨0, e, rfl, h⟩
  | o :: l, e, H, K, h => by
    simp only [Qp, guardP] at h
    split at h
    · rename_i hw
      obtain ⟨n, x, ho, hr⟩ := quietV_of_opQ h
      obtain ⟨m, e', hm, hk⟩ := runQuiet_of_Qp l _ _ _ hr
      refine ⟨max n m, e', ?_, hk⟩
      simp only [runQuiet, hw, quietV_mono (acall_mono S n (max n m) (by omega)) ho]
      exact runQuiet_mono (acall_mono S m (max n m) (by omega)) _ _ _ _ hm
    · rename_i hw
      obtain ⟨m, e', hm, hk⟩ := runQuiet_of_Qp l _ _ _ h
      exact ⟨m, e', by simp only [runQuiet, hw]; exact hm, hk⟩
    · exact h.elim

variable {lim : Nat} {dr : List (Nat × Draw)} {s : St} {Q : Ex → St → Prop}

theorem W_mono {c : Code} {Q' : Ex → St → Prop} (h : W S lim dr c s Q) (hq : ∀ e s, Q e s → Q' e s) : W S lim dr c s Q' :=
  let ⟨n, e, s', h1, h2⟩ := h
  ⟨n, e, s', h1, hq _ _ h2⟩

theorem W_skip (h : Q .normal s) : W S lim dr .skip s Q := ⟨1, .normal, s, rfl, h⟩
theorem W_ret (h : Q .ret s) : W S lim dr .ret s Q := ⟨1, .ret, s, rfl, h⟩
theorem W_exit {id : Nat} (h : Q (.exit id) s) : W S lim dr (.exit id) s Q := ⟨1, .exit id, s, rfl, h⟩

def thenQ (N : St → Prop) (Q : Ex → St → Prop) : Ex → St → Prop
  | .normal, s => N s
  | e, s => Q e s

theorem W_seq {a b : Code} (h : W S lim dr a s (thenQ (fun s' => W S lim dr b s' Q) Q)) : W S lim dr (.seq a b) s Q := by
  obtain ⟨n, e, s', h1, h2⟩ := h
  cases e with
  | normal =>
    obtain ⟨m, e', s'', h3, h4⟩ := h2
    refine ⟨max n m + 1, e', s'', ?_, h4⟩
    simp only [exec]
    rw [exec_mono (acall_mono S n (max n m + 1) (by omega)) n (max n m) (by omega) _ _ _ h1]
    exact exec_mono (acall_mono S m (max n m + 1) (by omega)) m (max n m) (by omega) _ _ _ h3
  | exit id =>
    refine ⟨n + 1, _, s', ?_, h2⟩
    simp only [exec]
    rw [exec_mono (acall_mono S n (n + 1) (by omega)) n n (by omega) _ _ _ h1]
  | ret =>
    refine ⟨n + 1, _, s', ?_, h2⟩
    simp only [exec]
    rw [exec_mono (acall_mono S n (n + 1) (by omega)) n n (by omega) _ _ _ h1]

theorem W_cond {c : Operand} {x y : Code} {t : Bool} (hc : evO s.loc c = .v (.bool t)) (h1 : t = true → W S lim dr x s Q) (h2 : t = false → W S lim dr y s Q) : W S lim dr (.cond c x y) s Q := by
  cases t with
  | true =>
    obtain ⟨n, e, s', h3, h4⟩ := h1 rfl
    refine ⟨n + 1, e, s', ?_, h4⟩
    simp only [exec, hc, if_true]
    exact exec_mono (acall_mono S n (n + 1) (by omega)) n n (by omega) _ _ _ h3
  | false =>
    obtain ⟨n, e, s', h3, h4⟩ := h2 rfl
    refine ⟨n + 1, e, s', ?_, h4⟩
    simp only [exec, hc, Bool.false_eq_true, if_false]
    exact exec_mono (acall_mono S n (n + 1) (by omega)) n n (by omega) _ _ _ h3

def blockQ (id : Nat) (Q : Ex → St → Prop) : Ex → St → Prop
  | .exit j, s => if j = id then Q .normal s else Q (.exit j) s
  | e, s => Q e s

theorem W_block {id : Nat} {b : Code} (h : W S lim dr b s (blockQ id Q)) : W S lim dr (.block id b) s Q := by
  obtain ⟨n, e, s', h1, h2⟩ := h
  have h3 := exec_mono (acall_mono S n (n + 1) (by omega)) n n (by omega) _ _ _ h1
  cases e with
  | normal => exact ⟨n + 1, .normal, s', by simp only [exec]; rw [h3], h2⟩
  | ret => exact ⟨n + 1, .ret, s', by simp only [exec]; rw [h3], h2⟩
  | exit j =>
    by_cases hj : j = id
    · simp only [blockQ, hj, if_true] at h2
      exact ⟨n + 1, .normal, s', by simp only [exec]; rw [h3]; simp [hj], h2⟩
    · simp only [blockQ, hj, if_false] at h2
      exact ⟨n + 1, .exit j, s', by simp only [exec]; rw [h3]; simp [hj], h2⟩

theorem W_loop {b : Code} (h : W S lim dr b s (thenQ (fun s' => W S lim dr (.loop b) s' Q) Q)) : W S lim dr (.loop b) s Q := by
  obtain ⟨n, e, s', h1, h2⟩ := h
  cases e with
  | normal =>
    obtain ⟨m, e', s'', h3, h4⟩ := h2
    refine ⟨max n m + 1, e', s'', ?_, h4⟩
    simp only [exec]
    rw [exec_mono (acall_mono S n (max n m + 1) (by omega)) n (max n m) (by omega) _ _ _ h1]
    exact exec_mono (acall_mono S m (max n m + 1) (by omega)) m (max n m) (by omega) _ _ _ h3
  | exit id =>
    refine ⟨n + 1, _, s', ?_, h2⟩
    simp only [exec]
    rw [exec_mono (acall_mono S n (n + 1) (by omega)) n n (by omega) _ _ _ h1]
  | ret =>
    refine ⟨n + 1, _, s', ?_, h2⟩
    simp only [exec]
    rw [exec_mono (acall_mono S n (n + 1) (by omega)) n n (by omega) _ _ _ h1]

/-- A loop by what holds at every round's head, and a number that every round lowers. -/
theorem W_loop_inv {b : Code} (I : St → Prop) (μ : St → Nat) (h0 : I s) (round : ∀ s, I s → W S lim dr b s (thenQ (fun s' => I s' ∧ μ s' < μ s) Q)) : W S lim dr (.loop b) s Q := by
  have key : ∀ n s, μ s = n → I s → W S lim dr (.loop b) s Q := by
    intro n
    induction n using Nat.strongRecOn with
    | _ n ih =>
      intro s hn hI
      refine W_loop (W_mono (round s hI) fun e s' h => ?_)
      cases e with
      | normal => exact ih (μ s') (hn ▸ h.2) s' rfl h.1
      | exit id => exact h
      | ret => exact h
  exact key _ s rfl h0

theorem W_region {id : Nat} {ops : Array Oper} (h : Rp S lim ops ops.toList s.loc s.H fun e H => Q .normal ⟨trim e s.loc, H⟩) : W S lim dr (.region id ops false) s Q := by
  obtain ⟨n, e, H, h1, h2⟩ := runOps_of_Rp _ _ _ _ h
  refine ⟨n + 1, .normal, _, ?_, h2⟩
  simp only [exec, region, Bool.false_eq_true, if_false]
  rw [runOps_mono (acall_mono S n (n + 1) (by omega)) _ _ _ _ h1]
  rfl

theorem W_region_draw {id n : Nat} {ops : Array Oper} (hd : dr.lookup id = some (.quiet n))
    (h : Qp S ops (ops.toList.take n) s.loc s.H fun e => Rp S lim ops (ops.toList.drop n) e s.H fun e H => Q .normal ⟨trim e s.loc, H⟩) : W S lim dr (.region id ops true) s Q := by
  obtain ⟨k, e, h1, h2⟩ := runQuiet_of_Qp _ _ _ _ h
  obtain ⟨m, e', H, h3, h4⟩ := runOps_of_Rp _ _ _ _ h2
  refine ⟨max k m + 1, .normal, _, ?_, h4⟩
  simp only [exec, region, if_true, hd]
  rw [runQuiet_mono (acall_mono S k (max k m + 1) (by omega)) _ _ _ _ h1]
  simp only
  rw [runOps_mono (acall_mono S m (max k m + 1) (by omega)) _ _ _ _ h3]
  rfl

/-! ### Calls -/
theorem ACall_mono {f : FuncId} {args : List AV} {H : Heap} {K K' : AV → Heap → Prop} (h : ACall S lim f args H K) (hk : ∀ r H', K r H' → K' r H') : ACall S lim f args H K' :=
  let ⟨n, r, H', h1, h2⟩ := h
  ⟨n, r, H', h1, hk _ _ h2⟩

def retP (S : Sig) (own : Bool) (fa : FnA) (H0 : Heap) (K : AV → Heap → Prop) : Ex → St → Prop
  | .exit _, _ => False
  | _, s => optP (resAll S.P s.loc s.H fa.fn.results.toList) fun l => if own then K (oneOr l) s.H else K (frz s.H H0.length 8 (oneOr l)) H0

theorem ACall_fn {f : FuncId} {fa : FnA} {c : Code} {args : List AV} {H : Heap} {K : AV → Heap → Prop} (hp : S.prim f = none) (hf : S.fns f = some fa) (hb : fa.fn.body = some c) (hz : S.fz f = false)
    (h : W S (if S.own f then lim else H.length) fa.draws c ⟨env0 fa.keep args, H⟩ (retP S (S.own f) fa H K)) : ACall S lim f args H K := by
  obtain ⟨n, e, s', h1, h2⟩ := h
  have fin : ∀ e', e' ≠ Ex.exit 0 → True := fun _ _ => trivial
  have go : ∀ (hh : optP (resAll S.P s'.loc s'.H fa.fn.results.toList) fun l => if S.own f then K (oneOr l) s'.H else K (frz s'.H H.length 8 (oneOr l)) H) (hne : ∀ id, e ≠ .exit id),
      ∃ n r H', acall S n lim f args H = some (r, H') ∧ K r H' := by
    intro hh hne
    unfold optP at hh
    split at hh
    · rename_i l hl
      by_cases ho : S.own f = true
      · simp only [ho, if_true] at hh
        refine ⟨n + 1, _, _, ?_, hh⟩
        simp only [acall, hp, hf, hb, hz, Bool.false_eq_true, if_false]
        rw [h1]
        cases e <;> first | exact absurd rfl (hne _) | simp [finish, hl, ho]
      · simp only [ho] at hh
        refine ⟨n + 1, _, _, ?_, hh⟩
        simp only [acall, hp, hf, hb, hz, Bool.false_eq_true, if_false]
        rw [h1]
        cases e <;> first | exact absurd rfl (hne _) | simp [finish, hl, ho]
    · exact hh.elim
  cases e with
  | normal => exact go h2 (by simp)
  | ret => exact go h2 (by simp)
  | exit id => exact h2.elim

def bodyOf (fa : FnA) : Code := fa.fn.body.getD .skip
theorem ACall_at {f : FuncId} {fa : FnA} {args : List AV} {H : Heap} {K : AV → Heap → Prop} (hp : S.prim f = none) (hf : S.fns f = some fa) (hb : fa.fn.body.isSome = true) {own : Bool} (ho : S.own f = own) (hz : S.fz f = false)
    (h : W S (if own then lim else H.length) fa.draws (bodyOf fa) ⟨env0 fa.keep args, H⟩ (retP S own fa H K)) : ACall S lim f args H K := by
  subst ho
  exact ACall_fn hp hf (c := bodyOf fa) (by unfold bodyOf; cases hh : fa.fn.body with | none => rw [hh] at hb; cases hb | some c => rfl) hz h
/-- A function of plain answers: what the caller's memory holds is taken as data. -/
theorem ACall_fz {f : FuncId} {fa : FnA} {args : List AV} {H : Heap} {K : AV → Heap → Prop} (hp : S.prim f = none) (hf : S.fns f = some fa) (hb : fa.fn.body.isSome = true) (hz : S.fz f = true) {args' : List AV} (ha : args.map (frz H 0 8) = args')
    (h : W S 0 fa.draws (bodyOf fa) ⟨env0 fa.keep args', []⟩ (retP S false fa [] fun r _ => exacts r = true ∧ K r H)) : ACall S lim f args H K := by
  subst ha
  have hb' : fa.fn.body = some (bodyOf fa) := by unfold bodyOf; cases hh : fa.fn.body with | none => rw [hh] at hb; cases hb | some c => rfl
  obtain ⟨n, e, s', h1, h2⟩ := h
  have go : ∀ (hh : optP (resAll S.P s'.loc s'.H fa.fn.results.toList) fun l => exacts (frz s'.H 0 8 (oneOr l)) = true ∧ K (frz s'.H 0 8 (oneOr l)) H) (hne : ∀ id, e ≠ .exit id),
      ∃ n r H', acall S n lim f args H = some (r, H') ∧ K r H' := by
    intro hh hne
    unfold optP at hh
    split at hh
    · rename_i l hl
      refine ⟨n + 1, _, H, ?_, hh.2⟩
      simp only [acall, hp, hf, hb', hz, if_true]
      rw [h1]
      cases e <;> first | exact absurd rfl (hne _) | simp [finish, hl, hh.1]
    · exact hh.elim
  cases e with
  | normal => exact go (by simpa [retP] using h2) (by simp)
  | ret => exact go (by simpa [retP] using h2) (by simp)
  | exit id => exact h2.elim

theorem ACall_prim {f : FuncId} {p : List AV → Heap → Option AV} {args : List AV} {H : Heap} {K : AV → Heap → Prop} {r : AV} (hp : S.prim f = some p) (hr : p args H = some r) (hk : K r H) : ACall S lim f args H K :=
  ⟨1, r, H, by simp [acall, hp, hr], hk⟩

theorem ACall_eff {f : FuncId} {p : Nat → List AV → Heap → Option (AV × Heap)} {args : List AV} {H H' : Heap} {K : AV → Heap → Prop} {r : AV} (hp : S.prim f = none) (hf : S.fns f = none) (he : S.eff f = some p) (hr : p lim args H = some (r, H')) (hk : K r H') : ACall S lim f args H K :=
  ⟨1, r, H', by simp [acall, hp, hf, he, hr], hk⟩

/-- A closed call, by evaluation. -/
theorem ACall_eval {f : FuncId} {args : List AV} {H : Heap} {K : AV → Heap → Prop} (n : Nat) {r : AV} {H' : Heap} (h : acall S n lim f args H = some (r, H')) (hk : K r H') : ACall S lim f args H K := ⟨n, r, H', h, hk⟩

/-! ### Code by its place: 0 the left part (a body, the way 'yes'), 1 the right part (the way 'no') -/
def Cl : Code → Code
  | .seq a _ => a
  | .cond _ a _ => a
  | .block _ b => b
  | .loop b => b
  | _ => .skip
def Cr : Code → Code
  | .seq _ b => b
  | .cond _ _ b => b
  | _ => .skip
def at' (c : Code) : List Nat → Code
  | [] => c
  | 0 :: p => Cl (at' c p)
  | _ :: p => Cr (at' c p)

theorem at_seq {c : Code} {p : List Nat} (h : at' c p = .seq (at' c (0 :: p)) (at' c (1 :: p))) (hw : W S lim dr (at' c (0 :: p)) s (thenQ (fun s' => W S lim dr (at' c (1 :: p)) s' Q) Q)) : W S lim dr (at' c p) s Q := by
  rw [h]; exact W_seq hw
theorem at_cond {c : Code} {p : List Nat} {o : Operand} {t : Bool} (h : at' c p = .cond o (at' c (0 :: p)) (at' c (1 :: p))) (hc : evO s.loc o = .v (.bool t)) (h1 : t = true → W S lim dr (at' c (0 :: p)) s Q) (h2 : t = false → W S lim dr (at' c (1 :: p)) s Q) : W S lim dr (at' c p) s Q := by
  rw [h]; exact W_cond hc h1 h2
theorem at_block {c : Code} {p : List Nat} {id : Nat} (h : at' c p = .block id (at' c (0 :: p))) (hw : W S lim dr (at' c (0 :: p)) s (blockQ id Q)) : W S lim dr (at' c p) s Q := by
  rw [h]; exact W_block hw
theorem at_loop {c : Code} {p : List Nat} (h : at' c p = .loop (at' c (0 :: p))) (I : St → Prop) (μ : St → Nat) (h0 : I s) (round : ∀ s, I s → W S lim dr (at' c (0 :: p)) s (thenQ (fun s' => I s' ∧ μ s' < μ s) Q)) : W S lim dr (at' c p) s Q := by
  rw [h]; exact W_loop_inv I μ h0 round
theorem at_region {c : Code} {p : List Nat} {id : Nat} {ops : Array Oper} (h : at' c p = .region id ops false) (hw : Rp S lim ops ops.toList s.loc s.H fun e H => Q .normal ⟨trim e s.loc, H⟩) : W S lim dr (at' c p) s Q := by
  rw [h]; exact W_region hw
theorem at_draw {c : Code} {p : List Nat} {id n : Nat} {ops : Array Oper} (h : at' c p = .region id ops true) (hd : dr.lookup id = some (.quiet n))
    (hw : Qp S ops (ops.toList.take n) s.loc s.H fun e => Rp S lim ops (ops.toList.drop n) e s.H fun e H => Q .normal ⟨trim e s.loc, H⟩) : W S lim dr (at' c p) s Q := by
  rw [h]; exact W_region_draw hd hw
theorem at_skip {c : Code} {p : List Nat} (h : at' c p = .skip) (hw : Q .normal s) : W S lim dr (at' c p) s Q := by
  rw [h]; exact W_skip hw
theorem at_ret {c : Code} {p : List Nat} (h : at' c p = .ret) (hw : Q .ret s) : W S lim dr (at' c p) s Q := by
  rw [h]; exact W_ret hw
theorem at_exit {c : Code} {p : List Nat} {id : Nat} (h : at' c p = .exit id) (hw : Q (.exit id) s) : W S lim dr (at' c p) s Q := by
  rw [h]; exact W_exit hw
theorem ACall_pure {f : FuncId} {fa : FnA} {args : List AV} {H : Heap} {K : AV → Heap → Prop} (hp : S.prim f = none) (hf : S.fns f = some fa) (hb : fa.fn.body.isSome = true) (ho : S.own f = false)
    (h : W S H.length fa.draws (at' (bodyOf fa) []) ⟨env0 fa.keep args, H⟩ (retP S false fa H K)) (hz : S.fz f = false := by rfl) : ACall S lim f args H K := ACall_at hp hf hb ho hz h
theorem ACall_data {f : FuncId} {fa : FnA} {args : List AV} {H : Heap} {K : AV → Heap → Prop} (hp : S.prim f = none) (hf : S.fns f = some fa) (hb : fa.fn.body.isSome = true) (hz : S.fz f = true) {args' : List AV} (ha : args.map (frz H 0 8) = args')
    (h : W S 0 fa.draws (at' (bodyOf fa) []) ⟨env0 fa.keep args', []⟩ (retP S false fa [] fun r _ => exacts r = true ∧ K r H)) : ACall S lim f args H K := ACall_fz hp hf hb hz ha h
theorem ACall_own {f : FuncId} {fa : FnA} {args : List AV} {H : Heap} {K : AV → Heap → Prop} (hp : S.prim f = none) (hf : S.fns f = some fa) (hb : fa.fn.body.isSome = true) (ho : S.own f = true)
    (h : W S lim fa.draws (at' (bodyOf fa) []) ⟨env0 fa.keep args, H⟩ (retP S true fa H K)) (hz : S.fz f = false := by rfl) : ACall S lim f args H K := ACall_at hp hf hb ho hz h

/-! ### A region whose order is drawn, by a checked order -/
/-- Those that are taken first. -/
def Lp (S : Sig) (ops : Array Oper) (H : Heap) (K : Env → List Nat → Prop) : List Oper → Env → List Nat → Prop
  | [], e, R => K e R
  | o :: l, e, R => guardP ops e o (optP (takeV S.P o.op e H) fun x => Lp S ops H K l (e.put o.dst x) (rdV o.op e ++ R)) (Lp S ops H K l (e.put o.dst (.v undef)) R)
theorem runLead_of_Lp {S : Sig} {ops : Array Oper} {H : Heap} {K : Env → List Nat → Prop} : ∀ (l : List Oper) (e : Env) (R : List Nat), Lp S ops H K l e R → ∃ e' R', runLead S.P ops l e H R = some (e', R') ∧ K e' R'
  | [], e, R, h => ⟨e, R, rfl, h⟩
  | o :: l, e, R, h => by
    simp only [Lp, guardP] at h
    split at h
    · rename_i hw
      unfold optP at h
      split at h
      · rename_i x hx
        obtain ⟨e', R', h1, h2⟩ := runLead_of_Lp l _ _ h
        exact ⟨e', R', by simp only [runLead, hw, hx]; exact h1, h2⟩
      · exact h.elim
    · rename_i hw
      obtain ⟨e', R', h1, h2⟩ := runLead_of_Lp l _ _ h
      exact ⟨e', R', by simp only [runLead, hw]; exact h1, h2⟩
    · exact h.elim
/-- Those in the middle, one by one. -/
def Mp (S : Sig) (lim : Nat) (ops : Array Oper) (R : List Nat) (K : Env → Heap → Prop) : List Oper → Env → Heap → Prop
  | [], e, H => K e H
  | o :: l, e, H => wrC R o e = true ∧ Rp S lim ops [o] e H fun e' H' => Mp S lim ops R K l e' H'
theorem runMid_of_Mp {S : Sig} {lim : Nat} {ops : Array Oper} {R : List Nat} {K : Env → Heap → Prop} : ∀ (l : List Oper) (e : Env) (H : Heap), Mp S lim ops R K l e H → ∃ n e' H', runMid S.P (acall S n) lim ops R l e H = some (e', H') ∧ K e' H'
  | [], e, H, h => ⟨0, e, H, rfl, h⟩
  | o :: l, e, H, h => by
    obtain ⟨hc, h⟩ := h
    simp only [Rp, guardP] at h
    split at h
    · rename_i hw
      obtain ⟨n, x, H', ho, hr⟩ := opV_of_opP h
      obtain ⟨m, e', H'', hm, hk⟩ := runMid_of_Mp l _ _ hr
      refine ⟨max n m, e', H'', ?_, hk⟩
      simp only [runMid, hc, if_true, hw, opV_mono (acall_mono S n (max n m) (by omega)) ho]
      exact runMid_mono (acall_mono S m (max n m) (by omega)) _ _ _ _ hm
    · rename_i hw
      obtain ⟨m, e', H'', hm, hk⟩ := runMid_of_Mp l _ _ h
      exact ⟨m, e', H'', by simp only [runMid, hc, if_true, hw]; exact hm, hk⟩
    · exact h.elim
theorem at_led {S : Sig} {lim : Nat} {dr : List (Nat × Draw)} {s : St} {Q : Ex → St → Prop} {c : Code} {p : List Nat} {id : Nat} {ops : Array Oper} {lead m fin live keep : List Nat} (h : at' c p = .region id ops true) (hd : dr.lookup id = some (.led lead [m] fin live keep))
    (hw : Lp S ops s.H (fun e R => Mp S lim ops R (fun e1 H1 => Rp S lim ops (pick ops fin) e1 H1 fun e' H' => Q .normal ⟨trim e' s.loc, H'⟩) (pick ops m) e s.H) (pick ops lead) s.loc []) : W S lim dr (at' c p) s Q := by
  rw [h]
  obtain ⟨e, R, h1, hw⟩ := runLead_of_Lp _ _ _ hw
  obtain ⟨n1, e1, H1, h2, hw⟩ := runMid_of_Mp _ _ _ hw
  obtain ⟨n2, e2, H2, h3, hw⟩ := runOps_of_Rp _ _ _ _ hw
  refine ⟨max n1 n2 + 1, .normal, ⟨trim e2 s.loc, H2⟩, ?_, hw⟩
  simp only [exec, region, if_true, hd, led, h1, runMid_mono (acall_mono S n1 (max n1 n2 + 1) (by omega)) _ _ _ _ h2, runOps_mono (acall_mono S n2 (max n1 n2 + 1) (by omega)) _ _ _ _ h3, Option.map_some]
/-- The other orders, symbolically. -/
def Alts (S : Sig) (ops : Array Oper) (live keep : List Nat) (n0 : Nat) (e : Env) (H : Heap) (e0 : Env) (H0 : Heap) : List (List Nat) → Prop
  | [] => True
  | m :: ms => Rp S n0 ops (pick ops m) e H (fun e1 H1 => SameUp n0 live keep e0 H0 e1 H1) ∧ Alts S ops live keep n0 e H e0 H0 ms
theorem altsOK_of {S : Sig} {ops : Array Oper} {live keep : List Nat} {n0 : Nat} {e : Env} {H : Heap} {e0 : Env} {H0 : Heap} : ∀ (ms : List (List Nat)), Alts S ops live keep n0 e H e0 H0 ms → ∃ n, altsOK S.P (acall S n) ops live keep n0 e H e0 H0 ms = true
  | [], _ => ⟨0, rfl⟩
  | m :: ms, h => by
    obtain ⟨n1, e1, H1, h1, h2⟩ := runOps_of_Rp _ _ _ _ h.1
    obtain ⟨n2, h3⟩ := altsOK_of ms h.2
    refine ⟨max n1 n2, ?_⟩
    simp only [altsOK, runOps_mono (acall_mono S n1 (max n1 n2) (by omega)) _ _ _ _ h1, altsOK_mono (acall_mono S n2 (max n1 n2) (by omega)) _ h3, Bool.and_true, Bool.or_eq_true, decide_eq_true_eq]
    exact .inr h2
theorem at_leds {S : Sig} {lim : Nat} {dr : List (Nat × Draw)} {s : St} {Q : Ex → St → Prop} {c : Code} {p : List Nat} {id : Nat} {ops : Array Oper} {lead m m2 fin live keep : List Nat} {ms : List (List Nat)} (h : at' c p = .region id ops true) (hd : dr.lookup id = some (.led lead (m :: m2 :: ms) fin live keep))
    (hw : Lp S ops s.H (fun e _ => ∃ e1 H1, Rp S s.H.length ops (pick ops m) e s.H (fun e' H' => e' = e1 ∧ H' = H1) ∧ Alts S ops live keep s.H.length e s.H e1 H1 (m2 :: ms) ∧
      Rp S lim ops (pick ops fin) (cutE ops live s.loc e1) (keepOnly keep s.H.length H1) fun e' H' => Q .normal ⟨trim e' s.loc, H'⟩) (pick ops lead) s.loc []) : W S lim dr (at' c p) s Q := by
  rw [h]
  obtain ⟨e, R, h1, e1, H1, hw, ha, hf⟩ := runLead_of_Lp _ _ _ hw
  obtain ⟨n1, e1', H1', h2, rfl, rfl⟩ := runOps_of_Rp _ _ _ _ hw
  obtain ⟨n2, h3⟩ := altsOK_of _ ha
  obtain ⟨n3, e3, H3, h4, hw⟩ := runOps_of_Rp _ _ _ _ hf
  refine ⟨max n1 (max n2 n3) + 1, .normal, ⟨trim e3 s.loc, H3⟩, ?_, hw⟩
  simp only [exec, region, if_true, hd, led, h1, runOps_mono (acall_mono S n1 (max n1 (max n2 n3) + 1) (by omega)) _ _ _ _ h2, altsOK_mono (acall_mono S n2 (max n1 (max n2 n3) + 1) (by omega)) _ h3, runOps_mono (acall_mono S n3 (max n1 (max n2 n3) + 1) (by omega)) _ _ _ _ h4, Option.map_some]

/-! ### Forms for simp -/
theorem guardP_free (ops : Array Oper) (e : Env) (d : Option Tmp) (op : Op) (ty : TypeId) (pos : String) (af : Array Edge) (Y N : Prop) : guardP ops e ⟨d, op, ty, pos, af, none⟩ Y N = Y := rfl
def guardB (x : AV) (want : Bool) (Y N : Prop) : Prop :=
  match x with
  | .v (.bool b) => (b = want → Y) ∧ (b = !want → N)
  | .v _ => N
  | _ => False
theorem guardP_on (ops : Array Oper) (e : Env) (d : Option Tmp) (op : Op) (ty : TypeId) (pos : String) (af : Array Edge) (j : Nat) (want : Bool) (Y N : Prop) {t : Nat} (h : (ops[j]?).bind (·.dst) = some t) :
    guardP ops e ⟨d, op, ty, pos, af, some (j, want)⟩ Y N ↔ guardB (e.get t) want Y N := by
  unfold guardP wantedA guardB
  simp only [h]
  cases hx : e.get t with
  | v x =>
    cases x with
    | bool b => cases b <;> cases want <;> simp
    | _ => simp
  | _ => simp
theorem optP_some {α : Type} (x : α) (K : α → Prop) : optP (some x) K = K x := rfl
theorem optP_none {α : Type} (K : α → Prop) : optP none K = False := rfl
theorem optP_ite {α : Type} (c : Prop) [Decidable c] (x : Option α) (K : α → Prop) : optP (if c then x else none) K ↔ c ∧ optP x K := by
  by_cases h : c <;> simp [h, optP]
theorem optP_ite' {α : Type} (c : Prop) [Decidable c] (x : Option α) (K : α → Prop) : optP (if c then none else x) K ↔ ¬ c ∧ optP x K := by
  by_cases h : c <;> simp [h, optP]

/-! ### What simp looks into, and what not -/
@[congr] theorem optP_congr {α : Type} {x x' : Option α} (K : α → Prop) (h : x = x') : optP x K = optP x' K := by rw [h]
@[congr] theorem Rp_congr (lim : Nat) (ops : Array Oper) (l : List Oper) {e e' : Env} {H H' : Heap} (K : Env → Heap → Prop) (h : e = e') (h' : H = H') : Rp S lim ops l e H K = Rp S lim ops l e' H' K := by rw [h, h']
@[congr] theorem Qp_congr (ops : Array Oper) (l : List Oper) {e e' : Env} (H : Heap) (K : Env → Prop) (h : e = e') : Qp S ops l e H K = Qp S ops l e' H K := by rw [h]
@[congr] theorem opP_congr (lim : Nat) (o : Op) (e : Env) (H : Heap) (K : AV → Heap → Prop) : opP S lim o e H K = opP S lim o e H K := rfl
@[congr] theorem opQ_congr (o : Op) (e : Env) (H : Heap) (K : AV → Prop) : opQ S o e H K = opQ S o e H K := rfl
@[congr] theorem guardP_congr (ops : Array Oper) (e : Env) (o : Oper) (Y N : Prop) : guardP ops e o Y N = guardP ops e o Y N := rfl
@[congr] theorem guardB_congr {x x' : AV} (want : Bool) (Y N : Prop) (h : x = x') : guardB x want Y N = guardB x' want Y N := by rw [h]
@[congr] theorem W_congr (lim : Nat) (dr : List (Nat × Draw)) (c : Code) {s s' : St} (Q : Ex → St → Prop) (h : s = s') : W S lim dr c s Q = W S lim dr c s' Q := by rw [h]
@[congr] theorem ACall_congr (lim : Nat) (f : FuncId) {args args' : List AV} (H : Heap) (K : AV → Heap → Prop) (h : args = args') : ACall S lim f args H K = ACall S lim f args' H K := by rw [h]
@[congr] theorem thenQ_congr (N : St → Prop) (Q : Ex → St → Prop) (x : Ex) (s : St) : thenQ N Q x s = thenQ N Q x s := rfl
@[congr] theorem blockQ_congr (id : Nat) (Q : Ex → St → Prop) (x : Ex) (s : St) : blockQ id Q x s = blockQ id Q x s := rfl

theorem Rp_nil (lim : Nat) (ops : Array Oper) (e : Env) (H : Heap) (K : Env → Heap → Prop) : Rp S lim ops [] e H K = K e H := rfl
theorem Rp_cons (lim : Nat) (ops : Array Oper) (o : Oper) (l : List Oper) (e : Env) (H : Heap) (K : Env → Heap → Prop) :
    Rp S lim ops (o :: l) e H K = guardP ops e o (opP S lim o.op e H fun x H' => Rp S lim ops l (e.put o.dst x) H' K) (Rp S lim ops l (e.put o.dst (.v undef)) H K) := rfl
theorem thenQ_normal (N : St → Prop) (Q : Ex → St → Prop) (s : St) : thenQ N Q .normal s = N s := rfl
theorem thenQ_ret (N : St → Prop) (Q : Ex → St → Prop) (s : St) : thenQ N Q .ret s = Q .ret s := rfl
theorem thenQ_exit (N : St → Prop) (Q : Ex → St → Prop) (id : Nat) (s : St) : thenQ N Q (.exit id) s = Q (.exit id) s := rfl
theorem blockQ_normal (id : Nat) (Q : Ex → St → Prop) (s : St) : blockQ id Q .normal s = Q .normal s := rfl
theorem blockQ_ret (id : Nat) (Q : Ex → St → Prop) (s : St) : blockQ id Q .ret s = Q .ret s := rfl
theorem blockQ_exit (id j : Nat) (Q : Ex → St → Prop) (s : St) : blockQ id Q (.exit j) s = if j = id then Q .normal s else Q (.exit j) s := rfl
end
end Go.Am
end
section
namespace Go.Am
open Go
section
variable {S : Sig}

/-! ### Slots -/
theorem get_cons (k : Nat) (x : AV) (r : Env) (t : Nat) : Env.get ((k, x) :: r) t = if t = k then x else Env.get r t := rfl
theorem get_nil (t : Nat) : Env.get [] t = .any := rfl
theorem getD_cons (k : Nat) (x : AV) (r : Env) (t : Nat) (d : AV) : Env.getD ((k, x) :: r) t d = if t = k then x else Env.getD r t d := rfl
theorem getD_nil (t : Nat) (d : AV) : Env.getD [] t d = d := rfl
theorem put_some (e : Env) (t : Nat) (x : AV) : Env.put e (some t) x = (t, x) :: e := rfl
theorem put_none (e : Env) (x : AV) : Env.put e none x = e := rfl
theorem ev_tmp (e : Env) (t : Nat) : evO e (.tmp t) = e.get t := rfl
theorem ev_int (e : Env) (k : IntKind) (n : Int) : evO e (.const (.int k n)) = .v (.int k n) := rfl
theorem ev_bool (e : Env) (b : Bool) : evO e (.const (.bool b)) = .v (.bool b) := rfl
theorem ev_str (e : Env) (s : ByteArray) : evO e (.const (.string s)) = .v (.string s) := rfl
theorem ev_nil (e : Env) : evO e (.const (.slice none 0 0)) = .v (.slice none 0 0) := rfl
theorem ev_func (e : Env) (f : FuncId) : evO e (.func f) = .clo f [] := rfl
theorem ev_agg (e : Env) (cs : Array Value) : evO e (.const (.agg cs)) = .agg (cs.toList.map .v) := rfl
theorem trim_def (e loc : Env) : trim e loc = loc.map fun p => (p.1, Env.getD (e.take (e.length - loc.length)) p.1 p.2) := rfl

/-! ### Memory -/
theorem hget_app (H : Heap) (l : List (Option Blk)) : hget (H ++ l) H.length = (l[0]?).join := by
  simp [hget, List.getElem?_append_right]
theorem hget_app' (H : Heap) (l : List (Option Blk)) (k : Nat) : hget (H ++ l) (H.length + k) = (l[k]?).join := by
  simp [hget, List.getElem?_append_right]
theorem hset_app (H : Heap) (l : List (Option Blk)) (x : Option Blk) : hset (H ++ l) H.length x = H ++ l.set 0 x := by simp [hset]
theorem hset_app' (H : Heap) (l : List (Option Blk)) (k : Nat) (x : Option Blk) : hset (H ++ l) (H.length + k) x = H ++ l.set k x := by simp [hset]
theorem len_app1 (H : Heap) (x : Option Blk) : (H ++ [x]).length = H.length + 1 := by simp

/-! ### The operations -/
section
variable (lim : Nat) (e : Env) (H : Heap) (K : AV → Heap → Prop)
theorem opP_load (t : TypeId) (a : Operand) : opP S lim (.load t a) e H K = optP (loadV S.P H t (evO e a)) (K · H) := rfl
theorem opP_move (x : Operand) : opP S lim (.move x) e H K = K (evO e x) H := rfl
theorem opP_assign (x : Operand) : opP S lim (.assign x) e H K = K (evO e x) H := rfl
theorem opP_call (f : FuncId) (args : Array Operand) (ts : Array TypeId) : opP S lim (.call ⟨.value (.func f), args, ts⟩) e H K = ACall S lim f (args.toList.map (evO e)) H K := by
  simp only [opP, evO, List.append_nil]
def cloP (x : AV) (K : FuncId → List AV → Prop) : Prop :=
  match x with
  | .clo g l => K g l
  | _ => False
@[congr] theorem cloP_congr {x x' : AV} (K : FuncId → List AV → Prop) (h : x = x') : cloP x K = cloP x' K := by rw [h]
theorem cloP_clo (g : FuncId) (l : List AV) (K : FuncId → List AV → Prop) : cloP (.clo g l) K = K g l := rfl
theorem opP_callv (t : Nat) (args : Array Operand) (ts : Array TypeId) : opP S lim (.call ⟨.value (.tmp t), args, ts⟩) e H K = cloP (e.get t) fun g l => ACall S lim g (args.toList.map (evO e) ++ l) H K := by
  simp only [opP, evO, cloP] <;> cases e.get t <;> rfl
theorem opP_alloc (t : TypeId) : opP S lim (.alloc t) e H K = optP ((tyOf S.P t).bind fun ty => ty.zero) fun z => K (.ptr H.length 0) (H ++ [some (z.map .v)]) := by
  simp only [opP, effV, optP]
  cases tyOf S.P t with
  | none => rfl
  | some ty =>
    simp only [Option.bind_some]
    cases ty.zero <;> rfl
theorem opP_box (t : TypeId) (x : Operand) : opP S lim (.box t x) e H K = optP (tyOf S.P t) fun _ => optP (cellsOf (evO e x)) fun c => K (.ptr H.length 0) (H ++ [some c]) := by
  simp only [opP, effV, optP]
  cases tyOf S.P t with
  | none => rfl
  | some ty => cases cellsOf (evO e x) <;> rfl
def storeP (lim size : Nat) (a : AV) (c : Option (List AV)) (H : Heap) (K : AV → Heap → Prop) : Prop :=
  match a with
  | .ptr b o => optP c fun c => optP (hget H b) fun k => (lim ≤ b ∧ c.length = size ∧ o + size ≤ k.length) ∧ K (.v undef) (hset H b (some (setL k o c)))
  | _ => False
@[congr] theorem storeP_congr (lim size : Nat) {a a' : AV} {c c' : Option (List AV)} (H : Heap) (K : AV → Heap → Prop) (h : a = a') (h' : c = c') : storeP lim size a c H K = storeP lim size a' c' H K := by rw [h, h']
theorem storeP_ptr (size b o : Nat) (c : List AV) : storeP lim size (.ptr b o) (some c) H K = optP (hget H b) fun k => (lim ≤ b ∧ c.length = size ∧ o + size ≤ k.length) ∧ K (.v undef) (hset H b (some (setL k o c))) := rfl
theorem opP_store (t : TypeId) (a x : Operand) : opP S lim (.store t a x) e H K = optP (tyOf S.P t) fun ty => storeP lim ty.size (evO e a) (cellsOf (evO e x)) H K := by
  simp only [opP, effV, optP, storeP]
  cases tyOf S.P t with
  | none => rfl
  | some ty =>
    simp only
    cases evO e a <;> try rfl
    cases cellsOf (evO e x) with
    | none => rfl
    | some c =>
      simp only
      rename_i b o
      cases hget H b with
      | none => rfl
      | some k =>
        simp only
        by_cases h : lim ≤ b ∧ c.length = ty.size ∧ o + ty.size ≤ List.length k
        · simp only [if_pos h]; simp [h]
        · simp only [if_neg h]; simp [h]
theorem opP_buildSlice (t : TypeId) (n : Nat) (parts : Array (Nat × Operand)) : opP S lim (.buildSlice t n parts) e H K = optP (effV S.P lim (.buildSlice t n parts) (evO e) H) fun r => K r.1 r.2 := rfl
theorem opP_makeSlice (t : TypeId) (l c : Operand) : opP S lim (.makeSlice t l c) e H K = optP (effV S.P lim (.makeSlice t l c) (evO e) H) fun r => K r.1 r.2 := rfl
theorem opP_append (x y : Operand) (t : TypeId) : opP S lim (.call ⟨.builtin .append, #[x, y], #[t, t]⟩) e H K = optP (appendV S.P lim H t (evO e x) (evO e y)) fun r => K r.1 r.2 := by
  simp [opP, effV]
theorem opP_binOp (op : BinOp) (t : TypeId) (x y : Operand) (ty : TypeId) : opP S lim (.binOp op t x y ty) e H K = optP (binV S.P op t (evO e x) (evO e y)) (K · H) := rfl
theorem opP_unOp (op : UnOp) (t : TypeId) (x : Operand) : opP S lim (.unOp op t x) e H K = optP (unV op (evO e x)) (K · H) := rfl
def pickP (c a b : AV) (K : AV → Prop) : Prop :=
  match c with
  | .v (.bool t) => K (if t then a else b)
  | _ => False
@[congr] theorem pickP_congr {c c' a a' b b' : AV} (K : AV → Prop) (h : c = c') (h1 : a = a') (h2 : b = b') : pickP c a b K = pickP c' a' b' K := by rw [h, h1, h2]
theorem pickP_bool (t : Bool) (a b : AV) (K : AV → Prop) : pickP (.v (.bool t)) a b K = K (if t then a else b) := rfl
theorem opP_pick (c a b : Operand) : opP S lim (.pick c a b) e H K = pickP (evO e c) (evO e a) (evO e b) (K · H) := by
  simp only [opP, popV, pickP, optP]
  cases evO e c with
  | v x => cases x <;> rfl
  | _ => rfl
theorem opP_build (t : TypeId) (parts : Array (Nat × Operand)) : opP S lim (.build t parts) e H K = optP (buildV S.P t (parts.toList.map fun p => (p.1, evO e p.2))) (K · H) := rfl
theorem opP_nilCheck (x : Operand) : opP S lim (.nilCheck x) e H K = optP (popV S.P (.nilCheck x) (evO e)) (K · H) := rfl
theorem opP_convert (s d : TypeId) (x : Operand) {y : AV} (h : convV S.P s d (evO e x) = some y) : opP S lim (.convert s d x) e H K = K y H := by simp only [opP, h]
theorem opP_bytes (s d : TypeId) (x : Operand) (h : convV S.P s d (evO e x) = none) : opP S lim (.convert s d x) e H K = optP (effV S.P lim (.convert s d x) (evO e) H) fun r => K r.1 r.2 := by simp only [opP, h]
theorem opP_makeFunc (f : FuncId) (c : Array Operand) : opP S lim (.makeFunc (.func f) #[] c) e H K = K (.clo f (c.toList.map (evO e))) H := rfl
theorem opP_slice (t : TypeId) (x : Operand) (lo hi : Option Operand) : opP S lim (.slice t x lo hi none) e H K = optP (sliceV S.P t (evO e x) (lo.map (evO e)) (hi.map (evO e))) (K · H) := rfl
theorem opP_fieldAddr (s : TypeId) (x : Operand) (f : Nat) : opP S lim (.fieldAddr s x f) e H K = optP (fieldAddrV S.P s (evO e x) f) (K · H) := rfl
theorem opP_field (s : TypeId) (x : Operand) (f : Nat) : opP S lim (.field s x f) e H K = optP (fieldV S.P s (evO e x) f) (K · H) := rfl
theorem opP_indexAddr (t : TypeId) (x i : Operand) : opP S lim (.indexAddr t x i) e H K = optP (indexAddrV S.P t (evO e x) (evO e i)) (K · H) := rfl
theorem opP_index (t : TypeId) (x i : Operand) : opP S lim (.index t x i) e H K = optP (indexV S.P t (evO e x) (evO e i)) (K · H) := rfl
def tupP (x : AV) (i : Nat) (K : AV → Prop) : Prop :=
  match x with
  | .tup l => optP l[i]? K
  | _ => False
@[congr] theorem tupP_congr {x x' : AV} (i : Nat) (K : AV → Prop) (h : x = x') : tupP x i K = tupP x' i K := by rw [h]
theorem tupP_tup (l : List AV) (i : Nat) (K : AV → Prop) : tupP (.tup l) i K = optP l[i]? K := rfl
theorem opP_extract (t : Operand) (i : Nat) : opP S lim (.extract t i) e H K = tupP (evO e t) i (K · H) := by
  simp only [opP, popV, tupP, optP]
  cases evO e t <;> rfl
theorem opP_len (x : Operand) (t : TypeId) : opP S lim (.call ⟨.builtin .len, #[x], #[t]⟩) e H K = optP (lenV (tyOf S.P t) (evO e x)) (K · H) := rfl
theorem opP_max (args : Array Operand) (ts : Array TypeId) : opP S lim (.call ⟨.builtin .max, args, ts⟩) e H K = optP (popV S.P (.call ⟨.builtin .max, args, ts⟩) (evO e)) (K · H) := rfl
theorem opP_min (args : Array Operand) (ts : Array TypeId) : opP S lim (.call ⟨.builtin .min, args, ts⟩) e H K = optP (popV S.P (.call ⟨.builtin .min, args, ts⟩) (evO e)) (K · H) := rfl
theorem pop_max2 (P : Program) (x y : Operand) (ts : Array TypeId) : popV P (.call ⟨.builtin .max, #[x, y], ts⟩) (evO e) = max2 (evO e x) (evO e y) := by
  simp only [popV, List.map, foldA]
  cases max2 (evO e x) (evO e y) <;> rfl
theorem pop_min2 (P : Program) (x y : Operand) (ts : Array TypeId) : popV P (.call ⟨.builtin .min, #[x, y], ts⟩) (evO e) = min2 (evO e x) (evO e y) := by
  simp only [popV, List.map, foldA]
  cases min2 (evO e x) (evO e y) <;> rfl
end

/-! ### Values -/
section
variable (P : Program)
theorem max2_int (k k' : IntKind) (x y : Int) : max2 (.v (.int k x)) (.v (.int k' y)) = some (.v (.int k (max x y))) := by
  simp only [max2]; congr 3; omega
theorem min2_int (k k' : IntKind) (x y : Int) : min2 (.v (.int k x)) (.v (.int k' y)) = some (.v (.int k (min x y))) := by
  simp only [min2]; congr 3; omega
theorem bin_add (t : TypeId) (k : IntKind) (a b : Int) : binV P .add t (.v (.int k a)) (.v (.int k b)) = some (.v (.int k (k.wrap (a + b)))) := by simp [binV, intBin]
theorem bin_sub (t : TypeId) (k : IntKind) (a b : Int) : binV P .sub t (.v (.int k a)) (.v (.int k b)) = some (.v (.int k (k.wrap (a - b)))) := by simp [binV, intBin]
theorem bin_mul (t : TypeId) (k : IntKind) (a b : Int) : binV P .mul t (.v (.int k a)) (.v (.int k b)) = some (.v (.int k (k.wrap (a * b)))) := by simp [binV, intBin]
theorem bin_quo (t : TypeId) (k : IntKind) (a b : Int) : binV P .quo t (.v (.int k a)) (.v (.int k b)) = if b = 0 then none else some (.v (.int k (k.wrap (a.tdiv b)))) := by
  simp only [binV, intBin, if_true]; split <;> rfl
theorem bin_rem (t : TypeId) (k : IntKind) (a b : Int) : binV P .rem t (.v (.int k a)) (.v (.int k b)) = if b = 0 then none else some (.v (.int k (a.tmod b))) := by
  simp only [binV, intBin, if_true]; split <;> rfl
theorem bin_eql (t : TypeId) (k : IntKind) (a b : Int) : binV P .eql t (.v (.int k a)) (.v (.int k b)) = some (.v (.bool (a == b))) := by simp [binV, intBin]
theorem bin_neq (t : TypeId) (k : IntKind) (a b : Int) : binV P .neq t (.v (.int k a)) (.v (.int k b)) = some (.v (.bool (!(a == b)))) := by simp [binV, intBin, bne]
theorem bin_lss (t : TypeId) (k : IntKind) (a b : Int) : binV P .lss t (.v (.int k a)) (.v (.int k b)) = some (.v (.bool (decide (a < b)))) := by simp [binV, intBin]
theorem bin_leq (t : TypeId) (k : IntKind) (a b : Int) : binV P .leq t (.v (.int k a)) (.v (.int k b)) = some (.v (.bool (decide (a ≤ b)))) := by simp [binV, intBin]
theorem bin_gtr (t : TypeId) (k : IntKind) (a b : Int) : binV P .gtr t (.v (.int k a)) (.v (.int k b)) = some (.v (.bool (decide (b < a)))) := by simp [binV, intBin]
theorem bin_geq (t : TypeId) (k : IntKind) (a b : Int) : binV P .geq t (.v (.int k a)) (.v (.int k b)) = some (.v (.bool (decide (b ≤ a)))) := by simp [binV, intBin]
theorem un_not (b : Bool) : unV .not (.v (.bool b)) = some (.v (.bool (!b))) := rfl
theorem un_neg (k : IntKind) (n : Int) : unV .neg (.v (.int k n)) = some (.v (.int k (k.wrap (0 - n)))) := rfl
theorem len_sl (ty : Ty) (e : TypeId) (n : Nat) (l : List AV) (h : ty.k = .slice e) : lenV (some ty) (.sl n l) = some (.v (.int .i64 n)) := by simp [lenV, kOf, h]
theorem len_own (ty : Ty) (e : TypeId) (z b o n : Nat) (h : ty.k = .slice e) : lenV (some ty) (.own z b o n) = some (.v (.int .i64 n)) := by simp [lenV, kOf, h]
theorem len_nil (ty : Ty) (e : TypeId) (n : Nat) (h : ty.k = .slice e) : lenV (some ty) (.v (.slice none n 0)) = some (.v (.int .i64 n)) := by simp [lenV, kOf, h]
theorem len_str (ty : Ty) (s : ByteArray) (h : ty.k = .string) : lenV (some ty) (.v (.string s)) = some (.v (.int .i64 s.size)) := by simp [lenV, kOf, h]

theorem ite_v {c : Prop} [Decidable c] (x y : Value) : (if c then AV.v x else AV.v y) = AV.v (if c then x else y) := by split <;> rfl
theorem ite_bool {c : Prop} [Decidable c] (x y : Bool) : (if c then Value.bool x else Value.bool y) = Value.bool (if c then x else y) := by split <;> rfl
theorem ite_int {c : Prop} [Decidable c] (k : IntKind) (x y : Int) : (if c then Value.int k x else Value.int k y) = Value.int k (if c then x else y) := by split <;> rfl

theorem cells_v (x : Value) (h : x.oneCell' = true) : cellsOf (.v x) = some [.v x] := by simp [cellsOf, storable, h]
theorem cells_sl (n : Nat) (l : List AV) : cellsOf (.sl n l) = some [.sl n l] := rfl
theorem cells_own (z b o n : Nat) : cellsOf (.own z b o n) = some [.own z b o n] := rfl
theorem cells_ptr (b o : Nat) : cellsOf (.ptr b o) = some [.ptr b o] := rfl
theorem cells_clo (f : FuncId) (l : List AV) : cellsOf (.clo f l) = some [.clo f l] := rfl
theorem cells_agg (l : List AV) : cellsOf (.agg l) = if l.all storable then some l else none := rfl
theorem st_v (x : Value) : storable (.v x) = x.oneCell' := rfl
theorem st_int (k : IntKind) (n : Int) : Value.oneCell' (.int k n) = true := rfl
theorem st_bool (b : Bool) : Value.oneCell' (.bool b) = true := rfl
theorem st_string (s : ByteArray) : Value.oneCell' (.string s) = true := rfl
theorem st_slice (p : Option Addr) (n c : Nat) : Value.oneCell' (.slice p n c) = true := rfl
theorem st_sl (n : Nat) (l : List AV) : storable (.sl n l) = true := rfl
theorem st_own (z b o n : Nat) : storable (.own z b o n) = true := rfl
theorem st_ptr (b o : Nat) : storable (.ptr b o) = true := rfl
theorem st_clo (f : FuncId) (l : List AV) : storable (.clo f l) = true := rfl

theorem partL_one (ty : Ty) (l : List AV) (o : Nat) (h : ty.agg = false) : partL ty l o = l[o]? := by simp [partL, h]
theorem partL_agg (ty : Ty) (l : List AV) (o : Nat) (h : ty.agg = true) : partL ty l o = if o + ty.size ≤ l.length then some (.agg ((l.drop o).take ty.size)) else none := by simp [partL, h]
theorem load_ptr (H : Heap) (t : TypeId) (ty : Ty) (h : tyOf P t = some ty) (b o : Nat) : loadV P H t (.ptr b o) = (hget H b).bind fun k => partL ty k o := by
  simp only [loadV, h]; cases hget H b <;> rfl
theorem load_ele (H : Heap) (t : TypeId) (ty : Ty) (h : tyOf P t = some ty) (l : List AV) (o : Nat) : loadV P H t (.ele l o) = partL ty l o := by
  simp only [loadV, h]
theorem ia_sl (t e : TypeId) (te : Ty) (h : tk P t = some (.slice e)) (he : tyOf P e = some te) (n : Nat) (l : List AV) (k : IntKind) (i : Int) :
    indexAddrV P t (.sl n l) (.v (.int k i)) = if 0 ≤ i ∧ i < n then some (.ele l (i.toNat * te.size)) else none := by simp only [indexAddrV, h, he]
theorem ia_own (t e : TypeId) (te : Ty) (h : tk P t = some (.slice e)) (he : tyOf P e = some te) (z b o n : Nat) (k : IntKind) (i : Int) :
    indexAddrV P t (.own z b o n) (.v (.int k i)) = if 0 ≤ i ∧ i < n then some (.ptr b (o + i.toNat * te.size)) else none := by simp only [indexAddrV, h, he]
theorem ia_ptr (t e : TypeId) (te : Ty) (m : Nat) (h : tk P t = some (.array m e)) (he : tyOf P e = some te) (b o : Nat) (k : IntKind) (i : Int) :
    indexAddrV P t (.ptr b o) (.v (.int k i)) = if 0 ≤ i ∧ i < m then some (.ptr b (o + i.toNat * te.size)) else none := by simp only [indexAddrV, h, he]
theorem fa_ptr (s : TypeId) (fs : List (Nat × TypeId)) (h : tk P s = some (.struct fs)) (b o f off : Nat) (ft : TypeId) (ty : Ty) (hf : fs[f]? = some (off, ft)) (ht : tyOf P ft = some ty) (hz : ty.size ≠ 0) :
    fieldAddrV P s (.ptr b o) f = some (.ptr b (o + off)) := by simp only [fieldAddrV, h, hf, ht]; simp [hz]
theorem fa_ele (s : TypeId) (fs : List (Nat × TypeId)) (h : tk P s = some (.struct fs)) (l : List AV) (o f off : Nat) (ft : TypeId) (ty : Ty) (hf : fs[f]? = some (off, ft)) (ht : tyOf P ft = some ty) (hz : ty.size ≠ 0) :
    fieldAddrV P s (.ele l o) f = some (.ele l (o + off)) := by simp only [fieldAddrV, h, hf, ht]; simp [hz]
theorem fd_agg (s : TypeId) (fs : List (Nat × TypeId)) (h : tk P s = some (.struct fs)) (l : List AV) (f off : Nat) (ft : TypeId) (ty : Ty) (hf : fs[f]? = some (off, ft)) (ht : tyOf P ft = some ty) :
    fieldV P s (.agg l) f = partL ty l off := by simp only [fieldV, h, hf, ht]

theorem frz_v (H : Heap) (b d : Nat) (x : Value) : frz H b (d + 1) (.v x) = .v x := rfl
theorem frz_tup (H : Heap) (b d : Nat) (l : List AV) : frz H b (d + 1) (.tup l) = .tup (l.map (frz H b d)) := rfl
theorem frz_agg (H : Heap) (b d : Nat) (l : List AV) : frz H b (d + 1) (.agg l) = .agg (l.map (frz H b d)) := rfl
theorem frz_sl (H : Heap) (b d : Nat) (n : Nat) (l : List AV) : frz H b (d + 1) (.sl n l) = .sl n (l.map (frz H b d)) := rfl
theorem frz_vs (H : Heap) (b d : Nat) {α : Type} (l : List α) (g : α → Value) : (l.map fun x => AV.v (g x)).map (frz H b (d + 1)) = l.map fun x => AV.v (g x) := by
  rw [List.map_map]; rfl
theorem frz_own (H : Heap) (b d : Nat) (z k o n : Nat) (h : ¬ k < b) : frz H b (d + 1) (.own z k o n) = (match hget H k with | some c => .sl n ((c.drop o).map (frz H b d)) | none => .any) := by
  simp only [frz, if_neg h]
  cases hget H k <;> rfl
end

/-! ### Numbers that fit -/
theorem wrap_i64 (n : Int) (h : -9223372036854775808 ≤ n ∧ n ≤ 9223372036854775807) : IntKind.i64.wrap n = n := by
  rw [IntKind.wrap_i64]; omega
theorem wrap_u64 (n : Int) (h : 0 ≤ n ∧ n ≤ 18446744073709551615) : IntKind.u64.wrap n = n := by
  simp only [IntKind.wrap, IntKind.bits, IntKind.signed]; simp; omega
theorem wrap_u8 (n : Int) (h : 0 ≤ n ∧ n ≤ 255) : IntKind.u8.wrap n = n := by
  simp only [IntKind.wrap, IntKind.bits, IntKind.signed]; simp; omega
theorem tdiv_nonneg (a b : Int) (h : 0 ≤ a) : a.tdiv b = a / b := Int.tdiv_eq_ediv_of_nonneg h
theorem tmod_nonneg (a b : Int) (h : 0 ≤ a) : a.tmod b = a % b := Int.tmod_eq_emod_of_nonneg h

theorem ret_fin {own : Bool} {fa : FnA} {H0 : Heap} {K : AV → Heap → Prop} (x : Ex) (s : St) (hx : ∀ id, x ≠ .exit id) :
    retP S own fa H0 K x s = optP (resAll S.P s.loc s.H fa.fn.results.toList) fun l => if own then K (oneOr l) s.H else K (frz s.H H0.length 8 (oneOr l)) H0 := by
  cases x with
  | exit id => exact absurd rfl (hx id)
  | _ => rfl
theorem ret_ret (own : Bool) (fa : FnA) (H0 : Heap) (K : AV → Heap → Prop) (s : St) :
    retP S own fa H0 K .ret s = optP (resAll S.P s.loc s.H fa.fn.results.toList) fun l => if own then K (oneOr l) s.H else K (frz s.H H0.length 8 (oneOr l)) H0 := rfl
theorem res_nil (P : Program) (e : Env) (H : Heap) : resAll P e H [] = some [] := rfl
theorem res_tmp (P : Program) (e : Env) (H : Heap) (t : Tmp) (rs : List ResultVar) : resAll P e H (.tmp t :: rs) = (resAll P e H rs).map (e.get t :: ·) := by
  simp only [resAll, resA]; cases resAll P e H rs <;> rfl
theorem res_cell (P : Program) (e : Env) (H : Heap) (a : Tmp) (t : TypeId) (rs : List ResultVar) : resAll P e H (.cell a t :: rs) = (loadV P H t (e.get a)).bind fun x => (resAll P e H rs).map (x :: ·) := by
  simp only [resAll, resA]; cases loadV P H t (e.get a) <;> cases resAll P e H rs <;> rfl
theorem one_one (x : AV) : oneOr [x] = x := rfl
theorem one_two (x y : AV) (l : List AV) : oneOr (x :: y :: l) = .tup (x :: y :: l) := rfl

/-! ### A region, operation by operation: each law wants what the operation yields, and hands on -/
section
variable {lim : Nat} {ops : Array Oper} {l : List Oper} {e : Env} {H : Heap} {K : Env → Heap → Prop} {d : Option Tmp} {op : Op} {ty : TypeId} {pos : String} {af : Array Edge} {g : Option (Nat × Bool)}

/-- What an operation that makes and writes nothing yields. -/
def qV (P : Program) (H : Heap) (o : Op) (e : Env) : Option AV :=
  match o with
  | .load t a => loadV P H t (evO e a)
  | o => popV P o (evO e)
theorem q_load (P : Program) (H : Heap) (e : Env) (t : TypeId) (a : Operand) : qV P H (.load t a) e = loadV P H t (evO e a) := rfl
theorem q_move (P : Program) (H : Heap) (e : Env) (x : Operand) : qV P H (.move x) e = some (evO e x) := rfl
theorem q_assign (P : Program) (H : Heap) (e : Env) (x : Operand) : qV P H (.assign x) e = some (evO e x) := rfl
theorem q_binOp (P : Program) (H : Heap) (e : Env) (op : BinOp) (t : TypeId) (x y : Operand) (ty : TypeId) : qV P H (.binOp op t x y ty) e = binV P op t (evO e x) (evO e y) := rfl
theorem q_unOp (P : Program) (H : Heap) (e : Env) (op : UnOp) (t : TypeId) (x : Operand) : qV P H (.unOp op t x) e = unV op (evO e x) := rfl
theorem q_pick (P : Program) (H : Heap) (e : Env) (c a b : Operand) : qV P H (.pick c a b) e = match evO e c with | .v (.bool t) => some (if t then evO e a else evO e b) | _ => none := rfl
theorem q_build (P : Program) (H : Heap) (e : Env) (t : TypeId) (parts : Array (Nat × Operand)) : qV P H (.build t parts) e = buildV P t (parts.toList.map fun p => (p.1, evO e p.2)) := rfl
theorem q_nilCheck (P : Program) (H : Heap) (e : Env) (x : Operand) : qV P H (.nilCheck x) e = popV P (.nilCheck x) (evO e) := rfl
theorem q_convert (P : Program) (H : Heap) (e : Env) (s d : TypeId) (x : Operand) : qV P H (.convert s d x) e = convV P s d (evO e x) := rfl
theorem q_makeFunc (P : Program) (H : Heap) (e : Env) (f : FuncId) (c : Array Operand) : qV P H (.makeFunc (.func f) #[] c) e = some (.clo f (c.toList.map (evO e))) := rfl
theorem q_slice (P : Program) (H : Heap) (e : Env) (t : TypeId) (x : Operand) (lo hi : Option Operand) : qV P H (.slice t x lo hi none) e = sliceV P t (evO e x) (lo.map (evO e)) (hi.map (evO e)) := rfl
theorem q_fieldAddr (P : Program) (H : Heap) (e : Env) (s : TypeId) (x : Operand) (f : Nat) : qV P H (.fieldAddr s x f) e = fieldAddrV P s (evO e x) f := rfl
theorem q_field (P : Program) (H : Heap) (e : Env) (s : TypeId) (x : Operand) (f : Nat) : qV P H (.field s x f) e = fieldV P s (evO e x) f := rfl
theorem q_indexAddr (P : Program) (H : Heap) (e : Env) (t : TypeId) (x i : Operand) : qV P H (.indexAddr t x i) e = indexAddrV P t (evO e x) (evO e i) := rfl
theorem q_index (P : Program) (H : Heap) (e : Env) (t : TypeId) (x i : Operand) : qV P H (.index t x i) e = indexV P t (evO e x) (evO e i) := rfl
theorem q_extract (P : Program) (H : Heap) (e : Env) (t : Operand) (i : Nat) : qV P H (.extract t i) e = match evO e t with | .tup l => l[i]? | _ => none := rfl
theorem q_len (P : Program) (H : Heap) (e : Env) (x : Operand) (t : TypeId) : qV P H (.call ⟨.builtin .len, #[x], #[t]⟩) e = lenV (tyOf P t) (evO e x) := rfl
theorem q_max (P : Program) (H : Heap) (e : Env) (x y : Operand) (ts : Array TypeId) : qV P H (.call ⟨.builtin .max, #[x, y], ts⟩) e = max2 (evO e x) (evO e y) := pop_max2 e P x y ts
theorem q_min (P : Program) (H : Heap) (e : Env) (x y : Operand) (ts : Array TypeId) : qV P H (.call ⟨.builtin .min, #[x, y], ts⟩) e = min2 (evO e x) (evO e y) := pop_min2 e P x y ts
theorem q_max3 (P : Program) (H : Heap) (e : Env) (x y z : Operand) (ts : Array TypeId) : qV P H (.call ⟨.builtin .max, #[x, y, z], ts⟩) e = (max2 (evO e x) (evO e y)).bind fun u => max2 u (evO e z) := by
  simp only [qV, popV, List.map, foldA]
  cases max2 (evO e x) (evO e y) with
  | none => rfl
  | some u => simp only [Option.bind_some]; cases max2 u (evO e z) <;> rfl

/-- Does this operation only read? -/
def isQ : Op → Bool
  | .load .. | .move _ | .assign _ | .pick .. | .build .. | .nilCheck _ | .binOp .. | .unOp .. | .convert .. | .makeFunc .. | .slice .. | .fieldAddr .. | .field .. | .indexAddr .. | .index .. | .extract .. => true
  | .call { callee := .builtin .len, args := _, argTypes := _ } | .call { callee := .builtin .max, args := _, argTypes := _ } | .call { callee := .builtin .min, args := _, argTypes := _ } => true
  | _ => false

theorem opP_q {K : AV → Heap → Prop} (hq : isQ op = true) {r : AV} (h : qV S.P H op e = some r) (hk : K r H) : opP S lim op e H K := by
  unfold isQ at hq
  split at hq <;> first | (cases hq; done) | skip
  all_goals first
    | (simp only [qV] at h; simp only [opP, h, optP]; exact hk)
    | (simp only [qV, popV] at h; simp only [opP, h]; exact hk)
    | (simp only [qV, popV, Option.some.injEq] at h; subst h; exact hk)

theorem takeV_q {P : Program} (hq : isQ op = true) {r : AV} (h : qV P H op e = some r) : takeV P op e H = some r := by
  unfold isQ at hq
  split at hq <;> first | (cases hq; done) | skip
  all_goals simpa [takeV, isLoad, callV, qV, popV] using h
theorem Lp_cons {ops : Array Oper} {l : List Oper} {R : List Nat} {K : Env → List Nat → Prop} (o : Oper) : Lp S ops H K (o :: l) e R = guardP ops e o (optP (takeV S.P o.op e H) fun x => Lp S ops H K l (e.put o.dst x) (rdV o.op e ++ R)) (Lp S ops H K l (e.put o.dst (.v undef)) R) := rfl
theorem L_q {ops : Array Oper} {l : List Oper} {R R' : List Nat} {K : Env → List Nat → Prop} (hq : isQ op = true) {r : AV} (h : qV S.P H op e = some r) (hr : rdV op e ++ R = R') (hk : Lp S ops H K l (e.put d r) R') : Lp S ops H K (⟨d, op, ty, pos, af, none⟩ :: l) e R := by
  subst hr
  rw [Lp_cons, guardP_free, takeV_q hq h]; exact hk
theorem L_nil {ops : Array Oper} {R : List Nat} {K : Env → List Nat → Prop} (hk : K e R) : Lp S ops H K [] e R := hk
theorem L_yes {ops : Array Oper} {l : List Oper} {R : List Nat} {K : Env → List Nat → Prop} {j t : Nat} {want : Bool} {b : Bool} (hj : (ops[j]?).bind (·.dst) = some t) (hb : e.get t = .v (.bool b)) (h : b = want) (hy : Lp S ops H K (⟨d, op, ty, pos, af, none⟩ :: l) e R) : Lp S ops H K (⟨d, op, ty, pos, af, some (j, want)⟩ :: l) e R := by
  rw [Lp_cons, guardP_on ops e d op ty pos af j want _ _ hj, hb]
  rw [Lp_cons, guardP_free] at hy
  subst h
  exact ⟨fun _ => hy, fun h => (by cases b <;> cases h)⟩
theorem L_no {ops : Array Oper} {l : List Oper} {R : List Nat} {K : Env → List Nat → Prop} {j t : Nat} {want : Bool} {b : Bool} (hj : (ops[j]?).bind (·.dst) = some t) (hb : e.get t = .v (.bool b)) (h : b = !want) (hy : Lp S ops H K l (e.put d (.v undef)) R) : Lp S ops H K (⟨d, op, ty, pos, af, some (j, want)⟩ :: l) e R := by
  rw [Lp_cons, guardP_on ops e d op ty pos af j want _ _ hj, hb]
  subst h
  exact ⟨fun h => (by cases want <;> cases h), fun _ => hy⟩
theorem L_un {ops : Array Oper} {l : List Oper} {R : List Nat} {K : Env → List Nat → Prop} {j t : Nat} {want : Bool} (hj : (ops[j]?).bind (·.dst) = some t) (hb : e.get t = .v undef) (hy : Lp S ops H K l (e.put d (.v undef)) R) : Lp S ops H K (⟨d, op, ty, pos, af, some (j, want)⟩ :: l) e R := by
  rw [Lp_cons, guardP_on ops e d op ty pos af j want _ _ hj, hb]
  exact hy
theorem M_nil {ops : Array Oper} {R : List Nat} {K : Env → Heap → Prop} (hk : K e H) : Mp S lim ops R K [] e H := hk
theorem M_step {ops : Array Oper} {R : List Nat} {K : Env → Heap → Prop} {o : Oper} {l : List Oper} (hc : wrC R o e = true) (h : Rp S lim ops [o] e H fun e' H' => Mp S lim ops R K l e' H') : Mp S lim ops R K (o :: l) e H := ⟨hc, h⟩
theorem R_end {K : Env → Heap → Prop} (hk : K e H) : Rp S lim ops [] e H K := hk
theorem R_q (hq : isQ op = true) {r : AV} (h : qV S.P H op e = some r) (hk : Rp S lim ops l (e.put d r) H K) : Rp S lim ops (⟨d, op, ty, pos, af, none⟩ :: l) e H K := by rw [Rp_cons, guardP_free]; exact opP_q hq h hk
theorem R_nil {Q : Ex → St → Prop} {loc loc' : Env} (h : trim e loc = loc') (hk : Q .normal ⟨loc', H⟩) : Rp S lim ops [] e H fun e H => Q .normal ⟨trim e loc, H⟩ := by
  show Q .normal ⟨trim e loc, H⟩
  rw [h]; exact hk
theorem R_call {f : FuncId} {args : Array Operand} {ts : Array TypeId} {vs : List AV} (h : args.toList.map (evO e) = vs) (hk : ACall S lim f vs H fun x H' => Rp S lim ops l (e.put d x) H' K) :
    Rp S lim ops (⟨d, .call ⟨.value (.func f), args, ts⟩, ty, pos, af, none⟩ :: l) e H K := by
  rw [Rp_cons, guardP_free, opP_call, h]; exact hk
theorem R_callv {t : Nat} {f : FuncId} {cap : List AV} {args : Array Operand} {ts : Array TypeId} {vs : List AV} (hf : e.get t = .clo f cap) (h : args.toList.map (evO e) ++ cap = vs) (hk : ACall S lim f vs H fun x H' => Rp S lim ops l (e.put d x) H' K) :
    Rp S lim ops (⟨d, .call ⟨.value (.tmp t), args, ts⟩, ty, pos, af, none⟩ :: l) e H K := by
  rw [Rp_cons, guardP_free, opP_callv, hf, cloP_clo, h]; exact hk
theorem R_alloc {t : TypeId} {z : List Value} (hz : (tyOf S.P t).bind (fun ty => ty.zero) = some z) {n : Nat} (hn : H.length = n) {H' : Heap} (hH : H ++ [some (z.map .v)] = H') (hk : Rp S lim ops l (e.put d (.ptr n 0)) H' K) : Rp S lim ops (⟨d, .alloc t, ty, pos, af, none⟩ :: l) e H K := by
  subst hn; subst hH
  rw [Rp_cons, guardP_free, opP_alloc, hz]; exact hk
theorem R_box {t : TypeId} {x : Operand} {c : List AV} (ht : (tyOf S.P t).isSome = true) (hc : cellsOf (evO e x) = some c) {n : Nat} (hn : H.length = n) {H' : Heap} (hH : H ++ [some c] = H') (hk : Rp S lim ops l (e.put d (.ptr n 0)) H' K) : Rp S lim ops (⟨d, .box t x, ty, pos, af, none⟩ :: l) e H K := by
  subst hn; subst hH
  rw [Rp_cons, guardP_free, opP_box, hc]
  cases h : tyOf S.P t with
  | none => rw [h] at ht; cases ht
  | some ty => exact hk
theorem R_store {t : TypeId} {tyy : Ty} {a x : Operand} {b o : Nat} {c : List AV} {k : Blk} (ht : tyOf S.P t = some tyy) (ha : evO e a = .ptr b o) (hc : cellsOf (evO e x) = some c) (hb : hget H b = some k) (hl : lim ≤ b ∧ c.length = tyy.size ∧ o + tyy.size ≤ k.length) {k' : Blk} (hk' : setL k o c = k') {H' : Heap} (hH : hset H b (some k') = H') (hk : Rp S lim ops l (e.put d (.v undef)) H' K) :
    Rp S lim ops (⟨d, .store t a x, ty, pos, af, none⟩ :: l) e H K := by
  subst hk'; subst hH
  rw [Rp_cons, guardP_free, opP_store, ht, optP_some, ha, hc, storeP_ptr, hb, optP_some]
  exact ⟨hl, hk⟩
theorem R_append {x y : Operand} {t : TypeId} {r : AV} {H' : Heap} (h : appendV S.P lim H t (evO e x) (evO e y) = some (r, H')) (hk : Rp S lim ops l (e.put d r) H' K) : Rp S lim ops (⟨d, .call ⟨.builtin .append, #[x, y], #[t, t]⟩, ty, pos, af, none⟩ :: l) e H K := by
  rw [Rp_cons, guardP_free, opP_append, h]; exact hk
theorem R_buildSlice {t : TypeId} {n : Nat} {parts : Array (Nat × Operand)} {r : AV} {H' : Heap} (h : effV S.P lim (.buildSlice t n parts) (evO e) H = some (r, H')) (hk : Rp S lim ops l (e.put d r) H' K) : Rp S lim ops (⟨d, .buildSlice t n parts, ty, pos, af, none⟩ :: l) e H K := by
  rw [Rp_cons, guardP_free, opP_buildSlice, h]; exact hk
theorem R_makeSlice {t : TypeId} {n c : Operand} {r : AV} {H' : Heap} (h : effV S.P lim (.makeSlice t n c) (evO e) H = some (r, H')) (hk : Rp S lim ops l (e.put d r) H' K) : Rp S lim ops (⟨d, .makeSlice t n c, ty, pos, af, none⟩ :: l) e H K := by
  rw [Rp_cons, guardP_free, opP_makeSlice, h]; exact hk
/-- The bytes of a string, as a slice that is only read. -/
theorem R_bytes {sT dT : TypeId} {x : Operand} {b : ByteArray} {et : TypeId} (hc : convV S.P sT dT (.v (.string b)) = none) (hs : (tyOf S.P sT).isSome = true) (hd : tk S.P dT = some (.slice et)) (he : tk S.P et = some (.int .u8)) (hx : evO e x = .v (.string b)) (hb : b.size ≤ 9223372036854775807)
    (hk : Rp S lim ops l (e.put d (.sl b.size (b.data.toList.map fun c => .v (.int .u8 (c.toNat : Int))))) H K) : Rp S lim ops (⟨d, .convert sT dT x, ty, pos, af, none⟩ :: l) e H K := by
  rw [Rp_cons, guardP_free, opP_bytes _ _ _ _ _ _ _ (by rw [hx]; exact hc)]
  obtain ⟨t0, ht0⟩ := Option.isSome_iff_exists.mp hs
  simp only [effV, hx, ht0, hd, he, if_pos hb, optP]
  exact hk
/-- A slice of bytes that the call made, as a string. -/
theorem R_back {sT dT : TypeId} {x : Operand} {y : AV} {r : AV} {ty0 : Ty} (hc : convV S.P sT dT y = none) (hs : tyOf S.P sT = some ty0) (hd : tk S.P dT = some .string) (hx : evO e x = y) (_hn : ∀ b, y ≠ .v (.string b)) (hb : backV S.P H ty0.k y = some r)
    (hk : Rp S lim ops l (e.put d r) H K) : Rp S lim ops (⟨d, .convert sT dT x, ty, pos, af, none⟩ :: l) e H K := by
  rw [Rp_cons, guardP_free, opP_bytes _ _ _ _ _ _ _ (by rw [hx]; exact hc)]
  simp only [effV, hx, hs, hd, hb, Option.map_some, optP]
  exact hk
theorem R_yes {j t : Nat} {want : Bool} {b : Bool} (hj : (ops[j]?).bind (·.dst) = some t) (hb : e.get t = .v (.bool b)) (h : b = want) (hy : Rp S lim ops (⟨d, op, ty, pos, af, none⟩ :: l) e H K) : Rp S lim ops (⟨d, op, ty, pos, af, some (j, want)⟩ :: l) e H K := by
  rw [Rp_cons, guardP_on ops e d op ty pos af j want _ _ hj, hb]
  rw [Rp_cons, guardP_free] at hy
  subst h
  exact ⟨fun _ => hy, fun h => (by cases b <;> cases h)⟩
theorem R_no {j t : Nat} {want : Bool} {b : Bool} (hj : (ops[j]?).bind (·.dst) = some t) (hb : e.get t = .v (.bool b)) (h : b = !want) (hy : Rp S lim ops l (e.put d (.v undef)) H K) : Rp S lim ops (⟨d, op, ty, pos, af, some (j, want)⟩ :: l) e H K := by
  rw [Rp_cons, guardP_on ops e d op ty pos af j want _ _ hj, hb]
  subst h
  exact ⟨fun h => (by cases want <;> cases h), fun _ => hy⟩
theorem R_un {j t : Nat} {want : Bool} (hj : (ops[j]?).bind (·.dst) = some t) (hb : e.get t = .v undef) (hy : Rp S lim ops l (e.put d (.v undef)) H K) : Rp S lim ops (⟨d, op, ty, pos, af, some (j, want)⟩ :: l) e H K := by
  rw [Rp_cons, guardP_on ops e d op ty pos af j want _ _ hj, hb]
  exact hy
end

/-! ### The same where the order is drawn -/
section
variable {ops : Array Oper} {l : List Oper} {e : Env} {H : Heap} {K : Env → Prop} {d : Option Tmp} {op : Op} {ty : TypeId} {pos : String} {af : Array Edge}
theorem Qp_cons (o : Oper) : Qp S ops (o :: l) e H K = guardP ops e o (opQ S o.op e H fun x => Qp S ops l (e.put o.dst x) H K) (Qp S ops l (e.put o.dst (.v undef)) H K) := rfl
theorem opQ_q {K : AV → Prop} (hq : isQ op = true) {r : AV} (h : qV S.P H op e = some r) (hk : K r) : opQ S op e H K := by
  unfold isQ at hq
  split at hq <;> first | (cases hq; done) | skip
  all_goals first
    | (simp only [qV] at h; simp only [opQ, h, optP]; exact hk)
    | (simp only [qV, popV, Option.some.injEq] at h; subst h; exact hk)
theorem Q_q (hq : isQ op = true) {r : AV} (h : qV S.P H op e = some r) (hk : Qp S ops l (e.put d r) H K) : Qp S ops (⟨d, op, ty, pos, af, none⟩ :: l) e H K := by rw [Qp_cons, guardP_free]; exact opQ_q hq h hk
theorem Q_nil (hk : K e) : Qp S ops [] e H K := hk
theorem Q_call {f : FuncId} {args : Array Operand} {ts : Array TypeId} {vs : List AV} (hp : S.own f = false) (h : args.toList.map (evO e) = vs) (hk : ACall S H.length f vs H fun x _ => exacts x = true ∧ Qp S ops l (e.put d x) H K) :
    Qp S ops (⟨d, .call ⟨.value (.func f), args, ts⟩, ty, pos, af, none⟩ :: l) e H K := by
  rw [Qp_cons, guardP_free]
  refine ⟨by simp [Sig.pure, hp], ?_⟩
  simp only [List.append_nil, h]
  exact hk
theorem Q_yes {j t : Nat} {want : Bool} {b : Bool} (hj : (ops[j]?).bind (·.dst) = some t) (hb : e.get t = .v (.bool b)) (h : b = want) (hy : Qp S ops (⟨d, op, ty, pos, af, none⟩ :: l) e H K) : Qp S ops (⟨d, op, ty, pos, af, some (j, want)⟩ :: l) e H K := by
  rw [Qp_cons, guardP_on ops e d op ty pos af j want _ _ hj, hb]
  rw [Qp_cons, guardP_free] at hy
  subst h
  exact ⟨fun _ => hy, fun h => (by cases b <;> cases h)⟩
theorem Q_no {j t : Nat} {want : Bool} {b : Bool} (hj : (ops[j]?).bind (·.dst) = some t) (hb : e.get t = .v (.bool b)) (h : b = !want) (hy : Qp S ops l (e.put d (.v undef)) H K) : Qp S ops (⟨d, op, ty, pos, af, some (j, want)⟩ :: l) e H K := by
  rw [Qp_cons, guardP_on ops e d op ty pos af j want _ _ hj, hb]
  subst h
  exact ⟨fun h => (by cases want <;> cases h), fun _ => hy⟩
theorem Q_un {j t : Nat} {want : Bool} (hj : (ops[j]?).bind (·.dst) = some t) (hb : e.get t = .v undef) (hy : Qp S ops l (e.put d (.v undef)) H K) : Qp S ops (⟨d, op, ty, pos, af, some (j, want)⟩ :: l) e H K := by
  rw [Qp_cons, guardP_on ops e d op ty pos af j want _ _ hj, hb]
  exact hy
end

/-! ### Loops and ends -/
def upd (loc : Env) (kv : Env) : Env := loc.map fun p => (p.1, Env.getD kv p.1 p.2)
theorem upd_def (loc kv : Env) : upd loc kv = loc.map fun p => (p.1, Env.getD kv p.1 p.2) := rfl

section
variable {lim : Nat} {dr : List (Nat × Draw)} {loc : Env} {H : Heap} {Q : Ex → St → Prop} {c : Code} {p : List Nat}
/-- A loop that leaves the memory alone: the slots ks hold what J says of them at every round's head. -/
theorem loop_c (h : at' c p = .loop (at' c (0 :: p))) (ks : List Nat) (J : List AV → Prop) (μ : List AV → Nat) (vs : List AV) (h0 : upd loc (ks.zip vs) = loc) (hJ : J vs)
    (round : ∀ vs, J vs → W S lim dr (at' c (0 :: p)) ⟨upd loc (ks.zip vs), H⟩ (thenQ (fun s' => ∃ vs', s' = ⟨upd loc (ks.zip vs'), H⟩ ∧ J vs' ∧ μ vs' < μ vs) Q)) : W S lim dr (at' c p) ⟨loc, H⟩ Q := by
  have key : ∀ n vs, μ vs = n → J vs → W S lim dr (.loop (at' c (0 :: p))) ⟨upd loc (ks.zip vs), H⟩ Q := by
    intro n
    induction n using Nat.strongRecOn with
    | _ n ih =>
      intro vs hn hI
      refine W_loop (W_mono (round vs hI) fun e s' h => ?_)
      cases e with
      | normal =>
        obtain ⟨vs', rfl, h1, h2⟩ := h
        exact ih (μ vs') (hn ▸ h2) vs' rfl h1
      | exit id => exact h
      | ret => exact h
  rw [h]
  have := key _ vs rfl hJ
  rwa [h0] at this
/-- A loop that writes memory. -/
theorem loop_h (h : at' c p = .loop (at' c (0 :: p))) (ks : List Nat) (J : List AV → Heap → Prop) (μ : List AV → Heap → Nat) (vs : List AV) (h0 : upd loc (ks.zip vs) = loc) (hJ : J vs H)
    (round : ∀ vs H, J vs H → W S lim dr (at' c (0 :: p)) ⟨upd loc (ks.zip vs), H⟩ (thenQ (fun s' => ∃ vs' H', s' = ⟨upd loc (ks.zip vs'), H'⟩ ∧ J vs' H' ∧ μ vs' H' < μ vs H) Q)) : W S lim dr (at' c p) ⟨loc, H⟩ Q := by
  have key : ∀ n vs H, μ vs H = n → J vs H → W S lim dr (.loop (at' c (0 :: p))) ⟨upd loc (ks.zip vs), H⟩ Q := by
    intro n
    induction n using Nat.strongRecOn with
    | _ n ih =>
      intro vs H hn hI
      refine W_loop (W_mono (round vs H hI) fun e s' h => ?_)
      cases e with
      | normal =>
        obtain ⟨vs', H', rfl, h1, h2⟩ := h
        exact ih (μ vs' H') (hn ▸ h2) vs' H' rfl h1
      | exit id => exact h
      | ret => exact h
  rw [h]
  have := key _ vs H rfl hJ
  rwa [h0] at this
/-- A loop: kv is what the slots that change hold at a round's head, J what is known of them and of the memory there, m a number that every round lowers. -/
theorem loop_n (h : at' c p = .loop (at' c (0 :: p))) (J : Nat → Env → Heap → Prop) {m : Nat} {kv : Env} (hJ : J m kv H) (h0 : upd loc kv = loc)
    (round : ∀ m kv H, J m kv H → W S lim dr (at' c (0 :: p)) ⟨upd loc kv, H⟩ (thenQ (fun s' => ∃ m' kv', J m' kv' s'.H ∧ s'.loc = upd loc kv' ∧ m' < m) Q)) : W S lim dr (at' c p) ⟨loc, H⟩ Q := by
  have key : ∀ m kv H, J m kv H → W S lim dr (.loop (at' c (0 :: p))) ⟨upd loc kv, H⟩ Q := by
    intro m
    induction m using Nat.strongRecOn with
    | _ m ih =>
      intro kv H hI
      refine W_loop (W_mono (round m kv H hI) fun e s' h => ?_)
      cases e with
      | normal =>
        obtain ⟨m', kv', h1, h2, h3⟩ := h
        obtain ⟨l', H'⟩ := s'
        have h2' : l' = upd loc kv' := h2
        subst h2'
        exact ih m' h3 kv' H' h1
      | exit id => exact h
      | ret => exact h
  rw [h]
  have := key _ kv H hJ
  rwa [h0] at this
theorem then_x {N : St → Prop} {s : St} {i : Nat} (h : Q (.exit i) s) : thenQ N Q (.exit i) s := h
theorem then_r {N : St → Prop} {s : St} (h : Q .ret s) : thenQ N Q .ret s := h
theorem blk_n {s : St} {i : Nat} (h : Q .normal s) : blockQ i Q .normal s := h
theorem blk_r {s : St} {i : Nat} (h : Q .ret s) : blockQ i Q .ret s := h
theorem blk_x {s : St} {i : Nat} (h : Q .normal s) : blockQ i Q (.exit i) s := by simp only [blockQ, if_true]; exact h
theorem blk_p {s : St} {i j : Nat} (hij : j ≠ i) (h : Q (.exit j) s) : blockQ i Q (.exit j) s := by simp only [blockQ, if_neg hij]; exact h
theorem at_cond_t {s : St} {o : Operand} (h : at' c p = .cond o (at' c (0 :: p)) (at' c (1 :: p))) (hc : evO s.loc o = .v (.bool true)) (h1 : W S lim dr (at' c (0 :: p)) s Q) : W S lim dr (at' c p) s Q := at_cond h hc (fun _ => h1) (fun h => nomatch h)
theorem at_cond_f {s : St} {o : Operand} (h : at' c p = .cond o (at' c (0 :: p)) (at' c (1 :: p))) (hc : evO s.loc o = .v (.bool false)) (h1 : W S lim dr (at' c (1 :: p)) s Q) : W S lim dr (at' c p) s Q := at_cond h hc (fun h => nomatch h) (fun _ => h1)
theorem Rp_split {ops : Array Oper} {l : List Oper} {e : Env} {K : Env → Heap → Prop} {t : Nat} {b : Bool} (h1 : b = true → Rp S lim ops l ((t, .v (.bool true)) :: e) H K) (h2 : b = false → Rp S lim ops l ((t, .v (.bool false)) :: e) H K) :
    Rp S lim ops l (Env.put e (some t) (.v (.bool b))) H K := by
  cases b with
  | true => exact h1 rfl
  | false => exact h2 rfl
theorem Qp_split {ops : Array Oper} {l : List Oper} {e : Env} {K : Env → Prop} {t : Nat} {b : Bool} (h1 : b = true → Qp S ops l ((t, .v (.bool true)) :: e) H K) (h2 : b = false → Qp S ops l ((t, .v (.bool false)) :: e) H K) :
    Qp S ops l (Env.put e (some t) (.v (.bool b))) H K := by
  cases b with
  | true => exact h1 rfl
  | false => exact h2 rfl
theorem Rp_to {ops : Array Oper} {l : List Oper} {e e' : Env} {K : Env → Heap → Prop} (he : e = e') (h : Rp S lim ops l e' H K) : Rp S lim ops l e H K := by subst he; exact h
theorem rg {id : Nat} {ops : Array Oper} (h : at' c p = .region id ops false) (hw : Rp S lim ops ops.toList loc H fun e H => Q .normal ⟨trim e loc, H⟩) : W S lim dr (at' c p) ⟨loc, H⟩ Q := at_region h hw
theorem rd {id n : Nat} {ops : Array Oper} (h : at' c p = .region id ops true) (hd : dr.lookup id = some (.quiet n))
    (hw : Qp S ops (ops.toList.take n) loc H fun e => Rp S lim ops (ops.toList.drop n) e H fun e H => Q .normal ⟨trim e loc, H⟩) : W S lim dr (at' c p) ⟨loc, H⟩ Q := at_draw h hd hw
theorem rl {id : Nat} {ops : Array Oper} {lead m fin live keep : List Nat} (h : at' c p = .region id ops true) (hd : dr.lookup id = some (.led lead [m] fin live keep))
    (hw : Lp S ops H (fun e R => Mp S lim ops R (fun e1 H1 => Rp S lim ops (pick ops fin) e1 H1 fun e' H' => Q .normal ⟨trim e' loc, H'⟩) (pick ops m) e H) (pick ops lead) loc []) : W S lim dr (at' c p) ⟨loc, H⟩ Q := at_led h hd hw
theorem rls {id : Nat} {ops : Array Oper} {lead m m2 fin live keep : List Nat} {ms : List (List Nat)} (h : at' c p = .region id ops true) (hd : dr.lookup id = some (.led lead (m :: m2 :: ms) fin live keep))
    (hw : Lp S ops H (fun e _ => ∃ e1 H1, Rp S H.length ops (pick ops m) e H (fun e' H' => e' = e1 ∧ H' = H1) ∧ Alts S ops live keep H.length e H e1 H1 (m2 :: ms) ∧
      Rp S lim ops (pick ops fin) (cutE ops live loc e1) (keepOnly keep H.length H1) fun e' H' => Q .normal ⟨trim e' loc, H'⟩) (pick ops lead) loc []) : W S lim dr (at' c p) ⟨loc, H⟩ Q := at_leds h hd hw
theorem Lp_split {ops : Array Oper} {l : List Oper} {e : Env} {R : List Nat} {K : Env → List Nat → Prop} {t : Nat} {b : Bool} (h1 : b = true → Lp S ops H K l ((t, .v (.bool true)) :: e) R) (h2 : b = false → Lp S ops H K l ((t, .v (.bool false)) :: e) R) :
    Lp S ops H K l (Env.put e (some t) (.v (.bool b))) R := by
  cases b with
  | true => exact h1 rfl
  | false => exact h2 rfl
theorem cd {o : Operand} {t : Bool} (h : at' c p = .cond o (at' c (0 :: p)) (at' c (1 :: p))) (hc : evO loc o = .v (.bool t)) (h1 : t = true → W S lim dr (at' c (0 :: p)) ⟨loc, H⟩ Q) (h2 : t = false → W S lim dr (at' c (1 :: p)) ⟨loc, H⟩ Q) : W S lim dr (at' c p) ⟨loc, H⟩ Q := at_cond h hc h1 h2
theorem cd_t {o : Operand} (h : at' c p = .cond o (at' c (0 :: p)) (at' c (1 :: p))) (hc : evO loc o = .v (.bool true)) (h1 : W S lim dr (at' c (0 :: p)) ⟨loc, H⟩ Q) : W S lim dr (at' c p) ⟨loc, H⟩ Q := at_cond h hc (fun _ => h1) (fun h => nomatch h)
theorem cd_f {o : Operand} (h : at' c p = .cond o (at' c (0 :: p)) (at' c (1 :: p))) (hc : evO loc o = .v (.bool false)) (h1 : W S lim dr (at' c (1 :: p)) ⟨loc, H⟩ Q) : W S lim dr (at' c p) ⟨loc, H⟩ Q := at_cond h hc (fun h => nomatch h) (fun _ => h1)
theorem then_n {N : St → Prop} {s : St} (h : N s) : thenQ N Q .normal s := h
/-- The state spelled out. -/
theorem W_to {loc' : Env} (h : loc = loc') (hw : W S lim dr (at' c p) ⟨loc', H⟩ Q) : W S lim dr (at' c p) ⟨loc, H⟩ Q := by subst h; exact hw
/-- Ways that meet again: what holds of the state behind the left part. -/
theorem seq_cut {s : St} (h : at' c p = .seq (at' c (0 :: p)) (at' c (1 :: p))) (M : St → Prop) (h1 : W S lim dr (at' c (0 :: p)) s (thenQ M Q)) (h2 : ∀ s', M s' → W S lim dr (at' c (1 :: p)) s' Q) : W S lim dr (at' c p) s Q := by
  refine at_seq h (W_mono h1 fun e s' hm => ?_)
  cases e with
  | normal => exact h2 s' hm
  | exit id => exact hm
  | ret => exact hm
theorem fin_pure {fa : FnA} {H0 : Heap} {K : AV → Heap → Prop} {s : St} {rs : List ResultVar} (hrs : fa.fn.results.toList = rs) {l : List AV} (hl : resAll S.P s.loc s.H rs = some l) {v : AV} (hv : frz s.H H0.length 8 (oneOr l) = v) (hk : K v H0) : retP S false fa H0 K .ret s := by
  rw [ret_ret, hrs, hl, optP_some]
  simp only [Bool.false_eq_true, if_false]
  rw [hv]; exact hk
theorem fin_own {fa : FnA} {H0 : Heap} {K : AV → Heap → Prop} {s : St} {rs : List ResultVar} (hrs : fa.fn.results.toList = rs) {l : List AV} (hl : resAll S.P s.loc s.H rs = some l) (hk : K (oneOr l) s.H) : retP S true fa H0 K .ret s := by
  rw [ret_ret, hrs, hl, optP_some]
  simp only [if_true]
  exact hk
theorem fin_own_n {fa : FnA} {H0 : Heap} {K : AV → Heap → Prop} {s : St} {rs : List ResultVar} (hrs : fa.fn.results.toList = rs) {l : List AV} (hl : resAll S.P s.loc s.H rs = some l) (hk : K (oneOr l) s.H) : retP S true fa H0 K .normal s := fin_own hrs hl hk
theorem ACall_eq {f : FuncId} {vs : List AV} {K : AV → Heap → Prop} {v : AV} (h : ACall S lim f vs H fun r H' => r = v ∧ H' = H) (hk : K v H) : ACall S lim f vs H K :=
  ACall_mono h fun r H' ⟨h1, h2⟩ => by rw [h1, h2]; exact hk
end
end
end Go.Am
end
section
namespace Go.Am
open Go
attribute [go_sem] get_cons get_nil getD_cons getD_nil put_some put_none ev_tmp ev_int ev_bool ev_str ev_nil ev_func ev_agg
  max2_int min2_int bin_add bin_sub bin_mul bin_eql bin_neq bin_lss bin_leq bin_gtr bin_geq un_not un_neg
  q_load q_move q_assign q_binOp q_unOp q_pick q_build q_nilCheck q_convert q_makeFunc q_slice q_fieldAddr q_field q_indexAddr q_index q_extract q_len q_max q_min q_max3
  hget_app hset_app frz_v frz_tup frz_agg frz_sl res_nil res_tmp res_cell one_one one_two
  cells_sl cells_own cells_ptr cells_clo cells_agg st_v st_int st_bool st_string st_slice st_sl st_own st_ptr st_clo
/-- What a list holds at a place. -/
def gt {α : Type} [Inhabited α] (l : List α) (i : Nat) : α := l.getD i default
theorem gt_eq {α : Type} [Inhabited α] (l : List α) (i : Nat) (h : i < l.length) : gt l i = l[i] := by simp [gt, List.getD_eq_getElem?_getD, h]
theorem all_step {P : Nat → Prop} {u : Nat} (h : ∀ i, i < u → P i) (hu : P u) : ∀ i, i < u + 1 → P i := by
  intro i hi
  by_cases h1 : i < u
  · exact h i h1
  · have : i = u := by omega
    subst this; exact hu
theorem gt_set {α : Type} [Inhabited α] (l : List α) (i j : Nat) (x : α) (h : i < l.length) : gt (l.set i x) j = if i = j then x else gt l j := by
  simp only [gt, List.getD_eq_getElem?_getD, List.getElem?_set]
  by_cases hij : i = j
  · subst hij; simp [h]
  · simp [hij]
theorem ext_gt {α : Type} [Inhabited α] {l m : List α} (h : l.length = m.length) (hg : ∀ i, i < l.length → gt l i = gt m i) : l = m := by
  apply List.ext_getElem h
  intro i h1 h2
  rw [← gt_eq l i h1, ← gt_eq m i h2]; exact hg i h1
theorem drop_gt {α : Type} [Inhabited α] (l : List α) (i : Nat) (h : i < l.length) : l.drop i = gt l i :: l.drop (i + 1) := by rw [gt_eq l i h]; exact List.drop_eq_getElem_cons h
section
variable (P : Program)
theorem bin_quo' (t : TypeId) (k : IntKind) (a b : Int) (h : 0 ≤ a) (hb : 0 < b) : binV P .quo t (.v (.int k a)) (.v (.int k b)) = some (.v (.int k (k.wrap (a / b)))) := by
  rw [bin_quo, if_neg (by omega), Int.tdiv_eq_ediv_of_nonneg h]
theorem bin_rem' (t : TypeId) (k : IntKind) (a b : Int) (h : 0 ≤ a) (hb : 0 < b) : binV P .rem t (.v (.int k a)) (.v (.int k b)) = some (.v (.int k (a % b))) := by
  rw [bin_rem, if_neg (by omega), Int.tmod_eq_emod_of_nonneg h]
theorem wr_i64 (n : Int) (h : -9223372036854775808 ≤ n) (h' : n ≤ 9223372036854775807) : IntKind.i64.wrap n = n := wrap_i64 n ⟨h, h'⟩
theorem wr_u64 (n : Int) (h : 0 ≤ n) (h' : n ≤ 18446744073709551615) : IntKind.u64.wrap n = n := wrap_u64 n ⟨h, h'⟩
theorem wr_u8 (n : Int) (h : 0 ≤ n) (h' : n ≤ 255) : IntKind.u8.wrap n = n := wrap_u8 n ⟨h, h'⟩
theorem nat_get {α : Type} [Inhabited α] (f : α → AV) (l : List α) (i : Nat) (h : i < l.length) : (l.map f)[i]? = some (f (gt l i)) := by
  simp [gt, List.getD_eq_getElem?_getD, h]
theorem nat_get1 {α : Type} [Inhabited α] (f : α → AV) (l : List α) (i : Nat) (h : i < l.length) : ((l.map f).drop i).take 1 = [f (gt l i)] := by
  rw [List.take_one, List.head?_drop, nat_get f l i h]; rfl
theorem hget_low (H X : Heap) (b : Nat) (h : b < H.length) : hget (H ++ X) b = hget H b := by simp [hget, List.getElem?_append_left h]
theorem hset_low (H X : Heap) (b : Nat) (x : Option Blk) (h : b < H.length) : hset (H ++ X) b x = hset H b x ++ X := by simp [hset, List.set_append_left _ _ h]
theorem setL_one (l : List AV) (o : Nat) (x : AV) : setL l o [x] = l.set o x := rfl
theorem take1 {α : Type} (a : α) (l : List α) : (a :: l).take 1 = [a] := rfl
theorem toNat_nat (u : Nat) : Int.toNat (u : Int) = u := rfl
theorem toNat_add (u k : Nat) : Int.toNat ((u : Int) + (k : Int)) = u + k := rfl
theorem toNat_succ (u : Nat) : Int.toNat ((u : Int) + 1) = u + 1 := rfl
theorem toNat_zero : Int.toNat 0 = 0 := rfl
theorem toNat_pred (u : Nat) (h : 0 < u) : Int.toNat ((u : Int) - 1) = u - 1 := by omega
theorem toNat_pred2 (u : Nat) (h : 2 ≤ u) : Int.toNat ((u : Int) - 2) = u - 2 := by omega
theorem opt_one {α β : Type} (x : α) (f : α → β) : Option.map f (some x) = some (f x) := rfl
theorem cells_i (k : IntKind) (n : Int) : cellsOf (.v (.int k n)) = some [.v (.int k n)] := rfl
theorem cells_b (b : Bool) : cellsOf (.v (.bool b)) = some [.v (.bool b)] := rfl
theorem cells_n : cellsOf (.v (.slice none 0 0)) = some [.v (.slice none 0 0)] := rfl
end
attribute [go_sem] bin_quo' bin_rem' wr_i64 wr_u64 wr_u8 toNat_nat toNat_succ toNat_zero toNat_pred toNat_pred2 Nat.mul_one Nat.zero_add Nat.add_zero Nat.one_mul opt_one cells_i cells_b cells_n take1 Option.bind_some Bool.not_true Bool.not_false nat_get nat_get1 hget_low hset_low setL_one List.set_cons_zero List.set_cons_succ List.getElem?_cons_zero List.getElem?_cons_succ List.length_map List.all_cons List.all_nil Bool.and_true Bool.and_self List.map_cons List.map_nil List.drop_zero List.length_cons List.length_nil
end Go.Am
namespace Go.Am
open Go
/-! ### The steps with their side goals filled in -/
section
variable {S : Sig} {lim : Nat} {ops : Array Oper} {l : List Oper} {e : Env} {H : Heap} {d : Option Tmp} {op : Op} {ty : TypeId} {pos : String} {af : Array Edge}
theorem Rq {K : Env → Heap → Prop} {r : AV} (hk : Rp S lim ops l (e.put d r) H K) (hq : isQ op = true := by rfl)
    (h : qV S.P H op e = some r := by simp (disch := first | omega | (simp only [List.length_map, List.length_append, List.length_set, List.length_cons, List.length_nil, List.length_take, List.length_drop]; omega)) only [go_sem, ↓reduceIte, Nat.reduceEqDiff, reduceCtorEq] <;> rfl) :
    Rp S lim ops (⟨d, op, ty, pos, af, none⟩ :: l) e H K := R_q hq h hk
theorem Qq {K : Env → Prop} {r : AV} (hk : Qp S ops l (e.put d r) H K) (hq : isQ op = true := by rfl)
    (h : qV S.P H op e = some r := by simp (disch := first | omega | (simp only [List.length_map, List.length_append, List.length_set, List.length_cons, List.length_nil, List.length_take, List.length_drop]; omega)) only [go_sem, ↓reduceIte, Nat.reduceEqDiff, reduceCtorEq] <;> rfl) :
    Qp S ops (⟨d, op, ty, pos, af, none⟩ :: l) e H K := Q_q hq h hk
theorem Lq {R R' : List Nat} {K : Env → List Nat → Prop} {r : AV} (hk : Lp S ops H K l (e.put d r) R') (hq : isQ op = true := by rfl)
    (h : qV S.P H op e = some r := by simp (disch := first | omega | (simp only [List.length_map, List.length_append, List.length_set, List.length_cons, List.length_nil, List.length_take, List.length_drop]; omega)) only [go_sem, ↓reduceIte, Nat.reduceEqDiff, reduceCtorEq] <;> rfl) (hr : rdV op e ++ R = R' := by rfl) :
    Lp S ops H K (⟨d, op, ty, pos, af, none⟩ :: l) e R := L_q hq h hr hk
theorem Ly {R : List Nat} {K : Env → List Nat → Prop} {j t : Nat} {want : Bool} (hy : Lp S ops H K (⟨d, op, ty, pos, af, none⟩ :: l) e R) (hj : (ops[j]?).bind (·.dst) = some t := by rfl)
    (hb : e.get t = .v (.bool want) := by simp only [go_sem, ↓reduceIte, Nat.reduceEqDiff]) : Lp S ops H K (⟨d, op, ty, pos, af, some (j, want)⟩ :: l) e R := L_yes hj hb rfl hy
theorem Ln {R : List Nat} {K : Env → List Nat → Prop} {j t : Nat} {want : Bool} (hy : Lp S ops H K l (e.put d (.v undef)) R) (hj : (ops[j]?).bind (·.dst) = some t := by rfl)
    (hb : e.get t = .v (.bool (!want)) := by simp only [go_sem, ↓reduceIte, Nat.reduceEqDiff, Bool.not_true, Bool.not_false]) : Lp S ops H K (⟨d, op, ty, pos, af, some (j, want)⟩ :: l) e R := L_no hj hb rfl hy
theorem Lu {R : List Nat} {K : Env → List Nat → Prop} {j t : Nat} {want : Bool} (hy : Lp S ops H K l (e.put d (.v undef)) R) (hj : (ops[j]?).bind (·.dst) = some t := by rfl)
    (hb : e.get t = .v undef := by simp only [go_sem, ↓reduceIte, Nat.reduceEqDiff]) : Lp S ops H K (⟨d, op, ty, pos, af, some (j, want)⟩ :: l) e R := L_un hj hb hy
theorem Ms {R : List Nat} {K : Env → Heap → Prop} {o : Oper} {l : List Oper} (h : Rp S lim ops [o] e H fun e' H' => Mp S lim ops R K l e' H') (hc : wrC R o e = true := by rfl) : Mp S lim ops R K (o :: l) e H := M_step hc h
theorem Ry {K : Env → Heap → Prop} {j t : Nat} {want : Bool} (hy : Rp S lim ops (⟨d, op, ty, pos, af, none⟩ :: l) e H K) (hj : (ops[j]?).bind (·.dst) = some t := by rfl)
    (hb : e.get t = .v (.bool want) := by simp only [go_sem, ↓reduceIte, Nat.reduceEqDiff]) : Rp S lim ops (⟨d, op, ty, pos, af, some (j, want)⟩ :: l) e H K := R_yes hj hb rfl hy
theorem Rn {K : Env → Heap → Prop} {j t : Nat} {want : Bool} (hy : Rp S lim ops l (e.put d (.v undef)) H K) (hj : (ops[j]?).bind (·.dst) = some t := by rfl)
    (hb : e.get t = .v (.bool (!want)) := by simp only [go_sem, ↓reduceIte, Nat.reduceEqDiff, Bool.not_true, Bool.not_false]) : Rp S lim ops (⟨d, op, ty, pos, af, some (j, want)⟩ :: l) e H K := R_no hj hb rfl hy
theorem Ru {K : Env → Heap → Prop} {j t : Nat} {want : Bool} (hy : Rp S lim ops l (e.put d (.v undef)) H K) (hj : (ops[j]?).bind (·.dst) = some t := by rfl)
    (hb : e.get t = .v undef := by simp only [go_sem, ↓reduceIte, Nat.reduceEqDiff]) : Rp S lim ops (⟨d, op, ty, pos, af, some (j, want)⟩ :: l) e H K := R_un hj hb hy
theorem Qy {K : Env → Prop} {j t : Nat} {want : Bool} (hy : Qp S ops (⟨d, op, ty, pos, af, none⟩ :: l) e H K) (hj : (ops[j]?).bind (·.dst) = some t := by rfl)
    (hb : e.get t = .v (.bool want) := by simp only [go_sem, ↓reduceIte, Nat.reduceEqDiff]) : Qp S ops (⟨d, op, ty, pos, af, some (j, want)⟩ :: l) e H K := Q_yes hj hb rfl hy
theorem Qn {K : Env → Prop} {j t : Nat} {want : Bool} (hy : Qp S ops l (e.put d (.v undef)) H K) (hj : (ops[j]?).bind (·.dst) = some t := by rfl)
    (hb : e.get t = .v (.bool (!want)) := by simp only [go_sem, ↓reduceIte, Nat.reduceEqDiff, Bool.not_true, Bool.not_false]) : Qp S ops (⟨d, op, ty, pos, af, some (j, want)⟩ :: l) e H K := Q_no hj hb rfl hy
theorem Qu {K : Env → Prop} {j t : Nat} {want : Bool} (hy : Qp S ops l (e.put d (.v undef)) H K) (hj : (ops[j]?).bind (·.dst) = some t := by rfl)
    (hb : e.get t = .v undef := by simp only [go_sem, ↓reduceIte, Nat.reduceEqDiff]) : Qp S ops (⟨d, op, ty, pos, af, some (j, want)⟩ :: l) e H K := Q_un hj hb hy
theorem Rcall {K : Env → Heap → Prop} {f : FuncId} {args : Array Operand} {ts : Array TypeId} {vs : List AV} (hk : ACall S lim f vs H fun x H' => Rp S lim ops l (e.put d x) H' K)
    (h : args.toList.map (evO e) = vs := by simp only [List.map_cons, List.map_nil, go_sem, ↓reduceIte, Nat.reduceEqDiff]; rfl) :
    Rp S lim ops (⟨d, .call ⟨.value (.func f), args, ts⟩, ty, pos, af, none⟩ :: l) e H K := R_call h hk
theorem Qcall {K : Env → Prop} {f : FuncId} {args : Array Operand} {ts : Array TypeId} {vs : List AV} (hk : ACall S H.length f vs H fun x _ => exacts x = true ∧ Qp S ops l (e.put d x) H K) (hp : S.own f = false := by rfl)
    (h : args.toList.map (evO e) = vs := by simp only [List.map_cons, List.map_nil, go_sem, ↓reduceIte, Nat.reduceEqDiff]; rfl) :
    Qp S ops (⟨d, .call ⟨.value (.func f), args, ts⟩, ty, pos, af, none⟩ :: l) e H K := Q_call hp h hk
variable {dr : List (Nat × Draw)} {loc : Env} {Q : Ex → St → Prop} {c : Code} {p : List Nat}
theorem cdd {o : Operand} {t : Bool} (h1 : t = true → W S lim dr (at' c (0 :: p)) ⟨loc, H⟩ Q) (h2 : t = false → W S lim dr (at' c (1 :: p)) ⟨loc, H⟩ Q) (h : at' c p = .cond o (at' c (0 :: p)) (at' c (1 :: p)) := by rfl)
    (hc : evO loc o = .v (.bool t) := by simp only [go_sem, ↓reduceIte, Nat.reduceEqDiff]; rfl) : W S lim dr (at' c p) ⟨loc, H⟩ Q := cd h hc h1 h2
theorem cdt {o : Operand} (h1 : W S lim dr (at' c (0 :: p)) ⟨loc, H⟩ Q) (h : at' c p = .cond o (at' c (0 :: p)) (at' c (1 :: p)) := by rfl) (hc : evO loc o = .v (.bool true) := by simp only [go_sem, ↓reduceIte, Nat.reduceEqDiff]) : W S lim dr (at' c p) ⟨loc, H⟩ Q := cd_t h hc h1
theorem cdf {o : Operand} (h1 : W S lim dr (at' c (1 :: p)) ⟨loc, H⟩ Q) (h : at' c p = .cond o (at' c (0 :: p)) (at' c (1 :: p)) := by rfl) (hc : evO loc o = .v (.bool false) := by simp only [go_sem, ↓reduceIte, Nat.reduceEqDiff]) : W S lim dr (at' c p) ⟨loc, H⟩ Q := cd_f h hc h1
theorem bin_prem {t : Bool} {p : Prop} (h : t = true) (h' : (t = true) = p) : p := h' ▸ h
theorem fpure {fa : FnA} {H0 : Heap} {K : AV → Heap → Prop} {s : St} {l : List AV} {v : AV} (hk : K v H0) (hl : resAll S.P s.loc s.H fa.fn.results.toList = some l := by simp only [go_sem, ↓reduceIte, Nat.reduceEqDiff]; rfl)
    (hv : frz s.H H0.length 8 (oneOr l) = v := by simp only [go_sem, ↓reduceIte, Nat.reduceEqDiff]; rfl) : retP S false fa H0 K .ret s := fin_pure rfl hl hv hk
end
end Go.Am
end
