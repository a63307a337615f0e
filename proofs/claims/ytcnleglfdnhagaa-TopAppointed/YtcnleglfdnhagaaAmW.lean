/-
  The abstract machine, symbolically: what is enough for a piece of code, an operation, a call to come to a given end.
-/
import Derived.Test.YtcnleglfdnhagaaAm
namespace Go.Am
open Go

/-! ### More fuel, the same answer -/
def CallLe (c c' : CallF) : Prop := ∀ lim f args H r, c lim f args H = some r → c' lim f args H = some r

theorem opV_mono {P : Program} {c c' : CallF} (hc : CallLe c c') {lim : Nat} {o : Op} {e : Env} {H : Heap} {r : AV × Heap} (h : opV P c lim o e H = some r) : opV P c' lim o e H = some r := by
  unfold opV at *
  split
  · rename_i t a hl; simp only [hl] at h; exact h
  · rename_i hl
    simp only [hl] at h
    split
    · rename_i f args hcv; simp only [hcv] at h; exact hc _ _ _ _ _ h
    · rename_i hcv; simp only [hcv] at h; exact h

theorem runOps_mono {P : Program} {c c' : CallF} (hc : CallLe c c') {lim : Nat} {ops : Array Oper} : ∀ (l : List Oper) (e : Env) (H : Heap) (r : Env × Heap),
    runOps P c lim ops l e H = some r → runOps P c' lim ops l e H = some r
  | [], _, _, _, h => h
  | o :: l, e, H, r, h => by
    simp only [runOps] at h ⊢
    split
    · rename_i hw
      simp only [hw] at h
      split at h
      · rename_i x H' ho
        rw [opV_mono hc ho]
        exact runOps_mono hc l _ _ _ h
      · cases h
    · rename_i hw
      simp only [hw] at h
      exact runOps_mono hc l _ _ _ h
    · rename_i hw
      simp only [hw] at h
      cases h

theorem quietV_mono {P : Program} {c c' : CallF} (hc : CallLe c c') {pu : FuncId → Bool} {o : Op} {e : Env} {H : Heap} {r : AV} (h : quietV P c pu o e H = some r) : quietV P c' pu o e H = some r := by
  unfold quietV at *
  split
  · rename_i t a hl; simp only [hl] at h; exact h
  · rename_i hl
    simp only [hl] at h
    split
    · rename_i f args hcv
      simp only [hcv] at h
      split
      · rename_i hp
        simp only [hp, if_true] at h
        split at h
        · rename_i x H' hx
          rw [hc _ _ _ _ _ hx]
          exact h
        · cases h
      · rename_i hp; simp [hp] at h
    · rename_i hcv; simp only [hcv] at h; exact h

theorem runQuiet_mono {P : Program} {c c' : CallF} (hc : CallLe c c') {pu : FuncId → Bool} {ops : Array Oper} : ∀ (l : List Oper) (e : Env) (H : Heap) (r : Env),
    runQuiet P c pu ops l e H = some r → runQuiet P c' pu ops l e H = some r
  | [], _, _, _, h => h
  | o :: l, e, H, r, h => by
    simp only [runQuiet] at h ⊢
    split
    · rename_i hw
      simp only [hw] at h
      split at h
      · rename_i x ho
        rw [quietV_mono hc ho]
        exact runQuiet_mono hc l _ _ _ h
      · cases h
    · rename_i hw
      simp only [hw] at h
      exact runQuiet_mono hc l _ _ _ h
    · rename_i hw
      simp only [hw] at h
      cases h

theorem altsOK_mono {P : Program} {c c' : CallF} (hc : CallLe c c') {ops : Array Oper} {live keep : List Nat} {n0 : Nat} {e e0 : Env} {H H0 : Heap} : ∀ (ms : List (List Nat)), altsOK P c ops live keep n0 e H e0 H0 ms = true → altsOK P c' ops live keep n0 e H e0 H0 ms = true
  | [], _ => rfl
  | m :: ms, h => by
    simp only [altsOK, Bool.and_eq_true] at h ⊢
    refine ⟨?_, altsOK_mono hc ms h.2⟩
    have h1 := h.1
    split at h1
    · rename_i r hr; rw [runOps_mono hc _ _ _ _ hr]; exact h1
    · cases h1
theorem runMid_mono {P : Program} {c c' : CallF} (hc : CallLe c c') {lim : Nat} {ops : Array Oper} {R : List Nat} : ∀ (l : List Oper) (e : Env) (H : Heap) (r : Env × Heap),
    runMid P c lim ops R l e H = some r → runMid P c' lim ops R l e H = some r
  | [], _, _, _, h => h
  | o :: l, e, H, r, h => by
    simp only [runMid] at h ⊢
    split at h
    rotate_left
    · cases h
    rename_i hwc
    rw [if_pos hwc]
    split
    · rename_i hw
      simp only [hw] at h
      split at h
      · rename_i x H' ho
        rw [opV_mono hc ho]
        split at h
        · cases h
        rename_i hst
        simp only [if_neg hst]
        exact runMid_mono hc l _ _ _ h
      · cases h
    · rename_i hw
      simp only [hw] at h
      exact runMid_mono hc l _ _ _ h
    · rename_i hw
      simp only [hw] at h
      cases h
theorem led_mono {P : Program} {c c' : CallF} (hc : CallLe c c') {lim : Nat} {ops : Array Oper} {lead : List Nat} {mids : List (List Nat)} {fin live keep : List Nat} {s r : St} (h : led P c lim ops lead mids fin live keep s = some r) : led P c' lim ops lead mids fin live keep s = some r := by
  unfold led at *
  split at h
  · split at h
    rotate_left
    · cases h
    rename_i e1 H1 hrun
    simp only [runMid_mono hc _ _ _ _ hrun]
    simp only [Option.map_eq_some_iff] at h ⊢
    obtain ⟨x, hx, hr⟩ := h
    exact ⟨x, runOps_mono hc _ _ _ _ hx, hr⟩
  · split at h
    rotate_left
    · cases h
    rename_i e1 H1 hrun
    simp only [runOps_mono hc _ _ _ _ hrun]
    split at h
    rotate_left
    · cases h
    rename_i halt
    rw [if_pos (altsOK_mono hc _ halt)]
    simp only [Option.map_eq_some_iff] at h ⊢
    obtain ⟨x, hx, hr⟩ := h
    exact ⟨x, runOps_mono hc _ _ _ _ hx, hr⟩
  · cases h

theorem led2_mono {P : Program} {c c' : CallF} (hc : CallLe c c') {lim : Nat} {ops : Array Oper} {lead mid lead2 : List Nat} {mids : List (List Nat)} {fin live keep : List Nat} {s r : St} (h : led2 P c lim ops lead mid lead2 mids fin live keep s = some r) : led2 P c' lim ops lead mid lead2 mids fin live keep s = some r := by
  unfold led2 at *
  split at h
  rotate_left
  · cases h
  split at h
  rotate_left
  · cases h
  rename_i e1 H1 hrun
  simp only [runOps_mono hc _ _ _ _ hrun]
  split at h
  rotate_left
  · cases h
  rename_i hH
  rw [if_pos hH]
  split at h
  rotate_left
  · cases h
  split at h
  rotate_left
  · cases h
  rename_i e3 H3 hrun3
  simp only [runOps_mono hc _ _ _ _ hrun3]
  split at h
  rotate_left
  · cases h
  rename_i halt
  rw [if_pos (altsOK_mono hc _ halt)]
  simp only [Option.map_eq_some_iff] at h ⊢
  obtain ⟨x, hx, hr⟩ := h
  exact ⟨x, runOps_mono hc _ _ _ _ hx, hr⟩

theorem led3_mono {P : Program} {c c' : CallF} (hc : CallLe c c') {lim : Nat} {ops : Array Oper} {lead mid lead2 m fin : List Nat} {s r : St} (h : led3 P c lim ops lead mid lead2 m fin s = some r) : led3 P c' lim ops lead mid lead2 m fin s = some r := by
  unfold led3 at *
  split at h
  rotate_left
  · cases h
  split at h
  rotate_left
  · cases h
  rename_i e1 H1 hrun
  simp only [runMid_mono hc _ _ _ _ hrun]
  split at h
  rotate_left
  · cases h
  split at h
  rotate_left
  · cases h
  rename_i e3 H3 hrun3
  simp only [runMid_mono hc _ _ _ _ hrun3]
  simp only [Option.map_eq_some_iff] at h ⊢
  obtain ⟨x, hx, hr⟩ := h
  exact ⟨x, runOps_mono hc _ _ _ _ hx, hr⟩
theorem led4_mono {P : Program} {c c' : CallF} (hc : CallLe c c') {lim : Nat} {ops : Array Oper} {lead lead2 m fin : List Nat} {s r : St} (h : led4 P c lim ops lead lead2 m fin s = some r) : led4 P c' lim ops lead lead2 m fin s = some r := by
  unfold led4 at *
  split at h
  rotate_left
  · cases h
  split at h
  rotate_left
  · cases h
  split at h
  rotate_left
  · cases h
  rename_i e3 H3 hrun3
  simp only [runMid_mono hc _ _ _ _ hrun3]
  simp only [Option.map_eq_some_iff] at h ⊢
  obtain ⟨x, hx, hr⟩ := h
  exact ⟨x, runOps_mono hc _ _ _ _ hx, hr⟩
theorem led23_mono {P : Program} {c c' : CallF} (hc : CallLe c c') {lim : Nat} {ops : Array Oper} {lead mid lead2 : List Nat} {mids : List (List Nat)} {fin live keep : List Nat} {s r : St} (h : led23 P c lim ops lead mid lead2 mids fin live keep s = some r) : led23 P c' lim ops lead mid lead2 mids fin live keep s = some r := by
  unfold led23 at *
  split at h
  · split at h
    · rename_i h0
      simp only [if_pos h0]
      exact led4_mono hc h
    · rename_i h0
      simp only [if_neg h0]
      exact led3_mono hc h
  · exact led2_mono hc h

theorem altsL_mono {P : Program} {c c' : CallF} (hc : CallLe c c') {lim : Nat} {ops : Array Oper} {R live keep : List Nat} {n0 : Nat} {e e0 : Env} {H H0 : Heap} : ∀ (ms : List (List Nat)), altsL P c lim ops R live keep n0 e H e0 H0 ms = true → altsL P c' lim ops R live keep n0 e H e0 H0 ms = true
  | [], _ => rfl
  | m :: ms, h => by
    simp only [altsL, Bool.and_eq_true] at h ⊢
    refine ⟨?_, altsL_mono hc ms h.2⟩
    have h1 := h.1
    split at h1
    · rename_i r hr; rw [runMid_mono hc _ _ _ _ hr]; exact h1
    · cases h1
theorem ledL_mono {P : Program} {c c' : CallF} (hc : CallLe c c') {lim : Nat} {ops : Array Oper} {lead : List Nat} {mids : List (List Nat)} {fin live keep : List Nat} {s r : St} (h : ledL P c lim ops lead mids fin live keep s = some r) : ledL P c' lim ops lead mids fin live keep s = some r := by
  unfold ledL at *
  split at h
  · split at h
    rotate_left
    · cases h
    rename_i e1 H1 hrun
    simp only [runMid_mono hc _ _ _ _ hrun]
    split at h
    rotate_left
    · cases h
    rename_i halt
    rw [if_pos (altsL_mono hc _ halt)]
    simp only [Option.map_eq_some_iff] at h ⊢
    obtain ⟨x, hx, hr⟩ := h
    exact ⟨x, runOps_mono hc _ _ _ _ hx, hr⟩
  · cases h
theorem region_mono {P : Program} {c c' : CallF} (hc : CallLe c c') {pu : FuncId → Bool} {lim : Nat} {dr : List (Nat × Draw)} {id : Nat} {ops : Array Oper} {draw : Bool} {s : St} {r : St}
    (h : region P c pu lim dr id ops draw s = some r) : region P c' pu lim dr id ops draw s = some r := by
  unfold region at *
  split
  · rename_i hd
    simp only [hd, if_true] at h
    split
    · rename_i n hn
      simp only [hn] at h
      split at h
      · rename_i e he
        rw [runQuiet_mono hc _ _ _ _ he]
        simp only [Option.map_eq_some_iff] at h ⊢
        obtain ⟨x, hx, hr⟩ := h
        exact ⟨x, runOps_mono hc _ _ _ _ hx, hr⟩
      · cases h
    · rename_i lead mids fin live keep hn; simp only [hn] at h; exact led_mono hc h
    · rename_i lead mid lead2 mids fin live keep hn; simp only [hn] at h; exact led23_mono hc h
    · rename_i lead mids fin live keep hn; simp only [hn] at h; exact ledL_mono hc h
    · rename_i hn; simp only [hn] at h; cases h
  · rename_i hd
    simp only [hd] at h
    simp only [Bool.false_eq_true, if_false, Option.map_eq_some_iff] at h ⊢
    obtain ⟨x, hx, hr⟩ := h
    exact ⟨x, runOps_mono hc _ _ _ _ hx, hr⟩

theorem exec_mono {P : Program} {c c' : CallF} (hc : CallLe c c') {pu : FuncId → Bool} {lim : Nat} {dr : List (Nat × Draw)} : ∀ (n m : Nat), n ≤ m → ∀ (code : Code) (s : St) (r : Ex × St),
    exec P c pu lim dr n code s = some r → exec P c' pu lim dr m code s = some r
  | 0, _, _, _, _, _, h => by cases h
  | n + 1, 0, hle, _, _, _, _ => by omega
  | n + 1, m + 1, hle, code, s, r, h => by
    have ih := exec_mono (P := P) hc (pu := pu) (lim := lim) (dr := dr) n m (by omega)
    cases code <;> simp only [exec] at h ⊢ <;> try exact h
    case region id ops draw =>
      simp only [Option.map_eq_some_iff] at h ⊢
      obtain ⟨x, hx, hr⟩ := h
      exact ⟨x, region_mono hc hx, hr⟩
    case seq a b =>
      split at h
      · rename_i s' ha
        rw [ih _ _ _ ha]
        exact ih _ _ _ h
      · rename_i hr
        cases hx : exec P c pu lim dr n a s with
        | none => rw [hx] at h; cases h
        | some y =>
          rw [ih _ _ _ hx]
          rw [hx] at h hr
          obtain ⟨e, s'⟩ := y
          cases e
          · exact absurd rfl (hr _)
          · exact h
          · exact h
    case cond c x y =>
      split at h
      · rename_i t ht
        split at h
        · rename_i h1; simp only [h1]; exact ih _ _ _ h
        · rename_i h1; simp only [h1]; exact ih _ _ _ h
      · cases h
    case block id b =>
      cases hx : exec P c pu lim dr n b s with
      | none => rw [hx] at h; cases h
      | some y =>
        rw [ih _ _ _ hx]
        rw [hx] at h
        exact h
    case loop b =>
      cases hx : exec P c pu lim dr n b s with
      | none => rw [hx] at h; cases h
      | some y =>
        rw [ih _ _ _ hx]
        rw [hx] at h
        obtain ⟨e, s'⟩ := y
        cases e
        · exact ih _ _ _ h
        · exact h
        · exact h

theorem acall_mono (S : Sig) : ∀ (n m : Nat), n ≤ m → CallLe (acall S n) (acall S m)
  | 0, _, _ => fun _ _ _ _ _ h => by cases h
  | n + 1, 0, h => by omega
  | n + 1, m + 1, hle => by
    intro lim f args H r h
    simp only [acall] at h ⊢
    split
    · rename_i p hp; simp only [hp] at h; exact h
    · rename_i hp
      simp only [hp] at h
      split
      · rename_i fa hf
        simp only [hf] at h
        split
        · rename_i c hb
          simp only [hb] at h
          have ih := acall_mono S n m (by omega)
          by_cases hz : S.fz f = true
          · simp only [hz, if_true] at h ⊢
            cases hx : exec S.P (acall S n) S.pure 0 fa.draws n c ⟨env0 fa.keep (args.map (frz H 0 8)), []⟩ with
            | none => rw [hx] at h; simp [finish] at h
            | some y => rw [exec_mono ih n m (by omega) _ _ _ hx]; rw [hx] at h; exact h
          · simp only [hz, Bool.false_eq_true, if_false] at h ⊢
            cases hx : exec S.P (acall S n) S.pure (if S.own f then lim else H.length) fa.draws n c ⟨env0 fa.keep args, H⟩ with
            | none => rw [hx] at h; simp [finish] at h
            | some y => rw [exec_mono ih n m (by omega) _ _ _ hx]; rw [hx] at h; exact h
        · rename_i hb; simp only [hb] at h; cases h
      · rename_i hf; simp only [hf] at h; exact h

/-! ### Enough for an end -/
section
variable (S : Sig)

/-- The call comes to an end of which K holds. -/
def ACall (lim : Nat) (f : FuncId) (args : List AV) (H : Heap) (K : AV → Heap → Prop) : Prop := ∃ n r H', acall S n lim f args H = some (r, H') ∧ K r H'

def W (lim : Nat) (dr : List (Nat × Draw)) (c : Code) (s : St) (Q : Ex → St → Prop) : Prop := ∃ n e s', exec S.P (acall S n) S.pure lim dr n c s = some (e, s') ∧ Q e s'

def optP {α : Type} (x : Option α) (K : α → Prop) : Prop :=
  match x with
  | some a => K a
  | none => False

def opP (lim : Nat) (o : Op) (e : Env) (H : Heap) (K : AV → Heap → Prop) : Prop :=
  match o with
  | .load t a => optP (loadV S.P H t (evO e a)) (K · H)
  | .move x | .assign x => K (evO e x) H
  | .call { callee := .value f, args, argTypes := _ } =>
    match evO e f with
    | .clo g l => ACall S lim g (args.toList.map (evO e) ++ l) H K
    | _ => False
  | .alloc _ | .box _ _ | .store _ _ _ | .buildSlice _ _ _ | .makeSlice _ _ _ | .call { callee := .builtin .append, args := _, argTypes := _ } => optP (effV S.P lim o (evO e) H) fun r => K r.1 r.2
  | .convert s d x =>
    match convV S.P s d (evO e x) with
    | some y => K y H
    | none => optP (effV S.P lim (.convert s d x) (evO e) H) fun r => K r.1 r.2
  | o => optP (popV S.P o (evO e)) (K · H)

def guardP (ops : Array Oper) (e : Env) (o : Oper) (Y N : Prop) : Prop :=
  match wantedA ops e o with
  | some true => Y
  | some false => N
  | none => False

def Rp (lim : Nat) (ops : Array Oper) : List Oper → Env → Heap → (Env → Heap → Prop) → Prop
  | [], e, H, K => K e H
  | o :: l, e, H, K => guardP ops e o (opP S lim o.op e H fun x H' => Rp lim ops l (e.put o.dst x) H' K) (Rp lim ops l (e.put o.dst (.v undef)) H K)

/-- A call in a region that draws its order: its answer must be the same in every world. -/
def opQ (o : Op) (e : Env) (H : Heap) (K : AV → Prop) : Prop :=
  match o with
  | .load t a => optP (loadV S.P H t (evO e a)) K
  | .move x | .assign x => K (evO e x)
  | .call { callee := .value f, args, argTypes := _ } =>
    match evO e f with
    | .clo g l => S.pure g = true ∧ ACall S H.length g (args.toList.map (evO e) ++ l) H fun x _ => exacts x = true ∧ K x
    | _ => False
  | o => optP (popV S.P o (evO e)) K

def Qp (ops : Array Oper) : List Oper → Env → Heap → (Env → Prop) → Prop
  | [], e, _, K => K e
  | o :: l, e, H, K => guardP ops e o (opQ S o.op e H fun x => Qp ops l (e.put o.dst x) H K) (Qp ops l (e.put o.dst (.v undef)) H K)

variable {S}

theorem opV_of_opP {lim : Nat} {o : Op} {e : Env} {H : Heap} {K : AV → Heap → Prop} (h : opP S lim o e H K) : ∃ n x H', opV S.P (acall S n) lim o e H = some (x, H') ∧ K x H' := by
  unfold opP at h
  split at h
  · rename_i t a
    unfold optP at h
    split at h
    · rename_i x hx; exact ⟨0, x, H, by simp [opV, isLoad, hx], h⟩
    · exact h.elim
  · exact ⟨0, _, H, by simp [opV, isLoad, callV, popV], h⟩
  · exact ⟨0, _, H, by simp [opV, isLoad, callV, popV], h⟩
  · rename_i f args _
    split at h
    · rename_i g l hf
      obtain ⟨n, r, H', hc, hk⟩ := h
      exact ⟨n, r, H', by simp [opV, isLoad, callV, hf, hc], hk⟩
    · exact h.elim
  · unfold optP at h
    split at h
    · rename_i x hx; exact ⟨0, x.1, x.2, by simp [opV, isLoad, callV, popV, hx], h⟩
    · exact h.elim
  · unfold optP at h
    split at h
    · rename_i x hx; exact ⟨0, x.1, x.2, by simp [opV, isLoad, callV, popV, hx], h⟩
    · exact h.elim
  · unfold optP at h
    split at h
    · rename_i x hx; exact ⟨0, x.1, x.2, by simp [opV, isLoad, callV, popV, hx], h⟩
    · exact h.elim
  · unfold optP at h
    split at h
    · rename_i x hx; exact ⟨0, x.1, x.2, by simp [opV, isLoad, callV, popV, hx], h⟩
    · exact h.elim
  · unfold optP at h
    split at h
    · rename_i x hx; exact ⟨0, x.1, x.2, by simp [opV, isLoad, callV, popV, hx], h⟩
    · exact h.elim
  · unfold optP at h
    split at h
    · rename_i x hx; exact ⟨0, x.1, x.2, by simp [opV, isLoad, callV, popV, hx], h⟩
    · exact h.elim
  · split at h
    · rename_i y hy; exact ⟨0, y, H, by simp [opV, isLoad, callV, popV, hy], h⟩
    · rename_i hn
      unfold optP at h
      split at h
      · rename_i x hx; exact ⟨0, x.1, x.2, by simp [opV, isLoad, callV, popV, hn, hx], h⟩
      · exact h.elim
  · rename_i h1 h2 h3 h4 h5 h6 h7 h8 h9 h10 h11
    unfold optP at h
    split at h
    · rename_i x hx
      refine ⟨0, x, H, ?_, h⟩
      have e1 : isLoad o = none := by unfold isLoad; split <;> first | rfl | (exact absurd rfl (h1 _ _))
      have e2 : callV o (evO e) = none := by
        unfold callV
        split
        · exact absurd rfl (h4 _ _ _)
        · rfl
      simp [opV, e1, e2, hx]
    · exact h.elim

theorem runOps_of_Rp {lim : Nat} {ops : Array Oper} : ∀ (l : List Oper) (e : Env) (H : Heap) (K : Env → Heap → Prop), Rp S lim ops l e H K → ∃ n e' H', runOps S.P (acall S n) lim ops l e H = some (e', H') ∧ K e' H'
  | [], e, H, K, h => ⟨0, e, H, rfl, h⟩
  | o :: l, e, H, K, h => by
    simp only [Rp, guardP] at h
    split at h
    · rename_i hw
      obtain ⟨n, x, H', ho, hr⟩ := opV_of_opP h
      obtain ⟨m, e', H'', hm, hk⟩ := runOps_of_Rp l _ _ _ hr
      refine ⟨max n m, e', H'', ?_, hk⟩
      simp only [runOps, hw, opV_mono (acall_mono S n (max n m) (by omega)) ho]
      exact runOps_mono (acall_mono S m (max n m) (by omega)) _ _ _ _ hm
    · rename_i hw
      obtain ⟨m, e', H'', hm, hk⟩ := runOps_of_Rp l _ _ _ h
      exact ⟨m, e', H'', by simp only [runOps, hw]; exact hm, hk⟩
    · exact h.elim

theorem quietV_of_opQ {o : Op} {e : Env} {H : Heap} {K : AV → Prop} (h : opQ S o e H K) : ∃ n x, quietV S.P (acall S n) S.pure o e H = some x ∧ K x := by
  unfold opQ at h
  split at h
  · rename_i t a
    unfold optP at h
    split at h
    · rename_i x hx; exact ⟨0, x, by simp [quietV, isLoad, hx], h⟩
    · exact h.elim
  · exact ⟨0, _, by simp [quietV, isLoad, callV, popV], h⟩
  · exact ⟨0, _, by simp [quietV, isLoad, callV, popV], h⟩
  · rename_i f args _
    split at h
    · rename_i g l hf
      obtain ⟨hp, n, r, H', hc, hk, hk'⟩ := h
      exact ⟨n, r, by simp [quietV, isLoad, callV, hf, hp, hc, hk], hk'⟩
    · exact h.elim
  · rename_i h1 h2 h3 h4
    unfold optP at h
    split at h
    · rename_i x hx
      refine ⟨0, x, ?_, h⟩
      have e1 : isLoad o = none := by unfold isLoad; split <;> first | rfl | (exact absurd rfl (h1 _ _))
      have e2 : callV o (evO e) = none := by
        unfold callV
        split
        · exact absurd rfl (h4 _ _ _)
        · rfl
      simp [quietV, e1, e2, hx]
    · exact h.elim

theorem runQuiet_of_Qp {ops : Array Oper} : ∀ (l : List Oper) (e : Env) (H : Heap) (K : Env → Prop), Qp S ops l e H K → ∃ n e', runQuiet S.P (acall S n) S.pure ops l e H = some e' ∧ K e'
  | [], e, H, K, h => ⟨0, e, rfl, h⟩
  | o :: l, e, H, K, h => by
    simp only [Qp, guardP] at h
    split at h
    · rename_i hw
      obtain ⟨n, x, ho, hr⟩ := quietV_of_opQ h
      obtain ⟨m, e', hm, hk⟩ := runQuiet_of_Qp l _ _ _ hr
      refine ⟨max n m, e', ?_, hk⟩
      simp only [runQuiet, hw, quietV_mono (acall_mono S n (max n m) (by omega)) ho]
      exact runQuiet_mono (acall_mono S m (max n m) (by omega)) _ _ _ _ hm
    · rename_i hw
      obtain ⟨m, e', hm, hk⟩ := runQuiet_of_Qp l _ _ _ h
      exact ⟨m, e', by simp only [runQuiet, hw]; exact hm, hk⟩
    · exact h.elim

variable {lim : Nat} {dr : List (Nat × Draw)} {s : St} {Q : Ex → St → Prop}

theorem W_mono {c : Code} {Q' : Ex → St → Prop} (h : W S lim dr c s Q) (hq : ∀ e s, Q e s → Q' e s) : W S lim dr c s Q' :=
  let ⟨n, e, s', h1, h2⟩ := h
  ⟨n, e, s', h1, hq _ _ h2⟩

theorem W_skip (h : Q .normal s) : W S lim dr .skip s Q := ⟨1, .normal, s, rfl, h⟩
theorem W_ret (h : Q .ret s) : W S lim dr .ret s Q := ⟨1, .ret, s, rfl, h⟩
theorem W_exit {id : Nat} (h : Q (.exit id) s) : W S lim dr (.exit id) s Q := ⟨1, .exit id, s, rfl, h⟩

def thenQ (N : St → Prop) (Q : Ex → St → Prop) : Ex → St → Prop
  | .normal, s => N s
  | e, s => Q e s

theorem W_seq {a b : Code} (h : W S lim dr a s (thenQ (fun s' => W S lim dr b s' Q) Q)) : W S lim dr (.seq a b) s Q := by
  obtain ⟨n, e, s', h1, h2⟩ := h
  cases e with
  | normal =>
    obtain ⟨m, e', s'', h3, h4⟩ := h2
    refine ⟨max n m + 1, e', s'', ?_, h4⟩
    simp only [exec]
    rw [exec_mono (acall_mono S n (max n m + 1) (by omega)) n (max n m) (by omega) _ _ _ h1]
    exact exec_mono (acall_mono S m (max n m + 1) (by omega)) m (max n m) (by omega) _ _ _ h3
  | exit id =>
    refine ⟨n + 1, _, s', ?_, h2⟩
    simp only [exec]
    rw [exec_mono (acall_mono S n (n + 1) (by omega)) n n (by omega) _ _ _ h1]
  | ret =>
    refine ⟨n + 1, _, s', ?_, h2⟩
    simp only [exec]
    rw [exec_mono (acall_mono S n (n + 1) (by omega)) n n (by omega) _ _ _ h1]

theorem W_cond {c : Operand} {x y : Code} {t : Bool} (hc : evO s.loc c = .v (.bool t)) (h1 : t = true → W S lim dr x s Q) (h2 : t = false → W S lim dr y s Q) : W S lim dr (.cond c x y) s Q := by
  cases t with
  | true =>
    obtain ⟨n, e, s', h3, h4⟩ := h1 rfl
    refine ⟨n + 1, e, s', ?_, h4⟩
    simp only [exec, hc, if_true]
    exact exec_mono (acall_mono S n (n + 1) (by omega)) n n (by omega) _ _ _ h3
  | false =>
    obtain ⟨n, e, s', h3, h4⟩ := h2 rfl
    refine ⟨n + 1, e, s', ?_, h4⟩
    simp only [exec, hc, Bool.false_eq_true, if_false]
    exact exec_mono (acall_mono S n (n + 1) (by omega)) n n (by omega) _ _ _ h3

def blockQ (id : Nat) (Q : Ex → St → Prop) : Ex → St → Prop
  | .exit j, s => if j = id then Q .normal s else Q (.exit j) s
  | e, s => Q e s

theorem W_block {id : Nat} {b : Code} (h : W S lim dr b s (blockQ id Q)) : W S lim dr (.block id b) s Q := by
  obtain ⟨n, e, s', h1, h2⟩ := h
  have h3 := exec_mono (acall_mono S n (n + 1) (by omega)) n n (by omega) _ _ _ h1
  cases e with
  | normal => exact ⟨n + 1, .normal, s', by simp only [exec]; rw [h3], h2⟩
  | ret => exact ⟨n + 1, .ret, s', by simp only [exec]; rw [h3], h2⟩
  | exit j =>
    by_cases hj : j = id
    · simp only [blockQ, hj, if_true] at h2
      exact ⟨n + 1, .normal, s', by simp only [exec]; rw [h3]; simp [hj], h2⟩
    · simp only [blockQ, hj, if_false] at h2
      exact ⟨n + 1, .exit j, s', by simp only [exec]; rw [h3]; simp [hj], h2⟩

theorem W_loop {b : Code} (h : W S lim dr b s (thenQ (fun s' => W S lim dr (.loop b) s' Q) Q)) : W S lim dr (.loop b) s Q := by
  obtain ⟨n, e, s', h1, h2⟩ := h
  cases e with
  | normal =>
    obtain ⟨m, e', s'', h3, h4⟩ := h2
    refine ⟨max n m + 1, e', s'', ?_, h4⟩
    simp only [exec]
    rw [exec_mono (acall_mono S n (max n m + 1) (by omega)) n (max n m) (by omega) _ _ _ h1]
    exact exec_mono (acall_mono S m (max n m + 1) (by omega)) m (max n m) (by omega) _ _ _ h3
  | exit id =>
    refine ⟨n + 1, _, s', ?_, h2⟩
    simp only [exec]
    rw [exec_mono (acall_mono S n (n + 1) (by omega)) n n (by omega) _ _ _ h1]
  | ret =>
    refine ⟨n + 1, _, s', ?_, h2⟩
    simp only [exec]
    rw [exec_mono (acall_mono S n (n + 1) (by omega)) n n (by omega) _ _ _ h1]

/-- A loop by what holds at every round's head, and a number that every round lowers. -/
theorem W_loop_inv {b : Code} (I : St → Prop) (μ : St → Nat) (h0 : I s) (round : ∀ s, I s → W S lim dr b s (thenQ (fun s' => I s' ∧ μ s' < μ s) Q)) : W S lim dr (.loop b) s Q := by
  have key : ∀ n s, μ s = n → I s → W S lim dr (.loop b) s Q := by
    intro n
    induction n using Nat.strongRecOn with
    | _ n ih =>
      intro s hn hI
      refine W_loop (W_mono (round s hI) fun e s' h => ?_)
      cases e with
      | normal => exact ih (μ s') (hn ▸ h.2) s' rfl h.1
      | exit id => exact h
      | ret => exact h
  exact key _ s rfl h0

theorem W_region {id : Nat} {ops : Array Oper} (h : Rp S lim ops ops.toList s.loc s.H fun e H => Q .normal ⟨trim e s.loc, H⟩) : W S lim dr (.region id ops false) s Q := by
  obtain ⟨n, e, H, h1, h2⟩ := runOps_of_Rp _ _ _ _ h
  refine ⟨n + 1, .normal, _, ?_, h2⟩
  simp only [exec, region, Bool.false_eq_true, if_false]
  rw [runOps_mono (acall_mono S n (n + 1) (by omega)) _ _ _ _ h1]
  rfl

theorem W_region_draw {id n : Nat} {ops : Array Oper} (hd : dr.lookup id = some (.quiet n))
    (h : Qp S ops (ops.toList.take n) s.loc s.H fun e => Rp S lim ops (ops.toList.drop n) e s.H fun e H => Q .normal ⟨trim e s.loc, H⟩) : W S lim dr (.region id ops true) s Q := by
  obtain ⟨k, e, h1, h2⟩ := runQuiet_of_Qp _ _ _ _ h
  obtain ⟨m, e', H, h3, h4⟩ := runOps_of_Rp _ _ _ _ h2
  refine ⟨max k m + 1, .normal, _, ?_, h4⟩
  simp only [exec, region, if_true, hd]
  rw [runQuiet_mono (acall_mono S k (max k m + 1) (by omega)) _ _ _ _ h1]
  simp only
  rw [runOps_mono (acall_mono S m (max k m + 1) (by omega)) _ _ _ _ h3]
  rfl

/-! ### Calls -/
theorem ACall_mono {f : FuncId} {args : List AV} {H : Heap} {K K' : AV → Heap → Prop} (h : ACall S lim f args H K) (hk : ∀ r H', K r H' → K' r H') : ACall S lim f args H K' :=
  let ⟨n, r, H', h1, h2⟩ := h
  ⟨n, r, H', h1, hk _ _ h2⟩

def retP (S : Sig) (own : Bool) (fa : FnA) (H0 : Heap) (K : AV → Heap → Prop) : Ex → St → Prop
  | .exit _, _ => False
  | _, s => optP (resAll S.P s.loc s.H fa.fn.results.toList) fun l => if own then K (oneOr l) s.H else K (frz s.H H0.length 8 (oneOr l)) H0

theorem ACall_fn {f : FuncId} {fa : FnA} {c : Code} {args : List AV} {H : Heap} {K : AV → Heap → Prop} (hp : S.prim f = none) (hf : S.fns f = some fa) (hb : fa.fn.body = some c) (hz : S.fz f = false)
    (h : W S (if S.own f then lim else H.length) fa.draws c ⟨env0 fa.keep args, H⟩ (retP S (S.own f) fa H K)) : ACall S lim f args H K := by
  obtain ⟨n, e, s', h1, h2⟩ := h
  have fin : ∀ e', e' ≠ Ex.exit 0 → True := fun _ _ => trivial
  have go : ∀ (hh : optP (resAll S.P s'.loc s'.H fa.fn.results.toList) fun l => if S.own f then K (oneOr l) s'.H else K (frz s'.H H.length 8 (oneOr l)) H) (hne : ∀ id, e ≠ .exit id),
      ∃ n r H', acall S n lim f args H = some (r, H') ∧ K r H' := by
    intro hh hne
    unfold optP at hh
    split at hh
    · rename_i l hl
      by_cases ho : S.own f = true
      · simp only [ho, if_true] at hh
        refine ⟨n + 1, _, _, ?_, hh⟩
        simp only [acall, hp, hf, hb, hz, Bool.false_eq_true, if_false]
        rw [h1]
        cases e <;> first | exact absurd rfl (hne _) | simp [finish, hl, ho]
      · simp only [ho] at hh
        refine ⟨n + 1, _, _, ?_, hh⟩
        simp only [acall, hp, hf, hb, hz, Bool.false_eq_true, if_false]
        rw [h1]
        cases e <;> first | exact absurd rfl (hne _) | simp [finish, hl, ho]
    · exact hh.elim
  cases e with
  | normal => exact go h2 (by simp)
  | ret => exact go h2 (by simp)
  | exit id => exact h2.elim

def bodyOf (fa : FnA) : Code := fa.fn.body.getD .skip
theorem ACall_at {f : FuncId} {fa : FnA} {args : List AV} {H : Heap} {K : AV → Heap → Prop} (hp : S.prim f = none) (hf : S.fns f = some fa) (hb : fa.fn.body.isSome = true) {own : Bool} (ho : S.own f = own) (hz : S.fz f = false)
    (h : W S (if own then lim else H.length) fa.draws (bodyOf fa) ⟨env0 fa.keep args, H⟩ (retP S own fa H K)) : ACall S lim f args H K := by
  subst ho
  exact ACall_fn hp hf (c := bodyOf fa) (by unfold bodyOf; cases hh : fa.fn.body with | none => rw [hh] at hb; cases hb | some c => rfl) hz h
/-- A function of plain answers: what the caller's memory holds is taken as data. -/
theorem ACall_fz {f : FuncId} {fa : FnA} {args : List AV} {H : Heap} {K : AV → Heap → Prop} (hp : S.prim f = none) (hf : S.fns f = some fa) (hb : fa.fn.body.isSome = true) (hz : S.fz f = true) {args' : List AV} (ha : args.map (frz H 0 8) = args')
    (h : W S 0 fa.draws (bodyOf fa) ⟨env0 fa.keep args', []⟩ (retP S false fa [] fun r _ => exacts r = true ∧ K r H)) : ACall S lim f args H K := by
  subst ha
  have hb' : fa.fn.body = some (bodyOf fa) := by unfold bodyOf; cases hh : fa.fn.body with | none => rw [hh] at hb; cases hb | some c => rfl
  obtain ⟨n, e, s', h1, h2⟩ := h
  have go : ∀ (hh : optP (resAll S.P s'.loc s'.H fa.fn.results.toList) fun l => exacts (frz s'.H 0 8 (oneOr l)) = true ∧ K (frz s'.H 0 8 (oneOr l)) H) (hne : ∀ id, e ≠ .exit id),
      ∃ n r H', acall S n lim f args H = some (r, H') ∧ K r H' := by
    intro hh hne
    unfold optP at hh
    split at hh
    · rename_i l hl
      refine ⟨n + 1, _, H, ?_, hh.2⟩
      simp only [acall, hp, hf, hb', hz, if_true]
      rw [h1]
      cases e <;> first | exact absurd rfl (hne _) | simp [finish, hl, hh.1]
    · exact hh.elim
  cases e with
  | normal => exact go (by simpa [retP] using h2) (by simp)
  | ret => exact go (by simpa [retP] using h2) (by simp)
  | exit id => exact h2.elim

theorem ACall_prim {f : FuncId} {p : List AV → Heap → Option AV} {args : List AV} {H : Heap} {K : AV → Heap → Prop} {r : AV} (hp : S.prim f = some p) (hr : p args H = some r) (hk : K r H) : ACall S lim f args H K :=
  ⟨1, r, H, by simp [acall, hp, hr], hk⟩

theorem ACall_eff {f : FuncId} {p : Nat → List AV → Heap → Option (AV × Heap)} {args : List AV} {H H' : Heap} {K : AV → Heap → Prop} {r : AV} (hp : S.prim f = none) (hf : S.fns f = none) (he : S.eff f = some p) (hr : p lim args H = some (r, H')) (hk : K r H') : ACall S lim f args H K :=
  ⟨1, r, H', by simp [acall, hp, hf, he, hr], hk⟩

/-- A closed call, by evaluation. -/
theorem ACall_eval {f : FuncId} {args : List AV} {H : Heap} {K : AV → Heap → Prop} (n : Nat) {r : AV} {H' : Heap} (h : acall S n lim f args H = some (r, H')) (hk : K r H') : ACall S lim f args H K := ⟨n, r, H', h, hk⟩

/-! ### Code by its place: 0 the left part (a body, the way 'yes'), 1 the right part (the way 'no') -/
def Cl : Code → Code
  | .seq a _ => a
  | .cond _ a _ => a
  | .block _ b => b
  | .loop b => b
  | _ => .skip
def Cr : Code → Code
  | .seq _ b => b
  | .cond _ _ b => b
  | _ => .skip
def at' (c : Code) : List Nat → Code
  | [] => c
  | 0 :: p => Cl (at' c p)
  | _ :: p => Cr (at' c p)

theorem at_seq {c : Code} {p : List Nat} (h : at' c p = .seq (at' c (0 :: p)) (at' c (1 :: p))) (hw : W S lim dr (at' c (0 :: p)) s (thenQ (fun s' => W S lim dr (at' c (1 :: p)) s' Q) Q)) : W S lim dr (at' c p) s Q := by
  rw [h]; exact W_seq hw
theorem at_cond {c : Code} {p : List Nat} {o : Operand} {t : Bool} (h : at' c p = .cond o (at' c (0 :: p)) (at' c (1 :: p))) (hc : evO s.loc o = .v (.bool t)) (h1 : t = true → W S lim dr (at' c (0 :: p)) s Q) (h2 : t = false → W S lim dr (at' c (1 :: p)) s Q) : W S lim dr (at' c p) s Q := by
  rw [h]; exact W_cond hc h1 h2
theorem at_block {c : Code} {p : List Nat} {id : Nat} (h : at' c p = .block id (at' c (0 :: p))) (hw : W S lim dr (at' c (0 :: p)) s (blockQ id Q)) : W S lim dr (at' c p) s Q := by
  rw [h]; exact W_block hw
theorem at_loop {c : Code} {p : List Nat} (h : at' c p = .loop (at' c (0 :: p))) (I : St → Prop) (μ : St → Nat) (h0 : I s) (round : ∀ s, I s → W S lim dr (at' c (0 :: p)) s (thenQ (fun s' => I s' ∧ μ s' < μ s) Q)) : W S lim dr (at' c p) s Q := by
  rw [h]; exact W_loop_inv I μ h0 round
theorem at_region {c : Code} {p : List Nat} {id : Nat} {ops : Array Oper} (h : at' c p = .region id ops false) (hw : Rp S lim ops ops.toList s.loc s.H fun e H => Q .normal ⟨trim e s.loc, H⟩) : W S lim dr (at' c p) s Q := by
  rw [h]; exact W_region hw
theorem at_draw {c : Code} {p : List Nat} {id n : Nat} {ops : Array Oper} (h : at' c p = .region id ops true) (hd : dr.lookup id = some (.quiet n))
    (hw : Qp S ops (ops.toList.take n) s.loc s.H fun e => Rp S lim ops (ops.toList.drop n) e s.H fun e H => Q .normal ⟨trim e s.loc, H⟩) : W S lim dr (at' c p) s Q := by
  rw [h]; exact W_region_draw hd hw
theorem at_skip {c : Code} {p : List Nat} (h : at' c p = .skip) (hw : Q .normal s) : W S lim dr (at' c p) s Q := by
  rw [h]; exact W_skip hw
theorem at_ret {c : Code} {p : List Nat} (h : at' c p = .ret) (hw : Q .ret s) : W S lim dr (at' c p) s Q := by
  rw [h]; exact W_ret hw
theorem at_exit {c : Code} {p : List Nat} {id : Nat} (h : at' c p = .exit id) (hw : Q (.exit id) s) : W S lim dr (at' c p) s Q := by
  rw [h]; exact W_exit hw
theorem ACall_pure {f : FuncId} {fa : FnA} {args : List AV} {H : Heap} {K : AV → Heap → Prop} (hp : S.prim f = none) (hf : S.fns f = some fa) (hb : fa.fn.body.isSome = true) (ho : S.own f = false)
    (h : W S H.length fa.draws (at' (bodyOf fa) []) ⟨env0 fa.keep args, H⟩ (retP S false fa H K)) (hz : S.fz f = false := by rfl) : ACall S lim f args H K := ACall_at hp hf hb ho hz h
theorem ACall_data {f : FuncId} {fa : FnA} {args : List AV} {H : Heap} {K : AV → Heap → Prop} (hp : S.prim f = none) (hf : S.fns f = some fa) (hb : fa.fn.body.isSome = true) (hz : S.fz f = true) {args' : List AV} (ha : args.map (frz H 0 8) = args')
    (h : W S 0 fa.draws (at' (bodyOf fa) []) ⟨env0 fa.keep args', []⟩ (retP S false fa [] fun r _ => exacts r = true ∧ K r H)) : ACall S lim f args H K := ACall_fz hp hf hb hz ha h
theorem ACall_own {f : FuncId} {fa : FnA} {args : List AV} {H : Heap} {K : AV → Heap → Prop} (hp : S.prim f = none) (hf : S.fns f = some fa) (hb : fa.fn.body.isSome = true) (ho : S.own f = true)
    (h : W S lim fa.draws (at' (bodyOf fa) []) ⟨env0 fa.keep args, H⟩ (retP S true fa H K)) (hz : S.fz f = false := by rfl) : ACall S lim f args H K := ACall_at hp hf hb ho hz h

/-! ### A region whose order is drawn, by a checked order -/
/-- Those that are taken first. -/
def Lp (S : Sig) (ops : Array Oper) (H : Heap) (K : Env → List Nat → Prop) : List Oper → Env → List Nat → Prop
  | [], e, R => K e R
  | o :: l, e, R => guardP ops e o (optP (takeV S.P o.op e H) fun x => Lp S ops H K l (e.put o.dst x) (rdV o.op e ++ R)) (Lp S ops H K l (e.put o.dst (.v undef)) R)
theorem runLead_of_Lp {S : Sig} {ops : Array Oper} {H : Heap} {K : Env → List Nat → Prop} : ∀ (l : List Oper) (e : Env) (R : List Nat), Lp S ops H K l e R → ∃ e' R', runLead S.P ops l e H R = some (e', R') ∧ K e' R'
  | [], e, R, h => ⟨e, R, rfl, h⟩
  | o :: l, e, R, h => by
    simp only [Lp, guardP] at h
    split at h
    · rename_i hw
      unfold optP at h
      split at h
      · rename_i x hx
        obtain ⟨e', R', h1, h2⟩ := runLead_of_Lp l _ _ h
        exact ⟨e', R', by simp only [runLead, hw, hx]; exact h1, h2⟩
      · exact h.elim
    · rename_i hw
      obtain ⟨e', R', h1, h2⟩ := runLead_of_Lp l _ _ h
      exact ⟨e', R', by simp only [runLead, hw]; exact h1, h2⟩
    · exact h.elim
/-- Those in the middle, one by one. -/
def Mp (S : Sig) (lim : Nat) (ops : Array Oper) (R : List Nat) (K : Env → Heap → Prop) : List Oper → Env → Heap → Prop
  | [], e, H => K e H
  | o :: l, e, H => wrC R o e = true ∧ Rp S lim ops [o] e H fun e' H' => (isCallO o = true → stay R H H') ∧ Mp S lim ops R K l e' H'
theorem runMid_of_Mp {S : Sig} {lim : Nat} {ops : Array Oper} {R : List Nat} {K : Env → Heap → Prop} : ∀ (l : List Oper) (e : Env) (H : Heap), Mp S lim ops R K l e H → ∃ n e' H', runMid S.P (acall S n) lim ops R l e H = some (e', H') ∧ K e' H'
  | [], e, H, h => ⟨0, e, H, rfl, h⟩
  | o :: l, e, H, h => by
    obtain ⟨hc, h⟩ := h
    simp only [Rp, guardP] at h
    split at h
    · rename_i hw
      obtain ⟨n, x, H', ho, hr⟩ := opV_of_opP h
      obtain ⟨hst, hr⟩ := hr
      obtain ⟨m, e', H'', hm, hk⟩ := runMid_of_Mp l _ _ hr
      refine ⟨max n m, e', H'', ?_, hk⟩
      simp only [runMid, hc, if_true, hw, opV_mono (acall_mono S n (max n m) (by omega)) ho]
      rw [if_neg (by
        intro hh
        simp only [Bool.and_eq_true, Bool.not_eq_true', decide_eq_false_iff_not] at hh
        exact hh.2 (hst hh.1))]
      exact runMid_mono (acall_mono S m (max n m) (by omega)) _ _ _ _ hm
    · rename_i hw
      obtain ⟨m, e', H'', hm, hk⟩ := runMid_of_Mp l _ _ h.2
      exact ⟨m, e', H'', by simp only [runMid, hc, if_true, hw]; exact hm, hk⟩
    · exact h.elim
theorem at_led {S : Sig} {lim : Nat} {dr : List (Nat × Draw)} {s : St} {Q : Ex → St → Prop} {c : Code} {p : List Nat} {id : Nat} {ops : Array Oper} {lead m fin live keep : List Nat} (h : at' c p = .region id ops true) (hd : dr.lookup id = some (.led lead [m] fin live keep))
    (hw : Lp S ops s.H (fun e R => Mp S lim ops R (fun e1 H1 => Rp S lim ops (pick ops fin) e1 H1 fun e' H' => Q .normal ⟨trim e' s.loc, H'⟩) (pick ops m) e s.H) (pick ops lead) s.loc []) : W S lim dr (at' c p) s Q := by
  rw [h]
  obtain ⟨e, R, h1, hw⟩ := runLead_of_Lp _ _ _ hw
  obtain ⟨n1, e1, H1, h2, hw⟩ := runMid_of_Mp _ _ _ hw
  obtain ⟨n2, e2, H2, h3, hw⟩ := runOps_of_Rp _ _ _ _ hw
  refine ⟨max n1 n2 + 1, .normal, ⟨trim e2 s.loc, H2⟩, ?_, hw⟩
  simp only [exec, region, if_true, hd, led, h1, runMid_mono (acall_mono S n1 (max n1 n2 + 1) (by omega)) _ _ _ _ h2, runOps_mono (acall_mono S n2 (max n1 n2 + 1) (by omega)) _ _ _ _ h3, Option.map_some]
/-- The other orders, symbolically. -/
def Alts (S : Sig) (ops : Array Oper) (live keep : List Nat) (n0 : Nat) (e : Env) (H : Heap) (e0 : Env) (H0 : Heap) : List (List Nat) → Prop
  | [] => True
  | m :: ms => Rp S n0 ops (pick ops m) e H (fun e1 H1 => SameUp n0 live keep e0 H0 e1 H1) ∧ Alts S ops live keep n0 e H e0 H0 ms
theorem altsOK_of {S : Sig} {ops : Array Oper} {live keep : List Nat} {n0 : Nat} {e : Env} {H : Heap} {e0 : Env} {H0 : Heap} : ∀ (ms : List (List Nat)), Alts S ops live keep n0 e H e0 H0 ms → ∃ n, altsOK S.P (acall S n) ops live keep n0 e H e0 H0 ms = true
  | [], _ => ⟨0, rfl⟩
  | m :: ms, h => by
    obtain ⟨n1, e1, H1, h1, h2⟩ := runOps_of_Rp _ _ _ _ h.1
    obtain ⟨n2, h3⟩ := altsOK_of ms h.2
    refine ⟨max n1 n2, ?_⟩
    simp only [altsOK, runOps_mono (acall_mono S n1 (max n1 n2) (by omega)) _ _ _ _ h1, altsOK_mono (acall_mono S n2 (max n1 n2) (by omega)) _ h3, Bool.and_true, Bool.or_eq_true, decide_eq_true_eq]
    exact .inr h2
theorem at_leds {S : Sig} {lim : Nat} {dr : List (Nat × Draw)} {s : St} {Q : Ex → St → Prop} {c : Code} {p : List Nat} {id : Nat} {ops : Array Oper} {lead m m2 fin live keep : List Nat} {ms : List (List Nat)} (h : at' c p = .region id ops true) (hd : dr.lookup id = some (.led lead (m :: m2 :: ms) fin live keep))
    (hw : Lp S ops s.H (fun e _ => ∃ e1 H1, Rp S s.H.length ops (pick ops m) e s.H (fun e' H' => e' = e1 ∧ H' = H1) ∧ Alts S ops live keep s.H.length e s.H e1 H1 (m2 :: ms) ∧
      Rp S lim ops (pick ops fin) (cutE ops live s.loc e1) (keepOnly keep s.H.length H1) fun e' H' => Q .normal ⟨trim e' s.loc, H'⟩) (pick ops lead) s.loc []) : W S lim dr (at' c p) s Q := by
  rw [h]
  obtain ⟨e, R, h1, e1, H1, hw, ha, hf⟩ := runLead_of_Lp _ _ _ hw
  obtain ⟨n1, e1', H1', h2, rfl, rfl⟩ := runOps_of_Rp _ _ _ _ hw
  obtain ⟨n2, h3⟩ := altsOK_of _ ha
  obtain ⟨n3, e3, H3, h4, hw⟩ := runOps_of_Rp _ _ _ _ hf
  refine ⟨max n1 (max n2 n3) + 1, .normal, ⟨trim e3 s.loc, H3⟩, ?_, hw⟩
  simp only [exec, region, if_true, hd, led, h1, runOps_mono (acall_mono S n1 (max n1 (max n2 n3) + 1) (by omega)) _ _ _ _ h2, altsOK_mono (acall_mono S n2 (max n1 (max n2 n3) + 1) (by omega)) _ h3, runOps_mono (acall_mono S n3 (max n1 (max n2 n3) + 1) (by omega)) _ _ _ _ h4, Option.map_some]

/-! ### Forms for simp -/
theorem guardP_free (ops : Array Oper) (e : Env) (d : Option Tmp) (op : Op) (ty : TypeId) (pos : String) (af : Array Edge) (Y N : Prop) : guardP ops e ⟨d, op, ty, pos, af, none⟩ Y N = Y := rfl
def guardB (x : AV) (want : Bool) (Y N : Prop) : Prop :=
  match x with
  | .v (.bool b) => (b = want → Y) ∧ (b = !want → N)
  | .v _ => N
  | _ => False
theorem guardP_on (ops : Array Oper) (e : Env) (d : Option Tmp) (op : Op) (ty : TypeId) (pos : String) (af : Array Edge) (j : Nat) (want : Bool) (Y N : Prop) {t : Nat} (h : (ops[j]?).bind (·.dst) = some t) :
    guardP ops e ⟨d, op, ty, pos, af, some (j, want)⟩ Y N ↔ guardB (e.get t) want Y N := by
  unfold guardP wantedA guardB
  simp only [h]
  cases hx : e.get t with
  | v x =>
    cases x with
    | bool b => cases b <;> cases want <;> simp
    | _ => simp
  | _ => simp
theorem optP_some {α : Type} (x : α) (K : α → Prop) : optP (some x) K = K x := rfl
theorem optP_none {α : Type} (K : α → Prop) : optP none K = False := rfl
theorem optP_ite {α : Type} (c : Prop) [Decidable c] (x : Option α) (K : α → Prop) : optP (if c then x else none) K ↔ c ∧ optP x K := by
  by_cases h : c <;> simp [h, optP]
theorem optP_ite' {α : Type} (c : Prop) [Decidable c] (x : Option α) (K : α → Prop) : optP (if c then none else x) K ↔ ¬ c ∧ optP x K := by
  by_cases h : c <;> simp [h, optP]

/-! ### What simp looks into, and what not -/
@[congr] theorem optP_congr {α : Type} {x x' : Option α} (K : α → Prop) (h : x = x') : optP x K = optP x' K := by rw [h]
@[congr] theorem Rp_congr (lim : Nat) (ops : Array Oper) (l : List Oper) {e e' : Env} {H H' : Heap} (K : Env → Heap → Prop) (h : e = e') (h' : H = H') : Rp S lim ops l e H K = Rp S lim ops l e' H' K := by rw [h, h']
@[congr] theorem Qp_congr (ops : Array Oper) (l : List Oper) {e e' : Env} (H : Heap) (K : Env → Prop) (h : e = e') : Qp S ops l e H K = Qp S ops l e' H K := by rw [h]
@[congr] theorem opP_congr (lim : Nat) (o : Op) (e : Env) (H : Heap) (K : AV → Heap → Prop) : opP S lim o e H K = opP S lim o e H K := rfl
@[congr] theorem opQ_congr (o : Op) (e : Env) (H : Heap) (K : AV → Prop) : opQ S o e H K = opQ S o e H K := rfl
@[congr] theorem guardP_congr (ops : Array Oper) (e : Env) (o : Oper) (Y N : Prop) : guardP ops e o Y N = guardP ops e o Y N := rfl
@[congr] theorem guardB_congr {x x' : AV} (want : Bool) (Y N : Prop) (h : x = x') : guardB x want Y N = guardB x' want Y N := by rw [h]
@[congr] theorem W_congr (lim : Nat) (dr : List (Nat × Draw)) (c : Code) {s s' : St} (Q : Ex → St → Prop) (h : s = s') : W S lim dr c s Q = W S lim dr c s' Q := by rw [h]
@[congr] theorem ACall_congr (lim : Nat) (f : FuncId) {args args' : List AV} (H : Heap) (K : AV → Heap → Prop) (h : args = args') : ACall S lim f args H K = ACall S lim f args' H K := by rw [h]
@[congr] theorem thenQ_congr (N : St → Prop) (Q : Ex → St → Prop) (x : Ex) (s : St) : thenQ N Q x s = thenQ N Q x s := rfl
@[congr] theorem blockQ_congr (id : Nat) (Q : Ex → St → Prop) (x : Ex) (s : St) : blockQ id Q x s = blockQ id Q x s := rfl

theorem Rp_nil (lim : Nat) (ops : Array Oper) (e : Env) (H : Heap) (K : Env → Heap → Prop) : Rp S lim ops [] e H K = K e H := rfl
theorem Rp_cons (lim : Nat) (ops : Array Oper) (o : Oper) (l : List Oper) (e : Env) (H : Heap) (K : Env → Heap → Prop) :
    Rp S lim ops (o :: l) e H K = guardP ops e o (opP S lim o.op e H fun x H' => Rp S lim ops l (e.put o.dst x) H' K) (Rp S lim ops l (e.put o.dst (.v undef)) H K) := rfl
theorem thenQ_normal (N : St → Prop) (Q : Ex → St → Prop) (s : St) : thenQ N Q .normal s = N s := rfl
theorem thenQ_ret (N : St → Prop) (Q : Ex → St → Prop) (s : St) : thenQ N Q .ret s = Q .ret s := rfl
theorem thenQ_exit (N : St → Prop) (Q : Ex → St → Prop) (id : Nat) (s : St) : thenQ N Q (.exit id) s = Q (.exit id) s := rfl
theorem blockQ_normal (id : Nat) (Q : Ex → St → Prop) (s : St) : blockQ id Q .normal s = Q .normal s := rfl
theorem blockQ_ret (id : Nat) (Q : Ex → St → Prop) (s : St) : blockQ id Q .ret s = Q .ret s := rfl
theorem blockQ_exit (id j : Nat) (Q : Ex → St → Prop) (s : St) : blockQ id Q (.exit j) s = if j = id then Q .normal s else Q (.exit j) s := rfl
end
end Go.Am
