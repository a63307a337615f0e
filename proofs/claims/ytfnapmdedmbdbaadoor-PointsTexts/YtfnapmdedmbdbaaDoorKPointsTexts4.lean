/-
  Texts of PointsTexts, part 5 of 10. The abstract machine, symbolically: what is enough for a piece of code, an operation, a call to come to a given end.
-/
import Derived.Test.YtfnapmdedmbdbaaDoorKPointsTexts0
import Derived.Attr
import Derived.Test.YtfnapmdedmbdbaaDoorKPointsTexts3
import Derived.Shelf.Strings.Builder1
import Derived.Shelf.Strings.Builder2
import Derived.Shelf.Small.Bits
import Derived.Shelf.Small.Wraps
import Derived.Shelf.Strings.BuilderF
import Derived.Shelf.Strings.BuilderK
import Derived.Shelf.Strings.Builder2Cap
import Derived.Shelf.Strconv.Itoa0
import Derived.Shelf.Strconv.Itoa1
import Derived.Shelf.LaysM
import Derived.Shelf.Strconv.Itoa2
import Derived.Shelf.Strconv.Itoa3
import Derived.Shelf.Strconv.Itoa4
import Derived.Shelf.Strings.Prefix
import Derived.Shelf.Bits.Mul64
import Derived.Shelf.Strings.Repeat
import Derived.Shelf.Strings.BuilderCap
import Derived.Test.YtfnapmdedmbdbaaDoorProg
section
namespace Go.Am
open Go

/-! ### More fuel, the same answer -/
def CallLe (c c' : CallF) : Prop := ∀ lim f args H r, c lim f args H = some r → c' lim f args H = some r

theorem opV_mono {P : Program} {c c' : CallF} (hc : CallLe c c') {lim : Nat} {o : Op} {e : Env} {H : Heap} {r : AV × Heap} (h : opV P c lim o e H = some r) : opV P c' lim o e H = some r := by
  unfold opV at *
  split
  · rename_i t a hl; simp only [hl] at h; exact h
  · rename_i hl
    simp only [hl] at h
    split
    · rename_i f args hcv; simp only [hcv] at h; exact hc _ _ _ _ _ h
    · rename_i hcv; simp only [hcv] at h; exact h

theorem runOps_mono {P : Program} {c c' : CallF} (hc : CallLe c c') {lim : Nat} {ops : Array Oper} : ∀ (l : List Oper) (e : Env) (H : Heap) (r : Env × Heap),
    runOps P c lim ops l e H = some r → runOps P c' lim ops l e H = some r
  | [], _, _, _, h => h
  | o :: l, e, H, r, h => by
    simp only [runOps] at h ⊢
    split
    · rename_i hw
      simp only [hw] at h
      split at h
      · rename_i x H' ho
        rw [opV_mono hc ho]
        exact runOps_mono hc l _ _ _ h
      · cases h
    · rename_i hw
      simp only [hw] at h
      exact runOps_mono hc l _ _ _ h
    · rename_i hw
      simp only [hw] at h
      cases h

theorem quietV_mono {P : Program} {c c' : CallF} (hc : CallLe c c') {pu : FuncId → Bool} {o : Op} {e : Env} {H : Heap} {r : AV} (h : quietV P c pu o e H = some r) : quietV P c' pu o e H = some r := by
  unfold quietV at *
  split
  · rename_i t a hl; simp only [hl] at h; exact h
  · rename_i hl
    simp only [hl] at h
    split
    · rename_i f args hcv
      simp only [hcv] at h
      split
      · rename_i hp
        simp only [hp, if_true] at h
        split at h
        · rename_i x H' hx
          rw [hc _ _ _ _ _ hx]
          exact h
        · cases h
      · rename_i hp; simp [hp] at h
    · rename_i hcv; simp only [hcv] at h; exact h

theorem runQuiet_mono {P : Program} {c c' : CallF} (hc : CallLe c c') {pu : FuncId → Bool} {ops : Array Oper} : ∀ (l : List Oper) (e : Env) (H : Heap) (r : Env),
    runQuiet P c pu ops l e H = some r → runQuiet P c' pu ops l e H = some r
  | [], _, _, _, h => h
  | o :: l, e, H, r, h => by
    simp only [runQuiet] at h ⊢
    split
    · rename_i hw
      simp only [hw] at h
      split at h
      · rename_i x ho
        rw [quietV_mono hc ho]
        exact runQuiet_mono hc l _ _ _ h
      · cases h
    · rename_i hw
      simp only [hw] at h
      exact runQuiet_mono hc l _ _ _ h
    · rename_i hw
      simp only [hw] at h
      cases h

theorem altsOK_mono {P : Program} {c c' : CallF} (hc : CallLe c c') {ops : Array Oper} {live keep : List Nat} {n0 : Nat} {e e0 : Env} {H H0 : Heap} : ∀ (ms : List (List Nat)), altsOK P c ops live keep n0 e H e0 H0 ms = true → altsOK P c' ops live keep n0 e H e0 H0 ms = true
  | [], _ => rfl
  | m :: ms, h => by
    simp only [altsOK, Bool.and_eq_true] at h ⊢
    refine ⟨?_, altsOK_mono hc ms h.2⟩
    have h1 := h.1
    split at h1
    · rename_i r hr; rw [runOps_mono hc _ _ _ _ hr]; exact h1
    · cases h1
theorem runMid_mono {P : Program} {c c' : CallF} (hc : CallLe c c') {lim : Nat} {ops : Array Oper} {R : List Nat} : ∀ (l : List Oper) (e : Env) (H : Heap) (r : Env × Heap),
    runMid P c lim ops R l e H = some r → runMid P c' lim ops R l e H = some r
  | [], _, _, _, h => h
  | o :: l, e, H, r, h => by
    simp only [runMid] at h ⊢
    split at h
    rotate_left
    · cases h
    rename_i hwc
    rw [if_pos hwc]
    split
    · rename_i hw
      simp only [hw] at h
      split at h
      · rename_i x H' ho
        rw [opV_mono hc ho]
        exact runMid_mono hc l _ _ _ h
      · cases h
    · rename_i hw
      simp only [hw] at h
      exact runMid_mono hc l _ _ _ h
    · rename_i hw
      simp only [hw] at h
      cases h
theorem led_mono {P : Program} {c c' : CallF} (hc : CallLe c c') {lim : Nat} {ops : Array Oper} {lead : List Nat} {mids : List (List Nat)} {fin live keep : List Nat} {s r : St} (h : led P c lim ops lead mids fin live keep s = some r) : led P c' lim ops lead mids fin live keep s = some r := by
  unfold led at *
  split at h
  · split at h
    rotate_left
    · cases h
    rename_i e1 H1 hrun
    simp only [runMid_mono hc _ _ _ _ hrun]
    simp only [Option.map_eq_some_iff] at h ⊢
    obtain ⟨x, hx, hr⟩ := h
    exact ⟨x, runOps_mono hc _ _ _ _ hx, hr⟩
  · split at h
    rotate_left
    · cases h
    rename_i e1 H1 hrun
    simp only [runOps_mono hc _ _ _ _ hrun]
    split at h
    rotate_left
    · cases h
    rename_i halt
    rw [if_pos (altsOK_mono hc _ halt)]
    simp only [Option.map_eq_some_iff] at h ⊢
    obtain ⟨x, hx, hr⟩ := h
    exact ⟨x, runOps_mono hc _ _ _ _ hx, hr⟩
  · cases h

theorem led2_mono {P : Program} {c c' : CallF} (hc : CallLe c c') {lim : Nat} {ops : Array Oper} {lead mid lead2 : List Nat} {mids : List (List Nat)} {fin live keep : List Nat} {s r : St} (h : led2 P c lim ops lead mid lead2 mids fin live keep s = some r) : led2 P c' lim ops lead mid lead2 mids fin live keep s = some r := by
  unfold led2 at *
  split at h
  rotate_left
  · cases h
  split at h
  rotate_left
  · cases h
  rename_i e1 H1 hrun
  simp only [runOps_mono hc _ _ _ _ hrun]
  split at h
  rotate_left
  · cases h
  rename_i hH
  rw [if_pos hH]
  split at h
  rotate_left
  · cases h
  split at h
  rotate_left
  · cases h
  rename_i e3 H3 hrun3
  simp only [runOps_mono hc _ _ _ _ hrun3]
  split at h
  rotate_left
  · cases h
  rename_i halt
  rw [if_pos (altsOK_mono hc _ halt)]
  simp only [Option.map_eq_some_iff] at h ⊢
  obtain ⟨x, hx, hr⟩ := h
  exact ⟨x, runOps_mono hc _ _ _ _ hx, hr⟩

theorem led3_mono {P : Program} {c c' : CallF} (hc : CallLe c c') {lim : Nat} {ops : Array Oper} {lead mid lead2 m fin : List Nat} {s r : St} (h : led3 P c lim ops lead mid lead2 m fin s = some r) : led3 P c' lim ops lead mid lead2 m fin s = some r := by
  unfold led3 at *
  split at h
  rotate_left
  · cases h
  split at h
  rotate_left
  · cases h
  rename_i e1 H1 hrun
  simp only [runMid_mono hc _ _ _ _ hrun]
  split at h
  rotate_left
  · cases h
  split at h
  rotate_left
  · cases h
  rename_i e3 H3 hrun3
  simp only [runMid_mono hc _ _ _ _ hrun3]
  simp only [Option.map_eq_some_iff] at h ⊢
  obtain ⟨x, hx, hr⟩ := h
  exact ⟨x, runOps_mono hc _ _ _ _ hx, hr⟩
theorem led4_mono {P : Program} {c c' : CallF} (hc : CallLe c c') {lim : Nat} {ops : Array Oper} {lead lead2 m fin : List Nat} {s r : St} (h : led4 P c lim ops lead lead2 m fin s = some r) : led4 P c' lim ops lead lead2 m fin s = some r := by
  unfold led4 at *
  split at h
  rotate_left
  · cases h
  split at h
  rotate_left
  · cases h
  split at h
  rotate_left
  · cases h
  rename_i e3 H3 hrun3
  simp only [runMid_mono hc _ _ _ _ hrun3]
  simp only [Option.map_eq_some_iff] at h ⊢
  obtain ⟨x, hx, hr⟩ := h
  exact ⟨x, runOps_mono hc _ _ _ _ hx, hr⟩
theorem led23_mono {P : Program} {c c' : CallF} (hc : CallLe c c') {lim : Nat} {ops : Array Oper} {lead mid lead2 : List Nat} {mids : List (List Nat)} {fin live keep : List Nat} {s r : St} (h : led23 P c lim ops lead mid lead2 mids fin live keep s = some r) : led23 P c' lim ops lead mid lead2 mids fin live keep s = some r := by
  unfold led23 at *
  split at h
  · split at h
    · rename_i h0
      simp only [if_pos h0]
      exact led4_mono hc h
    · rename_i h0
      simp only [if_neg h0]
      exact led3_mono hc h
  · exact led2_mono hc h

theorem altsL_mono {P : Program} {c c' : CallF} (hc : CallLe c c') {lim : Nat} {ops : Array Oper} {R live keep : List Nat} {n0 : Nat} {e e0 : Env} {H H0 : Heap} : ∀ (ms : List (List Nat)), altsL P c lim ops R live keep n0 e H e0 H0 ms = true → altsL P c' lim ops R live keep n0 e H e0 H0 ms = true
  | [], _ => rfl
  | m :: ms, h => by
    simp only [altsL, Bool.and_eq_true] at h ⊢
    refine ⟨?_, altsL_mono hc ms h.2⟩
    have h1 := h.1
    split at h1
    · rename_i r hr; rw [runMid_mono hc _ _ _ _ hr]; exact h1
    · cases h1
theorem ledL_mono {P : Program} {c c' : CallF} (hc : CallLe c c') {lim : Nat} {ops : Array Oper} {lead : List Nat} {mids : List (List Nat)} {fin live keep : List Nat} {s r : St} (h : ledL P c lim ops lead mids fin live keep s = some r) : ledL P c' lim ops lead mids fin live keep s = some r := by
  unfold ledL at *
  split at h
  · split at h
    rotate_left
    · cases h
    rename_i e1 H1 hrun
    simp only [runMid_mono hc _ _ _ _ hrun]
    split at h
    rotate_left
    · cases h
    rename_i halt
    rw [if_pos (altsL_mono hc _ halt)]
    simp only [Option.map_eq_some_iff] at h ⊢
    obtain ⟨x, hx, hr⟩ := h
    exact ⟨x, runOps_mono hc _ _ _ _ hx, hr⟩
  · cases h
theorem region_mono {P : Program} {c c' : CallF} (hc : CallLe c c') {pu : FuncId → Bool} {lim : Nat} {dr : List (Nat × Draw)} {id : Nat} {ops : Array Oper} {draw : Bool} {s : St} {r : St}
    (h : region P c pu lim dr id ops draw s = some r) : region P c' pu lim dr id ops draw s = some r := by
  unfold region at *
  split
  · rename_i hd
    simp only [hd, if_true] at h
    split
    · rename_i n hn
      simp only [hn] at h
      split at h
      · rename_i e he
        rw [runQuiet_mono hc _ _ _ _ he]
        simp only [Option.map_eq_some_iff] at h ⊢
        obtain ⟨x, hx, hr⟩ := h
        exact ⟨x, runOps_mono hc _ _ _ _ hx, hr⟩
      · cases h
    · rename_i lead mids fin live keep hn; simp only [hn] at h; exact led_mono hc h
    · rename_i lead mid lead2 mids fin live keep hn; simp only [hn] at h; exact led23_mono hc h
    · rename_i lead mids fin live keep hn; simp only [hn] at h; exact ledL_mono hc h
    · rename_i hn; simp only [hn] at h; cases h
  · rename_i hd
    simp only [hd] at h
    simp only [Bool.false_eq_true, if_false, Option.map_eq_some_iff] at h ⊢
    obtain ⟨x, hx, hr⟩ := h
    exact ⟨x, runOps_mono hc _ _ _ _ hx, hr⟩

theorem exec_mono {P : Program} {c c' : CallF} (hc : CallLe c c') {pu : FuncId → Bool} {lim : Nat} {dr : List (Nat × Draw)} : ∀ (n m : Nat), n ≤ m → ∀ (code : Code) (s : St) (r : Ex × St),
    exec P c pu lim dr n code s = some r → exec P c' pu lim dr m code s = some r
  | 0, _, _, _, _, _, h => by cases h
  | n + 1, 0, hle, _, _, _, _ => by omega
  | n + 1, m + 1, hle, code, s, r, h => by
    have ih := exec_mono (P := P) hc (pu := pu) (lim := lim) (dr := dr) n m (by omega)
    cases code <;> simp only [exec] at h ⊢ <;> try exact h
    case region id ops draw =>
      simp only [Option.map_eq_some_iff] at h ⊢
      obtain ⟨x, hx, hr⟩ := h
      exact ⟨x, region_mono hc hx, hr⟩
    case seq a b =>
      split at h
      · rename_i s' ha
        rw [ih _ _ _ ha]
        exact ih _ _ _ h
      · rename_i hr
        cases hx : exec P c pu lim dr n a s with
        | none => rw [hx] at h; cases h
        | some y =>
          rw [ih _ _ _ hx]
          rw [hx] at h hr
          obtain ⟨e, s'⟩ := y
          cases e
          · exact absurd rfl (hr _)
          · exact h
          · exact h
    case cond c x y =>
      split at h
      · rename_i t ht
        split at h
        · rename_i h1; simp only [h1]; exact ih _ _ _ h
        · rename_i h1; simp only [h1]; exact ih _ _ _ h
      · cases h
    case block id b =>
      cases hx : exec P c pu lim dr n b s with
      | none => rw [hx] at h; cases h
      | some y =>
        rw [ih _ _ _ hx]
        rw [hx] at h
        exact h
    case loop b =>
      cases hx : exec P c pu lim dr n b s with
      | none => rw [hx] at h; cases h
      | some y =>
        rw [ih _ _ _ hx]
        rw [hx] at h
        obtain ⟨e, s'⟩ := y
        cases e
        · exact ih _ _ _ h
        · exact h
        · exact h

theorem acall_mono (S : Sig) : ∀ (n m : Nat), n ≤ m → CallLe (acall S n) (acall S m)
  | 0, _, _ => fun _ _ _ _ _ h => by cases h
  | n + 1, 0, h => by omega
  | n + 1, m + 1, hle => by
    intro lim f args H r h
    simp only [acall] at h ⊢
    split
    · rename_i p hp; simp only [hp] at h; exact h
    · rename_i hp
      simp only [hp] at h
      split
      · rename_i fa hf
        simp only [hf] at h
        split
        · rename_i c hb
          simp only [hb] at h
          have ih := acall_mono S n m (by omega)
          by_cases hz : S.fz f = true
          · simp only [hz, if_true] at h ⊢
            cases hx : exec S.P (acall S n) S.pure 0 fa.draws n c ⟨env0 fa.keep (args.map (frz H 0 8)), []⟩ with
            | none => rw [hx] at h; simp [finish] at h
            | some y => rw [exec_mono ih n m (by omega) _ _ _ hx]; rw [hx] at h; exact h
          · simp only [hz, Bool.false_eq_true, if_false] at h ⊢
            cases hx : exec S.P (acall S n) S.pure (if S.own f then lim else H.length) fa.draws n c ⟨env0 fa.keep args, H⟩ with
            | none => rw [hx] at h; simp [finish] at h
            | some y => rw [exec_mono ih n m (by omega) _ _ _ hx]; rw [hx] at h; exact h
        · rename_i hb; simp only [hb] at h; cases h
      · rename_i hf; simp only [hf] at h; exact h

/-! ### Enough for an end -/
section
variable (S : Sig)

/-- The call comes to an end of which K holds. -/
def ACall (lim : Nat) (f : FuncId) (args : List AV) (H : Heap) (K : AV → Heap → Prop) : Prop := ∃ n r H', acall S n lim f args H = some (r, H') ∧ K r H'

def W (lim : Nat) (dr : List (Nat × Draw)) (c : Code) (s : St) (Q : Ex → St → Prop) : Prop := ∃ n e s', exec S.P (acall S n) S.pure lim dr n c s = some (e, s') ∧ Q e s'

def optP {α : Type} (x : Option α) (K : α → Prop) : Prop :=
  match x with
  | some a => K a
  | none => False

def opP (lim : Nat) (o : Op) (e : Env) (H : Heap) (K : AV → Heap → Prop) : Prop :=
  match o with
  | .load t a => optP (loadV S.P H t (evO e a)) (K · H)
  | .move x | .assign x => K (evO e x) H
  | .call { callee := .value f, args, argTypes := _ } =>
    match evO e f with
    | .clo g l => ACall S lim g (args.toList.map (evO e) ++ l) H K
    | _ => False
  | .alloc _ | .box _ _ | .store _ _ _ | .buildSlice _ _ _ | .makeSlice _ _ _ | .call { callee := .builtin .append, args := _, argTypes := _ } => optP (effV S.P lim o (evO e) H) fun r => K r.1 r.2
  | .convert s d x =>
    match convV S.P s d (evO e x) with
    | some y => K y H
    | none => optP (effV S.P lim (.convert s d x) (evO e) H) fun r => K r.1 r.2
  | o => optP (popV S.P o (evO e)) (K · H)

def guardP (ops : Array Oper) (e : Env) (o : Oper) (Y N : Prop) : Prop :=
  match wantedA ops e o with
  | some true => Y
  | some false => N
  | none => False

def Rp (lim : Nat) (ops : Array Oper) : List Oper → Env → Heap → (Env → Heap → Prop) → Prop
  | [], e, H, K => K e H
  | o :: l, e, H, K => guardP ops e o (opP S lim o.op e H fun x H' => Rp lim ops l (e.put o.dst x) H' K) (Rp lim ops l (e.put o.dst (.v undef)) H K)

/-- A call in a region that draws its order: its answer must be the same in every world. -/
def opQ (o : Op) (e : Env) (H : Heap) (K : AV → Prop) : Prop :=
  match o with
  | .load t a => optP (loadV S.P H t (evO e a)) K
  | .move x | .assign x => K (evO e x)
  | .call { callee := .value f, args, argTypes := _ } =>
    match evO e f with
    | .clo g l => S.pure g = true ∧ ACall S H.length g (args.toList.map (evO e) ++ l) H fun x _ => exacts x = true ∧ K x
    | _ => False
  | o => optP (popV S.P o (evO e)) K

def Qp (ops : Array Oper) : List Oper → Env → Heap → (Env → Prop) → Prop
  | [], e, _, K => K e
  | o :: l, e, H, K => guardP ops e o (opQ S o.op e H fun x => Qp ops l (e.put o.dst x) H K) (Qp ops l (e.put o.dst (.v undef)) H K)

variable {S}

theorem opV_of_opP {lim : Nat} {o : Op} {e : Env} {H : Heap} {K : AV → Heap → Prop} (h : opP S lim o e H K) : ∃ n x H', opV S.P (acall S n) lim o e H = some (x, H') ∧ K x H' := by
  unfold opP at h
  split at h
  · rename_i t a
    unfold optP at h
    split at h
    · rename_i x hx; exact ⟨0, x, H, by simp [opV, isLoad, hx], h⟩
    · exact h.elim
  · exact ⟨0, _, H, by simp [opV, isLoad, callV, popV], h⟩
  · exact ⟨0, _, H, by simp [opV, isLoad, callV, popV], h⟩
  · rename_i f args _
    split at h
    · rename_i g l hf
      obtain ⟨n, r, H', hc, hk⟩ := h
      exact ⟨n, r, H', by simp [opV, isLoad, callV, hf, hc], hk⟩
    · exact h.elim
  · unfold optP at h
    split at h
    · rename_i x hx; exact ⟨0, x.1, x.2, by simp [opV, isLoad, callV, popV, hx], h⟩
    · exact h.elim
  · unfold optP at h
    split at h
    · rename_i x hx; exact ⟨0, x.1, x.2, by simp [opV, isLoad, callV, popV, hx], h⟩
    · exact h.elim
  · unfold optP at h
    split at h
    · rename_i x hx; exact ⟨0, x.1, x.2, by simp [opV, isLoad, callV, popV, hx], h⟩
    · exact h.elim
  · unfold optP at h
    split at h
    · rename_i x hx; exact ⟨0, x.1, x.2, by simp [opV, isLoad, callV, popV, hx], h⟩
    · exact h.elim
  · unfold optP at h
    split at h
    · rename_i x hx; exact ⟨0, x.1, x.2, by simp [opV, isLoad, callV, popV, hx], h⟩
    · exact h.elim
  · unfold optP at h
    split at h
    · rename_i x hx; exact ⟨0, x.1, x.2, by simp [opV, isLoad, callV, popV, hx], h⟩
    · exact h.elim
  · split at h
    · rename_i y hy; exact ⟨0, y, H, by simp [opV, isLoad, callV, popV, hy], h⟩
    · rename_i hn
      unfold optP at h
      split at h
      · rename_i x hx; exact ⟨0, x.1, x.2, by simp [opV, isLoad, callV, popV, hn, hx], h⟩
      · exact h.elim
  · rename_i h1 h2 h3 h4 h5 h6 h7 h8 h9 h10 h11
    unfold optP at h
    split at h
    · rename_i x hx
      refine ⟨0, x, H, ?_, h⟩
      have e1 : isLoad o = none := by unfold isLoad; split <;> first | rfl | (exact absurd rfl (h1 _ _))
      have e2 : callV o (evO e) = none := by
        unfold callV
        split
        · exact absurd rfl (h4 _ _ _)
        · rfl
      simp [opV, e1, e2, hx]
    · exact h.elim

theorem runOps_of_Rp {lim : Nat} {ops : Array Oper} : ∀ (l : List Oper) (e : Env) (H : Heap) (K : Env → Heap → Prop), Rp S lim ops l e H K → ∃ n e' H', runOps S.P (acall S n) lim ops l e H = some (e', H') ∧ K e' H'
  | [], e, H, K, h => ⟨0, e, H, rfl, h⟩
  | o :: l, e, H, K, h => by
    simp only [Rp, guardP] at h
    split at h
    · rename_i hw
      obtain ⟨n, x, H', ho, hr⟩ := opV_of_opP h
      obtain ⟨m, e', H'', hm, hk⟩ := runOps_of_Rp l _ _ _ hr
      refine ⟨max n m, e', H'', ?_, hk⟩
      simp only [runOps, hw, opV_mono (acall_mono S n (max n m) (by omega)) ho]
      exact runOps_mono (acall_mono S m (max n m) (by omega)) _ _ _ _ hm
    · rename_i hw
      obtain ⟨m, e', H'', hm, hk⟩ := runOps_of_Rp l _ _ _ h
      exact ⟨m, e', H'', by simp only [runOps, hw]; exact hm, hk⟩
    · exact h.elim

theorem quietV_of_opQ {o : Op} {e : Env} {H : Heap} {K : AV → Prop} (h : opQ S o e H K) : ∃ n x, quietV S.P (acall S n) S.pure o e H = some x ∧ K x := by
  unfold opQ at h
  split at h
  · rename_i t a
    unfold optP at h
    split at h
    · rename_i x hx; exact ⟨0, x, by simp [quietV, isLoad, hx], h⟩
    · exact h.elim
  · exact ⟨0, _, by simp [quietV, isLoad, callV, popV], h⟩
  · exact ⟨0, _, by simp [quietV, isLoad, callV, popV], h⟩
  · rename_i f args _
    split at h
    · rename_i g l hf
      obtain ⟨hp, n, r, H', hc, hk, hk'⟩ := h
      exact ⟨n, r, by simp [quietV, isLoad, callV, hf, hp, hc, hk], hk'⟩
    · exact h.elim
  · rename_i h1 h2 h3 h4
    unfold optP at h
    split at h
    · rename_i x hx
      refine ⟨0, x, ?_, h⟩
      have e1 : isLoad o = none := by unfold isLoad; split <;> first | rfl | (exact absurd rfl (h1 _ _))
      have e2 : callV o (evO e) = none := by
        unfold callV
        split
        · exact absurd rfl (h4 _ _ _)
        · rfl
      simp [quietV, e1, e2, hx]
    · exact h.elim

theorem runQuiet_of_Qp {ops : Array Oper} : ∀ (l : List Oper) (e : Env) (H : Heap) (K : Env → Prop), Qp S ops l e H K → ∃ n e', runQuiet S.P (acall S n) S.pure ops l e H = some e' ∧ K e'
  | [], e, H, K, h => ⟨0, e, rfl, h⟩
  | o :: l, e, H, K, h => by
    simp only [Qp, guardP] at h
    split at h
    · rename_i hw
      obtain ⟨n, x, ho, hr⟩ := quietV_of_opQ h
      obtain ⟨m, e', hm, hk⟩ := runQuiet_of_Qp l _ _ _ hr
      refine ⟨max n m, e', ?_, hk⟩
      simp only [runQuiet, hw, quietV_mono (acall_mono S n (max n m) (by omega)) ho]
      exact runQuiet_mono (acall_mono S m (max n m) (by omega)) _ _ _ _ hm
    · rename_i hw
      obtain ⟨m, e', hm, hk⟩ := runQuiet_of_Qp l _ _ _ h
      exact ⟨m, e', by simp only [runQuiet, hw]; exact hm, hk⟩
    · exact h.elim

variable {lim : Nat} {dr : List (Nat × Draw)} {s : St} {Q : Ex → St → Prop}

theorem W_mono {c : Code} {Q' : Ex → St → Prop} (h : W S lim dr c s Q) (hq : ∀ e s, Q e s → Q' e s) : W S lim dr c s Q' :=
  let ⟨n, e, s', h1, h2⟩ := h
  ⟨n, e, s', h1, hq _ _ h2⟩

theorem W_skip (h : Q .normal s) : W S lim dr .skip s Q := ⟨1, .normal, s, rfl, h⟩
theorem W_ret (h : Q .ret s) : W S lim dr .ret s Q := ⟨1, .ret, s, rfl, h⟩
theorem W_exit {id : Nat} (h : Q (.exit id) s) : W S lim dr (.exit id) s Q := ⟨1, .exit id, s, rfl, h⟩

def thenQ (N : St → Prop) (Q : Ex → St → Prop) : Ex → St → Prop
  | .normal, s => N s
  | e, s => Q e s

theorem W_seq {a b : Code} (h : W S lim dr a s (thenQ (fun s' => W S lim dr b s' Q) Q)) : W S lim dr (.seq a b) s Q := by
  obtain ⟨n, e, s', h1, h2⟩ := h
  cases e with
  | normal =>
    obtain ⟨m, e', s'', h3, h4⟩ := h2
    refine ⟨max n m + 1, e', s'', ?_, h4⟩
    simp only [exec]
    rw [exec_mono (acall_mono S n (max n m + 1) (by omega)) n (max n m) (by omega) _ _ _ h1]
    exact exec_mono (acall_mono S m (max n m + 1) (by omega)) m (max n m) (by omega) _ _ _ h3
  | exit id =>
    refine ⟨n + 1, _, s', ?_, h2⟩
    simp only [exec]
    rw [exec_mono (acall_mono S n (n + 1) (by omega)) n n (by omega) _ _ _ h1]
  | ret =>
    refine ⟨n + 1, _, s', ?_, h2⟩
    simp only [exec]
    rw [exec_mono (acall_mono S n (n + 1) (by omega)) n n (by omega) _ _ _ h1]

theorem W_cond {c : Operand} {x y : Code} {t : Bool} (hc : evO s.loc c = .v (.bool t)) (h1 : t = true → W S lim dr x s Q) (h2 : t = false → W S lim dr y s Q) : W S lim dr (.cond c x y) s Q := by
  cases t with
  | true =>
    obtain ⟨n, e, s', h3, h4⟩ := h1 rfl
    refine ⟨n + 1, e, s', ?_, h4⟩
    simp only [exec, hc, if_true]
    exact exec_mono (acall_mono S n (n + 1) (by omega)) n n (by omega) _ _ _ h3
  | false =>
    obtain ⟨n, e, s', h3, h4⟩ := h2 rfl
    refine ⟨n + 1, e, s', ?_, h4⟩
    simp only [exec, hc, Bool.false_eq_true, if_false]
    exact exec_mono (acall_mono S n (n + 1) (by omega)) n n (by omega) _ _ _ h3

def blockQ (id : Nat) (Q : Ex → St → Prop) : Ex → St → Prop
  | .exit j, s => if j = id then Q .normal s else Q (.exit j) s
  | e, s => Q e s

theorem W_block {id : Nat} {b : Code} (h : W S lim dr b s (blockQ id Q)) : W S lim dr (.block id b) s Q := by
  obtain ⟨n, e, s', h1, h2⟩ := h
  have h3 := exec_mono (acall_mono S n (n + 1) (by omega)) n n (by omega) _ _ _ h1
  cases e with
  | normal => exact ⟨n + 1, .normal, s', by simp only [exec]; rw [h3], h2⟩
  | ret => exact ⟨n + 1, .ret, s', by simp only [exec]; rw [h3], h2⟩
  | exit j =>
    by_cases hj : j = id
    · simp only [blockQ, hj, if_true] at h2
      exact ⟨n + 1, .normal, s', by simp only [exec]; rw [h3]; simp [hj], h2⟩
    · simp only [blockQ, hj, if_false] at h2
      exact ⟨n + 1, .exit j, s', by simp only [exec]; rw [h3]; simp [hj], h2⟩

theorem W_loop {b : Code} (h : W S lim dr b s (thenQ (fun s' => W S lim dr (.loop b) s' Q) Q)) : W S lim dr (.loop b) s Q := by
  obtain ⟨n, e, s', h1, h2⟩ := h
  cases e with
  | normal =>
    obtain ⟨m, e', s'', h3, h4⟩ := h2
    refine ⟨max n m + 1, e', s'', ?_, h4⟩
    simp only [exec]
    rw [exec_mono (acall_mono S n (max n m + 1) (by omega)) n (max n m) (by omega) _ _ _ h1]
    exact exec_mono (acall_mono S m (max n m + 1) (by omega)) m (max n m) (by omega) _ _ _ h3
  | exit id =>
    refine ⟨n + 1, _, s', ?_, h2⟩
    simp only [exec]
    rw [exec_mono (acall_mono S n (n + 1) (by omega)) n n (by omega) _ _ _ h1]
  | ret =>
    refine ⟨n + 1, _, s', ?_, h2⟩
    simp only [exec]
    rw [exec_mono (acall_mono S n (n + 1) (by omega)) n n (by omega) _ _ _ h1]

theorem W_region {id : Nat} {ops : Array Oper} (h : Rp S lim ops ops.toList s.loc s.H fun e H => Q .normal ⟨trim e s.loc, H⟩) : W S lim dr (.region id ops false) s Q := by
  obtain ⟨n, e, H, h1, h2⟩ := runOps_of_Rp _ _ _ _ h
  refine ⟨n + 1, .normal, _, ?_, h2⟩
  simp only [exec, region, Bool.false_eq_true, if_false]
  rw [runOps_mono (acall_mono S n (n + 1) (by omega)) _ _ _ _ h1]
  rfl

theorem W_region_draw {id n : Nat} {ops : Array Oper} (hd : dr.lookup id = some (.quiet n))
    (h : Qp S ops (ops.toList.take n) s.loc s.H fun e => Rp S lim ops (ops.toList.drop n) e s.H fun e H => Q .normal ⟨trim e s.loc, H⟩) : W S lim dr (.region id ops true) s Q := by
  obtain ⟨k, e, h1, h2⟩ := runQuiet_of_Qp _ _ _ _ h
  obtain ⟨m, e', H, h3, h4⟩ := runOps_of_Rp _ _ _ _ h2
  refine ⟨max k m + 1, .normal, _, ?_, h4⟩
  simp only [exec, region, if_true, hd]
  rw [runQuiet_mono (acall_mono S k (max k m + 1) (by omega)) _ _ _ _ h1]
  simp only
  rw [runOps_mono (acall_mono S m (max k m + 1) (by omega)) _ _ _ _ h3]
  rfl

/-! ### Calls -/
theorem ACall_mono {f : FuncId} {args : List AV} {H : Heap} {K K' : AV → Heap → Prop} (h : ACall S lim f args H K) (hk : ∀ r H', K r H' → K' r H') : ACall S lim f args H K' :=
  let ⟨n, r, H', h1, h2⟩ := h
  ⟨n, r, H', h1, hk _ _ h2⟩

def retP (S : Sig) (own : Bool) (fa : FnA) (H0 : Heap) (K : AV → Heap → Prop) : Ex → St → Prop
  | .exit _, _ => False
  | _, s => optP (resAll S.P s.loc s.H fa.fn.results.toList) fun l => if own then K (oneOr l) s.H else K (frz s.H H0.length 8 (oneOr l)) H0

theorem ACall_fn {f : FuncId} {fa : FnA} {c : Code} {args : List AV} {H : Heap} {K : AV → Heap → Prop} (hp : S.prim f = none) (hf : S.fns f = some fa) (hb : fa.fn.body = some c) (hz : S.fz f = false)
    (h : W S (if S.own f then lim else H.length) fa.draws c ⟨env0 fa.keep args, H⟩ (retP S (S.own f) fa H K)) : ACall S lim f args H K := by
  obtain ⟨n, e, s', h1, h2⟩ := h
  have fin : ∀ e', e' ≠ Ex.exit 0 → True := fun _ _ => trivial
  have go : ∀ (hh : optP (resAll S.P s'.loc s'.H fa.fn.results.toList) fun l => if S.own f then K (oneOr l) s'.H else K (frz s'.H H.length 8 (oneOr l)) H) (hne : ∀ id, e ≠ .exit id),
      ∃ n r H', acall S n lim f args H = some (r, H') ∧ K r H' := by
    intro hh hne
    unfold optP at hh
    split at hh
    · rename_i l hl
      by_cases ho : S.own f = true
      · simp only [ho, if_true] at hh
        refine ⟨n + 1, _, _, ?_, hh⟩
        simp only [acall, hp, hf, hb, hz, Bool.false_eq_true, if_false]
        rw [h1]
        cases e <;> first | exact absurd rfl (hne _) | simp [finish, hl, ho]
      · simp only [ho] at hh
        refine ⟨n + 1, _, _, ?_, hh⟩
        simp only [acall, hp, hf, hb, hz, Bool.false_eq_true, if_false]
        rw [h1]
        cases e <;> first | exact absurd rfl (hne _) | simp [finish, hl, ho]
    · exact hh.elim
  cases e with
  | normal => exact go h2 (by simp)
  | ret => exact go h2 (by simp)
  | exit id => exact h2.elim

def bodyOf (fa : FnA) : Code := fa.fn.body.getD .skip
theorem ACall_at {f : FuncId} {fa : FnA} {args : List AV} {H : Heap} {K : AV → Heap → Prop} (hp : S.prim f = none) (hf : S.fns f = some fa) (hb : fa.fn.body.isSome = true) {own : Bool} (ho : S.own f = own) (hz : S.fz f = false)
    (h : W S (if own then lim else H.length) fa.draws (bodyOf fa) ⟨env0 fa.keep args, H⟩ (retP S own fa H K)) : ACall S lim f args H K := by
  subst ho
  exact ACall_fn hp hf (c := bodyOf fa) (by unfold bodyOf; cases hh : fa.fn.body with | none => rw [hh] at hb; cases hb | some c => rfl) hz h
def Cl : Code → Code
  | .seq a _ => a
  | .cond _ a _ => a
  | .block _ b => b
  | .loop b => b
  | _ => .skip
def Cr : Code → Code
  | .seq _ b => b
  | .cond _ _ b => b
  | _ => .skip
def at' (c : Code) : List Nat → Code
  | [] => c
  | 0 :: p => Cl (at' c p)
  | _ :: p => Cr (at' c p)

theorem at_seq {c : Code} {p : List Nat} (h : at' c p = .seq (at' c (0 :: p)) (at' c (1 :: p))) (hw : W S lim dr (at' c (0 :: p)) s (thenQ (fun s' => W S lim dr (at' c (1 :: p)) s' Q) Q)) : W S lim dr (at' c p) s Q := by
  rw [h]; exact W_seq hw
theorem at_cond {c : Code} {p : List Nat} {o : Operand} {t : Bool} (h : at' c p = .cond o (at' c (0 :: p)) (at' c (1 :: p))) (hc : evO s.loc o = .v (.bool t)) (h1 : t = true → W S lim dr (at' c (0 :: p)) s Q) (h2 : t = false → W S lim dr (at' c (1 :: p)) s Q) : W S lim dr (at' c p) s Q := by
  rw [h]; exact W_cond hc h1 h2
theorem at_block {c : Code} {p : List Nat} {id : Nat} (h : at' c p = .block id (at' c (0 :: p))) (hw : W S lim dr (at' c (0 :: p)) s (blockQ id Q)) : W S lim dr (at' c p) s Q := by
  rw [h]; exact W_block hw
theorem at_region {c : Code} {p : List Nat} {id : Nat} {ops : Array Oper} (h : at' c p = .region id ops false) (hw : Rp S lim ops ops.toList s.loc s.H fun e H => Q .normal ⟨trim e s.loc, H⟩) : W S lim dr (at' c p) s Q := by
  rw [h]; exact W_region hw
theorem at_draw {c : Code} {p : List Nat} {id n : Nat} {ops : Array Oper} (h : at' c p = .region id ops true) (hd : dr.lookup id = some (.quiet n))
    (hw : Qp S ops (ops.toList.take n) s.loc s.H fun e => Rp S lim ops (ops.toList.drop n) e s.H fun e H => Q .normal ⟨trim e s.loc, H⟩) : W S lim dr (at' c p) s Q := by
  rw [h]; exact W_region_draw hd hw
theorem at_skip {c : Code} {p : List Nat} (h : at' c p = .skip) (hw : Q .normal s) : W S lim dr (at' c p) s Q := by
  rw [h]; exact W_skip hw
theorem at_ret {c : Code} {p : List Nat} (h : at' c p = .ret) (hw : Q .ret s) : W S lim dr (at' c p) s Q := by
  rw [h]; exact W_ret hw
theorem at_exit {c : Code} {p : List Nat} {id : Nat} (h : at' c p = .exit id) (hw : Q (.exit id) s) : W S lim dr (at' c p) s Q := by
  rw [h]; exact W_exit hw
theorem ACall_pure {f : FuncId} {fa : FnA} {args : List AV} {H : Heap} {K : AV → Heap → Prop} (hp : S.prim f = none) (hf : S.fns f = some fa) (hb : fa.fn.body.isSome = true) (ho : S.own f = false)
    (h : W S H.length fa.draws (at' (bodyOf fa) []) ⟨env0 fa.keep args, H⟩ (retP S false fa H K)) (hz : S.fz f = false := by rfl) : ACall S lim f args H K := ACall_at hp hf hb ho hz h
/-- Those that are taken first. -/
def Lp (S : Sig) (ops : Array Oper) (H : Heap) (K : Env → List Nat → Prop) : List Oper → Env → List Nat → Prop
  | [], e, R => K e R
  | o :: l, e, R => guardP ops e o (optP (takeV S.P o.op e H) fun x => Lp S ops H K l (e.put o.dst x) (rdV o.op e ++ R)) (Lp S ops H K l (e.put o.dst (.v undef)) R)
/-- Those in the middle, one by one. -/
def Mp (S : Sig) (lim : Nat) (ops : Array Oper) (R : List Nat) (K : Env → Heap → Prop) : List Oper → Env → Heap → Prop
  | [], e, H => K e H
  | o :: l, e, H => wrC R o e = true ∧ Rp S lim ops [o] e H fun e' H' => Mp S lim ops R K l e' H'
/-- The other orders, symbolically. -/
def Alts (S : Sig) (ops : Array Oper) (live keep : List Nat) (n0 : Nat) (e : Env) (H : Heap) (e0 : Env) (H0 : Heap) : List (List Nat) → Prop
  | [] => True
  | m :: ms => Rp S n0 ops (pick ops m) e H (fun e1 H1 => SameUp n0 live keep e0 H0 e1 H1) ∧ Alts S ops live keep n0 e H e0 H0 ms
theorem guardP_free (ops : Array Oper) (e : Env) (d : Option Tmp) (op : Op) (ty : TypeId) (pos : String) (af : Array Edge) (Y N : Prop) : guardP ops e ⟨d, op, ty, pos, af, none⟩ Y N = Y := rfl
def guardB (x : AV) (want : Bool) (Y N : Prop) : Prop :=
  match x with
  | .v (.bool b) => (b = want → Y) ∧ (b = !want → N)
  | .v _ => N
  | _ => False
theorem guardP_on (ops : Array Oper) (e : Env) (d : Option Tmp) (op : Op) (ty : TypeId) (pos : String) (af : Array Edge) (j : Nat) (want : Bool) (Y N : Prop) {t : Nat} (h : (ops[j]?).bind (·.dst) = some t) :
    guardP ops e ⟨d, op, ty, pos, af, some (j, want)⟩ Y N ↔ guardB (e.get t) want Y N := by
  unfold guardP wantedA guardB
  simp only [h]
  cases hx : e.get t with
  | v x =>
    cases x with
    | bool b => cases b <;> cases want <;> simp
    | _ => simp
  | _ => simp
theorem optP_some {α : Type} (x : α) (K : α → Prop) : optP (some x) K = K x := rfl
@[congr] theorem optP_congr {α : Type} {x x' : Option α} (K : α → Prop) (h : x = x') : optP x K = optP x' K := by rw [h]
@[congr] theorem Rp_congr (lim : Nat) (ops : Array Oper) (l : List Oper) {e e' : Env} {H H' : Heap} (K : Env → Heap → Prop) (h : e = e') (h' : H = H') : Rp S lim ops l e H K = Rp S lim ops l e' H' K := by rw [h, h']
@[congr] theorem Qp_congr (ops : Array Oper) (l : List Oper) {e e' : Env} (H : Heap) (K : Env → Prop) (h : e = e') : Qp S ops l e H K = Qp S ops l e' H K := by rw [h]
@[congr] theorem opP_congr (lim : Nat) (o : Op) (e : Env) (H : Heap) (K : AV → Heap → Prop) : opP S lim o e H K = opP S lim o e H K := rfl
@[congr] theorem opQ_congr (o : Op) (e : Env) (H : Heap) (K : AV → Prop) : opQ S o e H K = opQ S o e H K := rfl
@[congr] theorem guardP_congr (ops : Array Oper) (e : Env) (o : Oper) (Y N : Prop) : guardP ops e o Y N = guardP ops e o Y N := rfl
@[congr] theorem guardB_congr {x x' : AV} (want : Bool) (Y N : Prop) (h : x = x') : guardB x want Y N = guardB x' want Y N := by rw [h]
@[congr] theorem W_congr (lim : Nat) (dr : List (Nat × Draw)) (c : Code) {s s' : St} (Q : Ex → St → Prop) (h : s = s') : W S lim dr c s Q = W S lim dr c s' Q := by rw [h]
@[congr] theorem ACall_congr (lim : Nat) (f : FuncId) {args args' : List AV} (H : Heap) (K : AV → Heap → Prop) (h : args = args') : ACall S lim f args H K = ACall S lim f args' H K := by rw [h]
@[congr] theorem thenQ_congr (N : St → Prop) (Q : Ex → St → Prop) (x : Ex) (s : St) : thenQ N Q x s = thenQ N Q x s := rfl
@[congr] theorem blockQ_congr (id : Nat) (Q : Ex → St → Prop) (x : Ex) (s : St) : blockQ id Q x s = blockQ id Q x s := rfl

theorem Rp_cons (lim : Nat) (ops : Array Oper) (o : Oper) (l : List Oper) (e : Env) (H : Heap) (K : Env → Heap → Prop) :
    Rp S lim ops (o :: l) e H K = guardP ops e o (opP S lim o.op e H fun x H' => Rp S lim ops l (e.put o.dst x) H' K) (Rp S lim ops l (e.put o.dst (.v undef)) H K) := rfl
end
end Go.Am
end
section
namespace Go.Am
open Go
section
variable {S : Sig}

/-! ### Slots -/
theorem get_cons (k : Nat) (x : AV) (r : Env) (t : Nat) : Env.get ((k, x) :: r) t = if t = k then x else Env.get r t := rfl
theorem get_nil (t : Nat) : Env.get [] t = .any := rfl
theorem getD_cons (k : Nat) (x : AV) (r : Env) (t : Nat) (d : AV) : Env.getD ((k, x) :: r) t d = if t = k then x else Env.getD r t d := rfl
theorem getD_nil (t : Nat) (d : AV) : Env.getD [] t d = d := rfl
theorem put_some (e : Env) (t : Nat) (x : AV) : Env.put e (some t) x = (t, x) :: e := rfl
theorem put_none (e : Env) (x : AV) : Env.put e none x = e := rfl
theorem ev_tmp (e : Env) (t : Nat) : evO e (.tmp t) = e.get t := rfl
theorem ev_int (e : Env) (k : IntKind) (n : Int) : evO e (.const (.int k n)) = .v (.int k n) := rfl
theorem ev_bool (e : Env) (b : Bool) : evO e (.const (.bool b)) = .v (.bool b) := rfl
theorem ev_str (e : Env) (s : ByteArray) : evO e (.const (.string s)) = .v (.string s) := rfl
theorem ev_nil (e : Env) : evO e (.const (.slice none 0 0)) = .v (.slice none 0 0) := rfl
theorem ev_func (e : Env) (f : FuncId) : evO e (.func f) = .clo f [] := rfl
theorem ev_agg (e : Env) (cs : Array Value) : evO e (.const (.agg cs)) = .agg (cs.toList.map .v) := rfl
theorem hget_app (H : Heap) (l : List (Option Blk)) : hget (H ++ l) H.length = (l[0]?).join := by
  simp [hget, List.getElem?_append_right]
theorem hset_app (H : Heap) (l : List (Option Blk)) (x : Option Blk) : hset (H ++ l) H.length x = H ++ l.set 0 x := by simp [hset]
section
variable (lim : Nat) (e : Env) (H : Heap) (K : AV → Heap → Prop)
theorem opP_call (f : FuncId) (args : Array Operand) (ts : Array TypeId) : opP S lim (.call ⟨.value (.func f), args, ts⟩) e H K = ACall S lim f (args.toList.map (evO e)) H K := by
  simp only [opP, evO, List.append_nil]
def cloP (x : AV) (K : FuncId → List AV → Prop) : Prop :=
  match x with
  | .clo g l => K g l
  | _ => False
@[congr] theorem cloP_congr {x x' : AV} (K : FuncId → List AV → Prop) (h : x = x') : cloP x K = cloP x' K := by rw [h]
theorem opP_alloc (t : TypeId) : opP S lim (.alloc t) e H K = optP ((tyOf S.P t).bind fun ty => ty.zero) fun z => K (.ptr H.length 0) (H ++ [some (z.map .v)]) := by
  simp only [opP, effV, optP]
  cases tyOf S.P t with
  | none => rfl
  | some ty =>
    simp only [Option.bind_some]
    cases ty.zero <;> rfl
theorem opP_box (t : TypeId) (x : Operand) : opP S lim (.box t x) e H K = optP (tyOf S.P t) fun _ => optP (cellsOf (evO e x)) fun c => K (.ptr H.length 0) (H ++ [some c]) := by
  simp only [opP, effV, optP]
  cases tyOf S.P t with
  | none => rfl
  | some ty => cases cellsOf (evO e x) <;> rfl
def storeP (lim size : Nat) (a : AV) (c : Option (List AV)) (H : Heap) (K : AV → Heap → Prop) : Prop :=
  match a with
  | .ptr b o => optP c fun c => optP (hget H b) fun k => (lim ≤ b ∧ c.length = size ∧ o + size ≤ k.length) ∧ K (.v undef) (hset H b (some (setL k o c)))
  | _ => False
@[congr] theorem storeP_congr (lim size : Nat) {a a' : AV} {c c' : Option (List AV)} (H : Heap) (K : AV → Heap → Prop) (h : a = a') (h' : c = c') : storeP lim size a c H K = storeP lim size a' c' H K := by rw [h, h']
theorem storeP_ptr (size b o : Nat) (c : List AV) : storeP lim size (.ptr b o) (some c) H K = optP (hget H b) fun k => (lim ≤ b ∧ c.length = size ∧ o + size ≤ k.length) ∧ K (.v undef) (hset H b (some (setL k o c))) := rfl
theorem opP_store (t : TypeId) (a x : Operand) : opP S lim (.store t a x) e H K = optP (tyOf S.P t) fun ty => storeP lim ty.size (evO e a) (cellsOf (evO e x)) H K := by
  simp only [opP, effV, optP, storeP]
  cases tyOf S.P t with
  | none => rfl
  | some ty =>
    simp only
    cases evO e a <;> try rfl
    cases cellsOf (evO e x) with
    | none => rfl
    | some c =>
      simp only
      rename_i b o
      cases hget H b with
      | none => rfl
      | some k =>
        simp only
        by_cases h : lim ≤ b ∧ c.length = ty.size ∧ o + ty.size ≤ List.length k
        · simp only [if_pos h]; simp [h]
        · simp only [if_neg h]; simp [h]
theorem opP_buildSlice (t : TypeId) (n : Nat) (parts : Array (Nat × Operand)) : opP S lim (.buildSlice t n parts) e H K = optP (effV S.P lim (.buildSlice t n parts) (evO e) H) fun r => K r.1 r.2 := rfl
def pickP (c a b : AV) (K : AV → Prop) : Prop :=
  match c with
  | .v (.bool t) => K (if t then a else b)
  | _ => False
@[congr] theorem pickP_congr {c c' a a' b b' : AV} (K : AV → Prop) (h : c = c') (h1 : a = a') (h2 : b = b') : pickP c a b K = pickP c' a' b' K := by rw [h, h1, h2]
theorem opP_bytes (s d : TypeId) (x : Operand) (h : convV S.P s d (evO e x) = none) : opP S lim (.convert s d x) e H K = optP (effV S.P lim (.convert s d x) (evO e) H) fun r => K r.1 r.2 := by simp only [opP, h]
def tupP (x : AV) (i : Nat) (K : AV → Prop) : Prop :=
  match x with
  | .tup l => optP l[i]? K
  | _ => False
@[congr] theorem tupP_congr {x x' : AV} (i : Nat) (K : AV → Prop) (h : x = x') : tupP x i K = tupP x' i K := by rw [h]
theorem pop_max2 (P : Program) (x y : Operand) (ts : Array TypeId) : popV P (.call ⟨.builtin .max, #[x, y], ts⟩) (evO e) = max2 (evO e x) (evO e y) := by
  simp only [popV, List.map, foldA]
  cases max2 (evO e x) (evO e y) <;> rfl
theorem pop_min2 (P : Program) (x y : Operand) (ts : Array TypeId) : popV P (.call ⟨.builtin .min, #[x, y], ts⟩) (evO e) = min2 (evO e x) (evO e y) := by
  simp only [popV, List.map, foldA]
  cases min2 (evO e x) (evO e y) <;> rfl
end

/-! ### Values -/
section
variable (P : Program)
theorem max2_int (k k' : IntKind) (x y : Int) : max2 (.v (.int k x)) (.v (.int k' y)) = some (.v (.int k (max x y))) := by
  simp only [max2]; congr 3; omega
theorem min2_int (k k' : IntKind) (x y : Int) : min2 (.v (.int k x)) (.v (.int k' y)) = some (.v (.int k (min x y))) := by
  simp only [min2]; congr 3; omega
theorem bin_add (t : TypeId) (k : IntKind) (a b : Int) : binV P .add t (.v (.int k a)) (.v (.int k b)) = some (.v (.int k (k.wrap (a + b)))) := by simp [binV, intBin]
theorem bin_sub (t : TypeId) (k : IntKind) (a b : Int) : binV P .sub t (.v (.int k a)) (.v (.int k b)) = some (.v (.int k (k.wrap (a - b)))) := by simp [binV, intBin]
theorem bin_mul (t : TypeId) (k : IntKind) (a b : Int) : binV P .mul t (.v (.int k a)) (.v (.int k b)) = some (.v (.int k (k.wrap (a * b)))) := by simp [binV, intBin]
theorem bin_quo (t : TypeId) (k : IntKind) (a b : Int) : binV P .quo t (.v (.int k a)) (.v (.int k b)) = if b = 0 then none else some (.v (.int k (k.wrap (a.tdiv b)))) := by
  simp only [binV, intBin, if_true]; split <;> rfl
theorem bin_rem (t : TypeId) (k : IntKind) (a b : Int) : binV P .rem t (.v (.int k a)) (.v (.int k b)) = if b = 0 then none else some (.v (.int k (a.tmod b))) := by
  simp only [binV, intBin, if_true]; split <;> rfl
theorem bin_eql (t : TypeId) (k : IntKind) (a b : Int) : binV P .eql t (.v (.int k a)) (.v (.int k b)) = some (.v (.bool (a == b))) := by simp [binV, intBin]
theorem bin_neq (t : TypeId) (k : IntKind) (a b : Int) : binV P .neq t (.v (.int k a)) (.v (.int k b)) = some (.v (.bool (!(a == b)))) := by simp [binV, intBin, bne]
theorem bin_lss (t : TypeId) (k : IntKind) (a b : Int) : binV P .lss t (.v (.int k a)) (.v (.int k b)) = some (.v (.bool (decide (a < b)))) := by simp [binV, intBin]
theorem bin_leq (t : TypeId) (k : IntKind) (a b : Int) : binV P .leq t (.v (.int k a)) (.v (.int k b)) = some (.v (.bool (decide (a ≤ b)))) := by simp [binV, intBin]
theorem bin_gtr (t : TypeId) (k : IntKind) (a b : Int) : binV P .gtr t (.v (.int k a)) (.v (.int k b)) = some (.v (.bool (decide (b < a)))) := by simp [binV, intBin]
theorem bin_geq (t : TypeId) (k : IntKind) (a b : Int) : binV P .geq t (.v (.int k a)) (.v (.int k b)) = some (.v (.bool (decide (b ≤ a)))) := by simp [binV, intBin]
theorem un_not (b : Bool) : unV .not (.v (.bool b)) = some (.v (.bool (!b))) := rfl
theorem un_neg (k : IntKind) (n : Int) : unV .neg (.v (.int k n)) = some (.v (.int k (k.wrap (0 - n)))) := rfl
theorem len_sl (ty : Ty) (e : TypeId) (n : Nat) (l : List AV) (h : ty.k = .slice e) : lenV (some ty) (.sl n l) = some (.v (.int .i64 n)) := by simp [lenV, kOf, h]
theorem len_own (ty : Ty) (e : TypeId) (z b o n : Nat) (h : ty.k = .slice e) : lenV (some ty) (.own z b o n) = some (.v (.int .i64 n)) := by simp [lenV, kOf, h]
theorem len_str (ty : Ty) (s : ByteArray) (h : ty.k = .string) : lenV (some ty) (.v (.string s)) = some (.v (.int .i64 s.size)) := by simp [lenV, kOf, h]

theorem cells_sl (n : Nat) (l : List AV) : cellsOf (.sl n l) = some [.sl n l] := rfl
theorem cells_own (z b o n : Nat) : cellsOf (.own z b o n) = some [.own z b o n] := rfl
theorem cells_ptr (b o : Nat) : cellsOf (.ptr b o) = some [.ptr b o] := rfl
theorem cells_clo (f : FuncId) (l : List AV) : cellsOf (.clo f l) = some [.clo f l] := rfl
theorem cells_agg (l : List AV) : cellsOf (.agg l) = if l.all storable then some l else none := rfl
theorem st_v (x : Value) : storable (.v x) = x.oneCell' := rfl
theorem st_int (k : IntKind) (n : Int) : Value.oneCell' (.int k n) = true := rfl
theorem st_bool (b : Bool) : Value.oneCell' (.bool b) = true := rfl
theorem st_string (s : ByteArray) : Value.oneCell' (.string s) = true := rfl
theorem st_slice (p : Option Addr) (n c : Nat) : Value.oneCell' (.slice p n c) = true := rfl
theorem st_sl (n : Nat) (l : List AV) : storable (.sl n l) = true := rfl
theorem st_own (z b o n : Nat) : storable (.own z b o n) = true := rfl
theorem st_ptr (b o : Nat) : storable (.ptr b o) = true := rfl
theorem st_clo (f : FuncId) (l : List AV) : storable (.clo f l) = true := rfl

theorem partL_agg (ty : Ty) (l : List AV) (o : Nat) (h : ty.agg = true) : partL ty l o = if o + ty.size ≤ l.length then some (.agg ((l.drop o).take ty.size)) else none := by simp [partL, h]
theorem load_ptr (H : Heap) (t : TypeId) (ty : Ty) (h : tyOf P t = some ty) (b o : Nat) : loadV P H t (.ptr b o) = (hget H b).bind fun k => partL ty k o := by
  simp only [loadV, h]; cases hget H b <;> rfl
theorem load_ele (H : Heap) (t : TypeId) (ty : Ty) (h : tyOf P t = some ty) (l : List AV) (o : Nat) : loadV P H t (.ele l o) = partL ty l o := by
  simp only [loadV, h]
theorem ia_sl (t e : TypeId) (te : Ty) (h : tk P t = some (.slice e)) (he : tyOf P e = some te) (n : Nat) (l : List AV) (k : IntKind) (i : Int) :
    indexAddrV P t (.sl n l) (.v (.int k i)) = if 0 ≤ i ∧ i < n then some (.ele l (i.toNat * te.size)) else none := by simp only [indexAddrV, h, he]
theorem ia_own (t e : TypeId) (te : Ty) (h : tk P t = some (.slice e)) (he : tyOf P e = some te) (z b o n : Nat) (k : IntKind) (i : Int) :
    indexAddrV P t (.own z b o n) (.v (.int k i)) = if 0 ≤ i ∧ i < n then some (.ptr b (o + i.toNat * te.size)) else none := by simp only [indexAddrV, h, he]
theorem fa_ptr (s : TypeId) (fs : List (Nat × TypeId)) (h : tk P s = some (.struct fs)) (b o f off : Nat) (ft : TypeId) (ty : Ty) (hf : fs[f]? = some (off, ft)) (ht : tyOf P ft = some ty) (hz : ty.size ≠ 0) :
    fieldAddrV P s (.ptr b o) f = some (.ptr b (o + off)) := by simp only [fieldAddrV, h, hf, ht]; simp [hz]
theorem frz_v (H : Heap) (b d : Nat) (x : Value) : frz H b (d + 1) (.v x) = .v x := rfl
theorem frz_tup (H : Heap) (b d : Nat) (l : List AV) : frz H b (d + 1) (.tup l) = .tup (l.map (frz H b d)) := rfl
theorem frz_agg (H : Heap) (b d : Nat) (l : List AV) : frz H b (d + 1) (.agg l) = .agg (l.map (frz H b d)) := rfl
theorem frz_sl (H : Heap) (b d : Nat) (n : Nat) (l : List AV) : frz H b (d + 1) (.sl n l) = .sl n (l.map (frz H b d)) := rfl
end

/-! ### Numbers that fit -/
theorem wrap_i64 (n : Int) (h : -9223372036854775808 ≤ n ∧ n ≤ 9223372036854775807) : IntKind.i64.wrap n = n := by
  rw [IntKind.wrap_i64]; omega
theorem wrap_u64 (n : Int) (h : 0 ≤ n ∧ n ≤ 18446744073709551615) : IntKind.u64.wrap n = n := by
  simp only [IntKind.wrap, IntKind.bits, IntKind.signed]; simp; omega
theorem ret_ret (own : Bool) (fa : FnA) (H0 : Heap) (K : AV → Heap → Prop) (s : St) :
    retP S own fa H0 K .ret s = optP (resAll S.P s.loc s.H fa.fn.results.toList) fun l => if own then K (oneOr l) s.H else K (frz s.H H0.length 8 (oneOr l)) H0 := rfl
theorem res_nil (P : Program) (e : Env) (H : Heap) : resAll P e H [] = some [] := rfl
theorem res_tmp (P : Program) (e : Env) (H : Heap) (t : Tmp) (rs : List ResultVar) : resAll P e H (.tmp t :: rs) = (resAll P e H rs).map (e.get t :: ·) := by
  simp only [resAll, resA]; cases resAll P e H rs <;> rfl
theorem res_cell (P : Program) (e : Env) (H : Heap) (a : Tmp) (t : TypeId) (rs : List ResultVar) : resAll P e H (.cell a t :: rs) = (loadV P H t (e.get a)).bind fun x => (resAll P e H rs).map (x :: ·) := by
  simp only [resAll, resA]; cases loadV P H t (e.get a) <;> cases resAll P e H rs <;> rfl
theorem one_one (x : AV) : oneOr [x] = x := rfl
theorem one_two (x y : AV) (l : List AV) : oneOr (x :: y :: l) = .tup (x :: y :: l) := rfl

/-! ### A region, operation by operation: each law wants what the operation yields, and hands on -/
section
variable {lim : Nat} {ops : Array Oper} {l : List Oper} {e : Env} {H : Heap} {K : Env → Heap → Prop} {d : Option Tmp} {op : Op} {ty : TypeId} {pos : String} {af : Array Edge} {g : Option (Nat × Bool)}

/-- What an operation that makes and writes nothing yields. -/
def qV (P : Program) (H : Heap) (o : Op) (e : Env) : Option AV :=
  match o with
  | .load t a => loadV P H t (evO e a)
  | o => popV P o (evO e)
theorem q_load (P : Program) (H : Heap) (e : Env) (t : TypeId) (a : Operand) : qV P H (.load t a) e = loadV P H t (evO e a) := rfl
theorem q_move (P : Program) (H : Heap) (e : Env) (x : Operand) : qV P H (.move x) e = some (evO e x) := rfl
theorem q_assign (P : Program) (H : Heap) (e : Env) (x : Operand) : qV P H (.assign x) e = some (evO e x) := rfl
theorem q_binOp (P : Program) (H : Heap) (e : Env) (op : BinOp) (t : TypeId) (x y : Operand) (ty : TypeId) : qV P H (.binOp op t x y ty) e = binV P op t (evO e x) (evO e y) := rfl
theorem q_unOp (P : Program) (H : Heap) (e : Env) (op : UnOp) (t : TypeId) (x : Operand) : qV P H (.unOp op t x) e = unV op (evO e x) := rfl
theorem q_pick (P : Program) (H : Heap) (e : Env) (c a b : Operand) : qV P H (.pick c a b) e = match evO e c with | .v (.bool t) => some (if t then evO e a else evO e b) | _ => none := rfl
theorem q_build (P : Program) (H : Heap) (e : Env) (t : TypeId) (parts : Array (Nat × Operand)) : qV P H (.build t parts) e = buildV P t (parts.toList.map fun p => (p.1, evO e p.2)) := rfl
theorem q_nilCheck (P : Program) (H : Heap) (e : Env) (x : Operand) : qV P H (.nilCheck x) e = popV P (.nilCheck x) (evO e) := rfl
theorem q_convert (P : Program) (H : Heap) (e : Env) (s d : TypeId) (x : Operand) : qV P H (.convert s d x) e = convV P s d (evO e x) := rfl
theorem q_makeFunc (P : Program) (H : Heap) (e : Env) (f : FuncId) (c : Array Operand) : qV P H (.makeFunc (.func f) #[] c) e = some (.clo f (c.toList.map (evO e))) := rfl
theorem q_slice (P : Program) (H : Heap) (e : Env) (t : TypeId) (x : Operand) (lo hi : Option Operand) : qV P H (.slice t x lo hi none) e = sliceV P t (evO e x) (lo.map (evO e)) (hi.map (evO e)) := rfl
theorem q_fieldAddr (P : Program) (H : Heap) (e : Env) (s : TypeId) (x : Operand) (f : Nat) : qV P H (.fieldAddr s x f) e = fieldAddrV P s (evO e x) f := rfl
theorem q_field (P : Program) (H : Heap) (e : Env) (s : TypeId) (x : Operand) (f : Nat) : qV P H (.field s x f) e = fieldV P s (evO e x) f := rfl
theorem q_indexAddr (P : Program) (H : Heap) (e : Env) (t : TypeId) (x i : Operand) : qV P H (.indexAddr t x i) e = indexAddrV P t (evO e x) (evO e i) := rfl
theorem q_index (P : Program) (H : Heap) (e : Env) (t : TypeId) (x i : Operand) : qV P H (.index t x i) e = indexV P t (evO e x) (evO e i) := rfl
theorem q_extract (P : Program) (H : Heap) (e : Env) (t : Operand) (i : Nat) : qV P H (.extract t i) e = match evO e t with | .tup l => l[i]? | _ => none := rfl
theorem q_len (P : Program) (H : Heap) (e : Env) (x : Operand) (t : TypeId) : qV P H (.call ⟨.builtin .len, #[x], #[t]⟩) e = lenV (tyOf P t) (evO e x) := rfl
theorem q_max (P : Program) (H : Heap) (e : Env) (x y : Operand) (ts : Array TypeId) : qV P H (.call ⟨.builtin .max, #[x, y], ts⟩) e = max2 (evO e x) (evO e y) := pop_max2 e P x y ts
theorem q_min (P : Program) (H : Heap) (e : Env) (x y : Operand) (ts : Array TypeId) : qV P H (.call ⟨.builtin .min, #[x, y], ts⟩) e = min2 (evO e x) (evO e y) := pop_min2 e P x y ts
/-- Does this operation only read? -/
def isQ : Op → Bool
  | .load .. | .move _ | .assign _ | .pick .. | .build .. | .nilCheck _ | .binOp .. | .unOp .. | .convert .. | .makeFunc .. | .slice .. | .fieldAddr .. | .field .. | .indexAddr .. | .index .. | .extract .. => true
  | .call { callee := .builtin .len, args := _, argTypes := _ } | .call { callee := .builtin .max, args := _, argTypes := _ } | .call { callee := .builtin .min, args := _, argTypes := _ } => true
  | _ => false

theorem opP_q {K : AV → Heap → Prop} (hq : isQ op = true) {r : AV} (h : qV S.P H op e = some r) (hk : K r H) : opP S lim op e H K := by
  unfold isQ at hq
  split at hq <;> first | (cases hq; done) | skip
  all_goals first
    | (simp only [qV] at h; simp only [opP, h, optP]; exact hk)
    | (simp only [qV, popV] at h; simp only [opP, h]; exact hk)
    | (simp only [qV, popV, Option.some.injEq] at h; subst h; exact hk)

theorem R_q (hq : isQ op = true) {r : AV} (h : qV S.P H op e = some r) (hk : Rp S lim ops l (e.put d r) H K) : Rp S lim ops (⟨d, op, ty, pos, af, none⟩ :: l) e H K := by rw [Rp_cons, guardP_free]; exact opP_q hq h hk
theorem R_nil {Q : Ex → St → Prop} {loc loc' : Env} (h : trim e loc = loc') (hk : Q .normal ⟨loc', H⟩) : Rp S lim ops [] e H fun e H => Q .normal ⟨trim e loc, H⟩ := by
  show Q .normal ⟨trim e loc, H⟩
  rw [h]; exact hk
theorem R_call {f : FuncId} {args : Array Operand} {ts : Array TypeId} {vs : List AV} (h : args.toList.map (evO e) = vs) (hk : ACall S lim f vs H fun x H' => Rp S lim ops l (e.put d x) H' K) :
    Rp S lim ops (⟨d, .call ⟨.value (.func f), args, ts⟩, ty, pos, af, none⟩ :: l) e H K := by
  rw [Rp_cons, guardP_free, opP_call, h]; exact hk
theorem R_alloc {t : TypeId} {z : List Value} (hz : (tyOf S.P t).bind (fun ty => ty.zero) = some z) {n : Nat} (hn : H.length = n) {H' : Heap} (hH : H ++ [some (z.map .v)] = H') (hk : Rp S lim ops l (e.put d (.ptr n 0)) H' K) : Rp S lim ops (⟨d, .alloc t, ty, pos, af, none⟩ :: l) e H K := by
  subst hn; subst hH
  rw [Rp_cons, guardP_free, opP_alloc, hz]; exact hk
theorem R_box {t : TypeId} {x : Operand} {c : List AV} (ht : (tyOf S.P t).isSome = true) (hc : cellsOf (evO e x) = some c) {n : Nat} (hn : H.length = n) {H' : Heap} (hH : H ++ [some c] = H') (hk : Rp S lim ops l (e.put d (.ptr n 0)) H' K) : Rp S lim ops (⟨d, .box t x, ty, pos, af, none⟩ :: l) e H K := by
  subst hn; subst hH
  rw [Rp_cons, guardP_free, opP_box, hc]
  cases h : tyOf S.P t with
  | none => rw [h] at ht; cases ht
  | some ty => exact hk
theorem R_store {t : TypeId} {tyy : Ty} {a x : Operand} {b o : Nat} {c : List AV} {k : Blk} (ht : tyOf S.P t = some tyy) (ha : evO e a = .ptr b o) (hc : cellsOf (evO e x) = some c) (hb : hget H b = some k) (hl : lim ≤ b ∧ c.length = tyy.size ∧ o + tyy.size ≤ k.length) {k' : Blk} (hk' : setL k o c = k') {H' : Heap} (hH : hset H b (some k') = H') (hk : Rp S lim ops l (e.put d (.v undef)) H' K) :
    Rp S lim ops (⟨d, .store t a x, ty, pos, af, none⟩ :: l) e H K := by
  subst hk'; subst hH
  rw [Rp_cons, guardP_free, opP_store, ht, optP_some, ha, hc, storeP_ptr, hb, optP_some]
  exact ⟨hl, hk⟩
theorem R_buildSlice {t : TypeId} {n : Nat} {parts : Array (Nat × Operand)} {r : AV} {H' : Heap} (h : effV S.P lim (.buildSlice t n parts) (evO e) H = some (r, H')) (hk : Rp S lim ops l (e.put d r) H' K) : Rp S lim ops (⟨d, .buildSlice t n parts, ty, pos, af, none⟩ :: l) e H K := by
  rw [Rp_cons, guardP_free, opP_buildSlice, h]; exact hk
/-- The bytes of a string, as a slice that is only read. -/
theorem R_bytes {sT dT : TypeId} {x : Operand} {b : ByteArray} {et : TypeId} (hc : convV S.P sT dT (.v (.string b)) = none) (hs : (tyOf S.P sT).isSome = true) (hd : tk S.P dT = some (.slice et)) (he : tk S.P et = some (.int .u8)) (hx : evO e x = .v (.string b)) (hb : b.size ≤ 9223372036854775807)
    (hk : Rp S lim ops l (e.put d (.sl b.size (b.data.toList.map fun c => .v (.int .u8 (c.toNat : Int))))) H K) : Rp S lim ops (⟨d, .convert sT dT x, ty, pos, af, none⟩ :: l) e H K := by
  rw [Rp_cons, guardP_free, opP_bytes _ _ _ _ _ _ _ (by rw [hx]; exact hc)]
  obtain ⟨t0, ht0⟩ := Option.isSome_iff_exists.mp hs
  simp only [effV, hx, ht0, hd, he, if_pos hb, optP]
  exact hk
theorem R_yes {j t : Nat} {want : Bool} {b : Bool} (hj : (ops[j]?).bind (·.dst) = some t) (hb : e.get t = .v (.bool b)) (h : b = want) (hy : Rp S lim ops (⟨d, op, ty, pos, af, none⟩ :: l) e H K) : Rp S lim ops (⟨d, op, ty, pos, af, some (j, want)⟩ :: l) e H K := by
  rw [Rp_cons, guardP_on ops e d op ty pos af j want _ _ hj, hb]
  rw [Rp_cons, guardP_free] at hy
  subst h
  exact ⟨fun _ => hy, fun h => (by cases b <;> cases h)⟩
theorem R_no {j t : Nat} {want : Bool} {b : Bool} (hj : (ops[j]?).bind (·.dst) = some t) (hb : e.get t = .v (.bool b)) (h : b = !want) (hy : Rp S lim ops l (e.put d (.v undef)) H K) : Rp S lim ops (⟨d, op, ty, pos, af, some (j, want)⟩ :: l) e H K := by
  rw [Rp_cons, guardP_on ops e d op ty pos af j want _ _ hj, hb]
  subst h
  exact ⟨fun h => (by cases want <;> cases h), fun _ => hy⟩
theorem R_un {j t : Nat} {want : Bool} (hj : (ops[j]?).bind (·.dst) = some t) (hb : e.get t = .v undef) (hy : Rp S lim ops l (e.put d (.v undef)) H K) : Rp S lim ops (⟨d, op, ty, pos, af, some (j, want)⟩ :: l) e H K := by
  rw [Rp_cons, guardP_on ops e d op ty pos af j want _ _ hj, hb]
  exact hy
end

/-! ### The same where the order is drawn -/
section
variable {ops : Array Oper} {l : List Oper} {e : Env} {H : Heap} {K : Env → Prop} {d : Option Tmp} {op : Op} {ty : TypeId} {pos : String} {af : Array Edge}
theorem Qp_cons (o : Oper) : Qp S ops (o :: l) e H K = guardP ops e o (opQ S o.op e H fun x => Qp S ops l (e.put o.dst x) H K) (Qp S ops l (e.put o.dst (.v undef)) H K) := rfl
theorem opQ_q {K : AV → Prop} (hq : isQ op = true) {r : AV} (h : qV S.P H op e = some r) (hk : K r) : opQ S op e H K := by
  unfold isQ at hq
  split at hq <;> first | (cases hq; done) | skip
  all_goals first
    | (simp only [qV] at h; simp only [opQ, h, optP]; exact hk)
    | (simp only [qV, popV, Option.some.injEq] at h; subst h; exact hk)
theorem Q_q (hq : isQ op = true) {r : AV} (h : qV S.P H op e = some r) (hk : Qp S ops l (e.put d r) H K) : Qp S ops (⟨d, op, ty, pos, af, none⟩ :: l) e H K := by rw [Qp_cons, guardP_free]; exact opQ_q hq h hk
theorem Q_nil (hk : K e) : Qp S ops [] e H K := hk
theorem Q_call {f : FuncId} {args : Array Operand} {ts : Array TypeId} {vs : List AV} (hp : S.own f = false) (h : args.toList.map (evO e) = vs) (hk : ACall S H.length f vs H fun x _ => exacts x = true ∧ Qp S ops l (e.put d x) H K) :
    Qp S ops (⟨d, .call ⟨.value (.func f), args, ts⟩, ty, pos, af, none⟩ :: l) e H K := by
  rw [Qp_cons, guardP_free]
  refine ⟨by simp [Sig.pure, hp], ?_⟩
  simp only [List.append_nil, h]
  exact hk
end

/-! ### Loops and ends -/
def upd (loc : Env) (kv : Env) : Env := loc.map fun p => (p.1, Env.getD kv p.1 p.2)
section
variable {lim : Nat} {dr : List (Nat × Draw)} {loc : Env} {H : Heap} {Q : Ex → St → Prop} {c : Code} {p : List Nat}
/-- A loop: kv is what the slots that change hold at a round's head, J what is known of them and of the memory there, m a number that every round lowers. -/
theorem loop_n (h : at' c p = .loop (at' c (0 :: p))) (J : Nat → Env → Heap → Prop) {m : Nat} {kv : Env} (hJ : J m kv H) (h0 : upd loc kv = loc)
    (round : ∀ m kv H, J m kv H → W S lim dr (at' c (0 :: p)) ⟨upd loc kv, H⟩ (thenQ (fun s' => ∃ m' kv', J m' kv' s'.H ∧ s'.loc = upd loc kv' ∧ m' < m) Q)) : W S lim dr (at' c p) ⟨loc, H⟩ Q := by
  have key : ∀ m kv H, J m kv H → W S lim dr (.loop (at' c (0 :: p))) ⟨upd loc kv, H⟩ Q := by
    intro m
    induction m using Nat.strongRecOn with
    | _ m ih =>
      intro kv H hI
      refine W_loop (W_mono (round m kv H hI) fun e s' h => ?_)
      cases e with
      | normal =>
        obtain ⟨m', kv', h1, h2, h3⟩ := h
        obtain ⟨l', H'⟩ := s'
        have h2' : l' = upd loc kv' := h2
        subst h2'
        exact ih m' h3 kv' H' h1
      | exit id => exact h
      | ret => exact h
  rw [h]
  have := key _ kv H hJ
  rwa [h0] at this
theorem then_x {N : St → Prop} {s : St} {i : Nat} (h : Q (.exit i) s) : thenQ N Q (.exit i) s := h
theorem then_r {N : St → Prop} {s : St} (h : Q .ret s) : thenQ N Q .ret s := h
theorem blk_n {s : St} {i : Nat} (h : Q .normal s) : blockQ i Q .normal s := h
theorem blk_r {s : St} {i : Nat} (h : Q .ret s) : blockQ i Q .ret s := h
theorem blk_x {s : St} {i : Nat} (h : Q .normal s) : blockQ i Q (.exit i) s := by simp only [blockQ, if_true]; exact h
theorem Rp_split {ops : Array Oper} {l : List Oper} {e : Env} {K : Env → Heap → Prop} {t : Nat} {b : Bool} (h1 : b = true → Rp S lim ops l ((t, .v (.bool true)) :: e) H K) (h2 : b = false → Rp S lim ops l ((t, .v (.bool false)) :: e) H K) :
    Rp S lim ops l (Env.put e (some t) (.v (.bool b))) H K := by
  cases b with
  | true => exact h1 rfl
  | false => exact h2 rfl
theorem rg {id : Nat} {ops : Array Oper} (h : at' c p = .region id ops false) (hw : Rp S lim ops ops.toList loc H fun e H => Q .normal ⟨trim e loc, H⟩) : W S lim dr (at' c p) ⟨loc, H⟩ Q := at_region h hw
theorem rd {id n : Nat} {ops : Array Oper} (h : at' c p = .region id ops true) (hd : dr.lookup id = some (.quiet n))
    (hw : Qp S ops (ops.toList.take n) loc H fun e => Rp S lim ops (ops.toList.drop n) e H fun e H => Q .normal ⟨trim e loc, H⟩) : W S lim dr (at' c p) ⟨loc, H⟩ Q := at_draw h hd hw
theorem cd {o : Operand} {t : Bool} (h : at' c p = .cond o (at' c (0 :: p)) (at' c (1 :: p))) (hc : evO loc o = .v (.bool t)) (h1 : t = true → W S lim dr (at' c (0 :: p)) ⟨loc, H⟩ Q) (h2 : t = false → W S lim dr (at' c (1 :: p)) ⟨loc, H⟩ Q) : W S lim dr (at' c p) ⟨loc, H⟩ Q := at_cond h hc h1 h2
theorem cd_t {o : Operand} (h : at' c p = .cond o (at' c (0 :: p)) (at' c (1 :: p))) (hc : evO loc o = .v (.bool true)) (h1 : W S lim dr (at' c (0 :: p)) ⟨loc, H⟩ Q) : W S lim dr (at' c p) ⟨loc, H⟩ Q := at_cond h hc (fun _ => h1) (fun h => nomatch h)
theorem cd_f {o : Operand} (h : at' c p = .cond o (at' c (0 :: p)) (at' c (1 :: p))) (hc : evO loc o = .v (.bool false)) (h1 : W S lim dr (at' c (1 :: p)) ⟨loc, H⟩ Q) : W S lim dr (at' c p) ⟨loc, H⟩ Q := at_cond h hc (fun h => nomatch h) (fun _ => h1)
theorem then_n {N : St → Prop} {s : St} (h : N s) : thenQ N Q .normal s := h
/-- The state spelled out. -/
theorem W_to {loc' : Env} (h : loc = loc') (hw : W S lim dr (at' c p) ⟨loc', H⟩ Q) : W S lim dr (at' c p) ⟨loc, H⟩ Q := by subst h; exact hw
/-- Ways that meet again: what holds of the state behind the left part. -/
theorem seq_cut {s : St} (h : at' c p = .seq (at' c (0 :: p)) (at' c (1 :: p))) (M : St → Prop) (h1 : W S lim dr (at' c (0 :: p)) s (thenQ M Q)) (h2 : ∀ s', M s' → W S lim dr (at' c (1 :: p)) s' Q) : W S lim dr (at' c p) s Q := by
  refine at_seq h (W_mono h1 fun e s' hm => ?_)
  cases e with
  | normal => exact h2 s' hm
  | exit id => exact hm
  | ret => exact hm
theorem fin_pure {fa : FnA} {H0 : Heap} {K : AV → Heap → Prop} {s : St} {rs : List ResultVar} (hrs : fa.fn.results.toList = rs) {l : List AV} (hl : resAll S.P s.loc s.H rs = some l) {v : AV} (hv : frz s.H H0.length 8 (oneOr l) = v) (hk : K v H0) : retP S false fa H0 K .ret s := by
  rw [ret_ret, hrs, hl, optP_some]
  simp only [Bool.false_eq_true, if_false]
  rw [hv]; exact hk
theorem ACall_eq {f : FuncId} {vs : List AV} {K : AV → Heap → Prop} {v : AV} (h : ACall S lim f vs H fun r H' => r = v ∧ H' = H) (hk : K v H) : ACall S lim f vs H K :=
  ACall_mono h fun r H' ⟨h1, h2⟩ => by rw [h1, h2]; exact hk
end
end
end Go.Am
end
section
namespace Go.Am
open Go
attribute [go_sem] get_cons get_nil getD_cons getD_nil put_some put_none ev_tmp ev_int ev_bool ev_str ev_nil ev_func ev_agg max2_int min2_int bin_add bin_sub bin_mul bin_eql bin_neq bin_lss bin_leq bin_gtr bin_geq un_not un_neg q_load q_move q_assign q_binOp q_unOp q_pick q_build q_nilCheck q_convert q_makeFunc q_slice q_fieldAddr q_field q_indexAddr q_index q_extract q_len q_max q_min hget_app hset_app frz_v frz_tup frz_agg frz_sl res_nil res_tmp res_cell one_one one_two cells_sl cells_own cells_ptr cells_clo cells_agg st_v st_int st_bool st_string st_slice st_sl st_own st_ptr st_clo
/-- What a list holds at a place. -/
def gt {α : Type} [Inhabited α] (l : List α) (i : Nat) : α := l.getD i default
theorem all_step {P : Nat → Prop} {u : Nat} (h : ∀ i, i < u → P i) (hu : P u) : ∀ i, i < u + 1 → P i := by
  intro i hi
  by_cases h1 : i < u
  · exact h i h1
  · have : i = u := by omega
    subst this; exact hu
section
variable (P : Program)
theorem bin_quo' (t : TypeId) (k : IntKind) (a b : Int) (h : 0 ≤ a) (hb : 0 < b) : binV P .quo t (.v (.int k a)) (.v (.int k b)) = some (.v (.int k (k.wrap (a / b)))) := by
  rw [bin_quo, if_neg (by omega), Int.tdiv_eq_ediv_of_nonneg h]
theorem bin_rem' (t : TypeId) (k : IntKind) (a b : Int) (h : 0 ≤ a) (hb : 0 < b) : binV P .rem t (.v (.int k a)) (.v (.int k b)) = some (.v (.int k (a % b))) := by
  rw [bin_rem, if_neg (by omega), Int.tmod_eq_emod_of_nonneg h]
theorem wr_i64 (n : Int) (h : -9223372036854775808 ≤ n) (h' : n ≤ 9223372036854775807) : IntKind.i64.wrap n = n := wrap_i64 n ⟨h, h'⟩
theorem wr_u64 (n : Int) (h : 0 ≤ n) (h' : n ≤ 18446744073709551615) : IntKind.u64.wrap n = n := wrap_u64 n ⟨h, h'⟩
theorem nat_get {α : Type} [Inhabited α] (f : α → AV) (l : List α) (i : Nat) (h : i < l.length) : (l.map f)[i]? = some (f (gt l i)) := by
  simp [gt, List.getD_eq_getElem?_getD, h]
theorem hget_low (H X : Heap) (b : Nat) (h : b < H.length) : hget (H ++ X) b = hget H b := by simp [hget, List.getElem?_append_left h]
theorem hset_low (H X : Heap) (b : Nat) (x : Option Blk) (h : b < H.length) : hset (H ++ X) b x = hset H b x ++ X := by simp [hset, List.set_append_left _ _ h]
theorem setL_one (l : List AV) (o : Nat) (x : AV) : setL l o [x] = l.set o x := rfl
theorem take1 {α : Type} (a : α) (l : List α) : (a :: l).take 1 = [a] := rfl
theorem toNat_nat (u : Nat) : Int.toNat (u : Int) = u := rfl
theorem toNat_succ (u : Nat) : Int.toNat ((u : Int) + 1) = u + 1 := rfl
theorem toNat_zero : Int.toNat 0 = 0 := rfl
theorem opt_one {α β : Type} (x : α) (f : α → β) : Option.map f (some x) = some (f x) := rfl
theorem cells_i (k : IntKind) (n : Int) : cellsOf (.v (.int k n)) = some [.v (.int k n)] := rfl
theorem cells_b (b : Bool) : cellsOf (.v (.bool b)) = some [.v (.bool b)] := rfl
theorem cells_n : cellsOf (.v (.slice none 0 0)) = some [.v (.slice none 0 0)] := rfl
end
attribute [go_sem] bin_quo' bin_rem' wr_i64 wr_u64 toNat_nat toNat_succ toNat_zero Nat.mul_one Nat.zero_add Nat.add_zero Nat.one_mul opt_one cells_i cells_b cells_n take1 Option.bind_some Bool.not_true Bool.not_false nat_get hget_low hset_low setL_one List.set_cons_zero List.set_cons_succ List.getElem?_cons_zero List.getElem?_cons_succ List.length_map List.all_cons List.all_nil Bool.and_true Bool.and_self List.map_cons List.map_nil List.drop_zero List.length_cons List.length_nil
end Go.Am
namespace Go.Am
open Go
/-! ### The steps with their side goals filled in -/
section
variable {S : Sig} {lim : Nat} {ops : Array Oper} {l : List Oper} {e : Env} {H : Heap} {d : Option Tmp} {op : Op} {ty : TypeId} {pos : String} {af : Array Edge}
theorem Rq {K : Env → Heap → Prop} {r : AV} (hk : Rp S lim ops l (e.put d r) H K) (hq : isQ op = true := by rfl)
    (h : qV S.P H op e = some r := by simp (disch := first | omega | (simp only [List.length_map, List.length_append, List.length_set, List.length_cons, List.length_nil, List.length_take, List.length_drop]; omega)) only [go_sem, ↓reduceIte, Nat.reduceEqDiff, reduceCtorEq] <;> rfl) :
    Rp S lim ops (⟨d, op, ty, pos, af, none⟩ :: l) e H K := R_q hq h hk
theorem Qq {K : Env → Prop} {r : AV} (hk : Qp S ops l (e.put d r) H K) (hq : isQ op = true := by rfl)
    (h : qV S.P H op e = some r := by simp (disch := first | omega | (simp only [List.length_map, List.length_append, List.length_set, List.length_cons, List.length_nil, List.length_take, List.length_drop]; omega)) only [go_sem, ↓reduceIte, Nat.reduceEqDiff, reduceCtorEq] <;> rfl) :
    Qp S ops (⟨d, op, ty, pos, af, none⟩ :: l) e H K := Q_q hq h hk
theorem Ry {K : Env → Heap → Prop} {j t : Nat} {want : Bool} (hy : Rp S lim ops (⟨d, op, ty, pos, af, none⟩ :: l) e H K) (hj : (ops[j]?).bind (·.dst) = some t := by rfl)
    (hb : e.get t = .v (.bool want) := by simp only [go_sem, ↓reduceIte, Nat.reduceEqDiff]) : Rp S lim ops (⟨d, op, ty, pos, af, some (j, want)⟩ :: l) e H K := R_yes hj hb rfl hy
theorem Rn {K : Env → Heap → Prop} {j t : Nat} {want : Bool} (hy : Rp S lim ops l (e.put d (.v undef)) H K) (hj : (ops[j]?).bind (·.dst) = some t := by rfl)
    (hb : e.get t = .v (.bool (!want)) := by simp only [go_sem, ↓reduceIte, Nat.reduceEqDiff, Bool.not_true, Bool.not_false]) : Rp S lim ops (⟨d, op, ty, pos, af, some (j, want)⟩ :: l) e H K := R_no hj hb rfl hy
theorem Ru {K : Env → Heap → Prop} {j t : Nat} {want : Bool} (hy : Rp S lim ops l (e.put d (.v undef)) H K) (hj : (ops[j]?).bind (·.dst) = some t := by rfl)
    (hb : e.get t = .v undef := by simp only [go_sem, ↓reduceIte, Nat.reduceEqDiff]) : Rp S lim ops (⟨d, op, ty, pos, af, some (j, want)⟩ :: l) e H K := R_un hj hb hy
theorem Rcall {K : Env → Heap → Prop} {f : FuncId} {args : Array Operand} {ts : Array TypeId} {vs : List AV} (hk : ACall S lim f vs H fun x H' => Rp S lim ops l (e.put d x) H' K)
    (h : args.toList.map (evO e) = vs := by simp only [List.map_cons, List.map_nil, go_sem, ↓reduceIte, Nat.reduceEqDiff]; rfl) :
    Rp S lim ops (⟨d, .call ⟨.value (.func f), args, ts⟩, ty, pos, af, none⟩ :: l) e H K := R_call h hk
theorem Qcall {K : Env → Prop} {f : FuncId} {args : Array Operand} {ts : Array TypeId} {vs : List AV} (hk : ACall S H.length f vs H fun x _ => exacts x = true ∧ Qp S ops l (e.put d x) H K) (hp : S.own f = false := by rfl)
    (h : args.toList.map (evO e) = vs := by simp only [List.map_cons, List.map_nil, go_sem, ↓reduceIte, Nat.reduceEqDiff]; rfl) :
    Qp S ops (⟨d, .call ⟨.value (.func f), args, ts⟩, ty, pos, af, none⟩ :: l) e H K := Q_call hp h hk
variable {dr : List (Nat × Draw)} {loc : Env} {Q : Ex → St → Prop} {c : Code} {p : List Nat}
theorem cdd {o : Operand} {t : Bool} (h1 : t = true → W S lim dr (at' c (0 :: p)) ⟨loc, H⟩ Q) (h2 : t = false → W S lim dr (at' c (1 :: p)) ⟨loc, H⟩ Q) (h : at' c p = .cond o (at' c (0 :: p)) (at' c (1 :: p)) := by rfl)
    (hc : evO loc o = .v (.bool t) := by simp only [go_sem, ↓reduceIte, Nat.reduceEqDiff]; rfl) : W S lim dr (at' c p) ⟨loc, H⟩ Q := cd h hc h1 h2
theorem cdt {o : Operand} (h1 : W S lim dr (at' c (0 :: p)) ⟨loc, H⟩ Q) (h : at' c p = .cond o (at' c (0 :: p)) (at' c (1 :: p)) := by rfl) (hc : evO loc o = .v (.bool true) := by simp only [go_sem, ↓reduceIte, Nat.reduceEqDiff]) : W S lim dr (at' c p) ⟨loc, H⟩ Q := cd_t h hc h1
theorem cdf {o : Operand} (h1 : W S lim dr (at' c (1 :: p)) ⟨loc, H⟩ Q) (h : at' c p = .cond o (at' c (0 :: p)) (at' c (1 :: p)) := by rfl) (hc : evO loc o = .v (.bool false) := by simp only [go_sem, ↓reduceIte, Nat.reduceEqDiff]) : W S lim dr (at' c p) ⟨loc, H⟩ Q := cd_f h hc h1
theorem fpure {fa : FnA} {H0 : Heap} {K : AV → Heap → Prop} {s : St} {l : List AV} {v : AV} (hk : K v H0) (hl : resAll S.P s.loc s.H fa.fn.results.toList = some l := by simp only [go_sem, ↓reduceIte, Nat.reduceEqDiff]; rfl)
    (hv : frz s.H H0.length 8 (oneOr l) = v := by simp only [go_sem, ↓reduceIte, Nat.reduceEqDiff]; rfl) : retP S false fa H0 K .ret s := fin_pure rfl hl hv hk
end
end Go.Am
end
section
namespace Go.Proofs.YtfnapmdedmbdbaaDoor
open Go Go.Am

theorem ldp2 (H : Heap) (b o : Nat) : loadV Tryd.prog H 2 (.ptr b o) = (hget H b).bind fun k => k[o]? := by rw [load_ptr _ H 2 _ ty2 b o]; rfl
theorem ldp3 (H : Heap) (b o : Nat) : loadV Tryd.prog H 3 (.ptr b o) = (hget H b).bind fun k => k[o]? := by rw [load_ptr _ H 3 _ ty3 b o]; rfl
theorem bne4 (a b : Bool) : binV Tryd.prog .neq 4 (.v (.bool a)) (.v (.bool b)) = some (.v (.bool (!(a == b)))) := by simp only [binV, tk4]
theorem lde5 (H : Heap) (l : List AV) (o : Nat) : loadV Tryd.prog H 5 (.ele l o) = l[o]? := by rw [load_ele _ H 5 _ ty5 l o]; rfl
theorem lde9 (H : Heap) (l : List AV) (o : Nat) : loadV Tryd.prog H 9 (.ele l o) = l[o]? := by rw [load_ele _ H 9 _ ty9 l o]; rfl
theorem lnt9 (s : ByteArray) : lenV (tyOf Tryd.prog 9) (.v (.string s)) = some (.v (.int .i64 s.size)) := by rw [ty9]; exact len_str _ _ rfl
theorem ldp23 (H : Heap) (b o : Nat) : loadV Tryd.prog H 23 (.ptr b o) = (hget H b).bind fun k => partL { size := 10, bytes := 80, agg := true, k := .struct [(0, 3), (1, 3), (2, 3), (3, 3), (4, 3), (5, 3), (6, 3), (7, 3), (8, 3), (9, 3)], zero := some [.int .i64 0, .int .i64 0, .int .i64 0, .int .i64 0, .int .i64 0, .int .i64 0, .int .i64 0, .int .i64 0, .int .i64 0, .int .i64 0] } k o := load_ptr _ H 23 _ ty23 b o
theorem lde23 (H : Heap) (l : List AV) (o : Nat) : loadV Tryd.prog H 23 (.ele l o) = partL { size := 10, bytes := 80, agg := true, k := .struct [(0, 3), (1, 3), (2, 3), (3, 3), (4, 3), (5, 3), (6, 3), (7, 3), (8, 3), (9, 3)], zero := some [.int .i64 0, .int .i64 0, .int .i64 0, .int .i64 0, .int .i64 0, .int .i64 0, .int .i64 0, .int .i64 0, .int .i64 0, .int .i64 0] } l o := load_ele _ H 23 _ ty23 l o
theorem pl23 (l : List AV) (o : Nat) (h : o + 10 ≤ l.length) : partL { size := 10, bytes := 80, agg := true, k := .struct [(0, 3), (1, 3), (2, 3), (3, 3), (4, 3), (5, 3), (6, 3), (7, 3), (8, 3), (9, 3)], zero := some [.int .i64 0, .int .i64 0, .int .i64 0, .int .i64 0, .int .i64 0, .int .i64 0, .int .i64 0, .int .i64 0, .int .i64 0, .int .i64 0] } l o = some (.agg ((l.drop o).take 10)) := by rw [partL_agg _ _ _ rfl, if_pos h]
theorem zr23 : (tyOf Tryd.prog 23).bind (fun ty => ty.zero) = some [.int .i64 0, .int .i64 0, .int .i64 0, .int .i64 0, .int .i64 0, .int .i64 0, .int .i64 0, .int .i64 0, .int .i64 0, .int .i64 0] := by rw [ty23]; rfl
theorem fap23_0 (b o : Nat) : fieldAddrV Tryd.prog 23 (.ptr b o) 0 = some (.ptr b (o)) := fa_ptr _ 23 _ tk23 b o 0 0 3 _ rfl ty3 (by decide)
theorem fap23_1 (b o : Nat) : fieldAddrV Tryd.prog 23 (.ptr b o) 1 = some (.ptr b (o + 1)) := fa_ptr _ 23 _ tk23 b o 1 1 3 _ rfl ty3 (by decide)
theorem fap23_2 (b o : Nat) : fieldAddrV Tryd.prog 23 (.ptr b o) 2 = some (.ptr b (o + 2)) := fa_ptr _ 23 _ tk23 b o 2 2 3 _ rfl ty3 (by decide)
theorem fap23_3 (b o : Nat) : fieldAddrV Tryd.prog 23 (.ptr b o) 3 = some (.ptr b (o + 3)) := fa_ptr _ 23 _ tk23 b o 3 3 3 _ rfl ty3 (by decide)
theorem fap23_4 (b o : Nat) : fieldAddrV Tryd.prog 23 (.ptr b o) 4 = some (.ptr b (o + 4)) := fa_ptr _ 23 _ tk23 b o 4 4 3 _ rfl ty3 (by decide)
theorem fap23_5 (b o : Nat) : fieldAddrV Tryd.prog 23 (.ptr b o) 5 = some (.ptr b (o + 5)) := fa_ptr _ 23 _ tk23 b o 5 5 3 _ rfl ty3 (by decide)
theorem fap23_6 (b o : Nat) : fieldAddrV Tryd.prog 23 (.ptr b o) 6 = some (.ptr b (o + 6)) := fa_ptr _ 23 _ tk23 b o 6 6 3 _ rfl ty3 (by decide)
theorem fap23_7 (b o : Nat) : fieldAddrV Tryd.prog 23 (.ptr b o) 7 = some (.ptr b (o + 7)) := fa_ptr _ 23 _ tk23 b o 7 7 3 _ rfl ty3 (by decide)
theorem fap23_8 (b o : Nat) : fieldAddrV Tryd.prog 23 (.ptr b o) 8 = some (.ptr b (o + 8)) := fa_ptr _ 23 _ tk23 b o 8 8 3 _ rfl ty3 (by decide)
theorem fap23_9 (b o : Nat) : fieldAddrV Tryd.prog 23 (.ptr b o) 9 = some (.ptr b (o + 9)) := fa_ptr _ 23 _ tk23 b o 9 9 3 _ rfl ty3 (by decide)
theorem ias27 (n : Nat) (l : List AV) (k : IntKind) (i : Int) (h0 : 0 ≤ i) (h1 : i < n) : indexAddrV Tryd.prog 27 (.sl n l) (.v (.int k i)) = some (.ele l (i.toNat * 10)) := by rw [ia_sl _ 27 23 _ tk27 ty23, if_pos ⟨h0, h1⟩]
theorem lns27 (n : Nat) (l : List AV) : lenV (tyOf Tryd.prog 27) (.sl n l) = some (.v (.int .i64 n)) := by rw [ty27]; exact len_sl _ 23 _ _ rfl
theorem ias43 (n : Nat) (l : List AV) (k : IntKind) (i : Int) (h0 : 0 ≤ i) (h1 : i < n) : indexAddrV Tryd.prog 43 (.sl n l) (.v (.int k i)) = some (.ele l (i.toNat)) := by rw [ia_sl _ 43 9 _ tk43 ty9, if_pos ⟨h0, h1⟩]; rw [Nat.mul_one]
theorem lns43 (n : Nat) (l : List AV) : lenV (tyOf Tryd.prog 43) (.sl n l) = some (.v (.int .i64 n)) := by rw [ty43]; exact len_sl _ 9 _ _ rfl
theorem ldp49 (H : Heap) (b o : Nat) : loadV Tryd.prog H 49 (.ptr b o) = (hget H b).bind fun k => k[o]? := by rw [load_ptr _ H 49 _ ty49 b o]; rfl
theorem ldp51 (H : Heap) (b o : Nat) : loadV Tryd.prog H 51 (.ptr b o) = (hget H b).bind fun k => partL { size := 2, bytes := 16, agg := true, k := .struct [(0, 2), (1, 49)], zero := some [.int .i64 0, .int .u64 0] } k o := load_ptr _ H 51 _ ty51 b o
theorem zr51 : (tyOf Tryd.prog 51).bind (fun ty => ty.zero) = some [.int .i64 0, .int .u64 0] := by rw [ty51]; rfl
theorem fap51_0 (b o : Nat) : fieldAddrV Tryd.prog 51 (.ptr b o) 0 = some (.ptr b (o)) := fa_ptr _ 51 _ tk51 b o 0 0 2 _ rfl ty2 (by decide)
theorem fap51_1 (b o : Nat) : fieldAddrV Tryd.prog 51 (.ptr b o) 1 = some (.ptr b (o + 1)) := fa_ptr _ 51 _ tk51 b o 1 1 49 _ rfl ty49 (by decide)
theorem ias66 (n : Nat) (l : List AV) (k : IntKind) (i : Int) (h0 : 0 ≤ i) (h1 : i < n) : indexAddrV Tryd.prog 66 (.sl n l) (.v (.int k i)) = some (.ele l (i.toNat)) := by rw [ia_sl _ 66 5 _ tk66 ty5, if_pos ⟨h0, h1⟩]; rw [Nat.mul_one]
theorem lns66 (n : Nat) (l : List AV) : lenV (tyOf Tryd.prog 66) (.sl n l) = some (.v (.int .i64 n)) := by rw [ty66]; exact len_sl _ 5 _ _ rfl
theorem iao76 (z b o n : Nat) (k : IntKind) (i : Int) (h0 : 0 ≤ i) (h1 : i < n) : indexAddrV Tryd.prog 76 (.own z b o n) (.v (.int k i)) = some (.ptr b (o + i.toNat)) := by rw [ia_own _ 76 3 _ tk76 ty3, if_pos ⟨h0, h1⟩]; rw [Nat.mul_one]
theorem lno76 (z b o n : Nat) : lenV (tyOf Tryd.prog 76) (.own z b o n) = some (.v (.int .i64 n)) := by rw [ty76]; exact len_own _ 3 _ _ _ _ rfl
attribute [go_sem] ldp2 ldp3 bne4 lde5 lde9 lnt9 ldp23 lde23 pl23 zr23 fap23_0 fap23_1 fap23_2 fap23_3 fap23_4 fap23_5 fap23_6 fap23_7 fap23_8 fap23_9 ias27 lns27 ias43 lns43 ldp49 ldp51 zr51 fap51_0 fap51_1 ias66 lns66 iao76 lno76
end Go.Proofs.YtfnapmdedmbdbaaDoor
end
section
set_option linter.unusedVariables false
namespace Go.Proofs.YtfnapmdedmbdbaaDoor
open Go Go.Am
abbrev u6 (n : Int) : AV := .v (.int .u64 n)
/-- The wide integer with a value. -/
abbrev wv (x : Int) : AV := .agg [AV.i (x / 18446744073709551616), u6 (x % 18446744073709551616)]
def Fw (x : Int) : Prop := -170141183460469231731687303715884105728 ≤ x ∧ x ≤ 170141183460469231731687303715884105727
instance (x : Int) : Decidable (Fw x) := inferInstanceAs (Decidable (_ ∧ _))
def fS (n : Int) : Int × Bool := if Fw n then (n, true) else (0, false)
theorem fS_y {n : Int} (h : Fw n) : fS n = (n, true) := by rw [fS, if_pos h]
theorem fS_n {n : Int} (h : ¬ Fw n) : fS n = (0, false) := by rw [fS, if_neg h]
def ab (n : Int) : Int := if n < 0 then -n else n
theorem ab_neg {n : Int} (h : n < 0) : ab n = -n := by rw [ab, if_pos h]
theorem ab_pos {n : Int} (h : ¬ n < 0) : ab n = n := by rw [ab, if_neg h]
theorem ab_rng (n : Int) : 0 ≤ ab n := by unfold ab; split <;> omega
theorem mul_pos' {a b : Int} (ha : 0 ≤ a) (hb : 0 ≤ b) : 0 ≤ a * b := Int.mul_nonneg ha hb
theorem mul_le' {a b c d : Int} (ha : 0 ≤ a) (hc : a ≤ c) (hb : 0 ≤ b) (hd : b ≤ d) : a * b ≤ c * d := Int.mul_le_mul hc hd hb (by omega)
/-- A product, by the sizes and the signs of its factors. -/
theorem ab_mul (a b : Int) : (if (decide (a < 0) != decide (b < 0)) = true then -(ab a * ab b) else ab a * ab b) = a * b := by
  unfold ab
  by_cases h1 : a < 0 <;> by_cases h2 : b < 0 <;> simp [h1, h2] <;> grind
def cmpS (x y : Int) : Int := if x < y then -1 else if x = y then 0 else 1
def ftS (x : Int) : Int × Bool := if -9223372036854775808 ≤ x ∧ x ≤ 9223372036854775807 then (x, true) else (0, false)
def sg (neg : Bool) (m : Int) : Int := if neg = true then -m else m
theorem sg_t {neg : Bool} (h : neg = true) (m : Int) : sg neg m = -m := by rw [sg, if_pos h]
theorem sg_f {neg : Bool} (h : neg = false) (m : Int) : sg neg m = m := by rw [sg, h]; rfl
theorem tupW {a b n : Int} {p q : Bool} (h1 : a = n / 18446744073709551616) (h2 : b = n % 18446744073709551616) (hp : p = q) : AV.tup [AV.agg [AV.i a, u6 b], .v (.bool p)] = AV.tup [wv n, .v (.bool q)] := by rw [h1, h2, hp]
theorem tup2 {a c : Int} {p q : Bool} (h1 : a = c) (hp : p = q) : AV.tup [u6 a, .v (.bool p)] = AV.tup [u6 c, .v (.bool q)] := by rw [h1, hp]
theorem ab_le {a : Int} (h : -9223372036854775808 ≤ a ∧ a ≤ 9223372036854775807) : ab a ≤ 9223372036854775808 := by unfold ab; split <;> omega
theorem ab_fit {a b : Int} (ha : -9223372036854775808 ≤ a ∧ a ≤ 9223372036854775807) (hb : -9223372036854775808 ≤ b ∧ b ≤ 9223372036854775807) : Fw (a * b) := by
  have h1 := mul_le' (ab_rng a) (ab_le ha) (ab_rng b) (ab_le hb)
  have h2 := mul_pos' (ab_rng a) (ab_rng b)
  have h3 := ab_mul a b
  unfold Fw
  split at h3 <;> omega
/-! ### Operations -/
theorem wrap_u (n : Int) : IntKind.u64.wrap n = n % 18446744073709551616 := by simp [IntKind.wrap, IntKind.bits, IntKind.signed]
theorem cv2_22 (n : Int) : convV Tryd.prog 2 49 (.v (.int .i64 n)) = some (.v (.int .u64 (n % 18446744073709551616))) := by simp only [convV, ty2, tk49, wrap_u]
theorem cv22_2 (n : Int) : convV Tryd.prog 49 2 (.v (.int .u64 n)) = some (.v (.int .i64 ((n + 9223372036854775808) % 18446744073709551616 - 9223372036854775808))) := by
  simp only [convV, ty49, tk2]
  rw [IntKind.wrap_i64]
theorem un_xor (n : Int) (h0 : 0 ≤ n) (h1 : n ≤ 18446744073709551615) : unV .xor (.v (.int .u64 n)) = some (.v (.int .u64 (18446744073709551615 - n))) := by
  obtain ⟨m, rfl⟩ : ∃ m : Nat, n = (m : Int) := ⟨n.toNat, by omega⟩
  have e0 : IntKind.u64.max = 18446744073709551615 := rfl
  have es : IntKind.u64.signed = false := rfl
  simp only [unV, intBin, es, e0, Option.map_some, Bool.false_eq_true, if_false]
  congr 4
  have hb : IntKind.u64.bits = 64 := rfl
  rw [hb]
  have h2 : (BitVec.ofInt 64 (18446744073709551615 : Int) ^^^ BitVec.ofInt 64 (m : Int)).toNat = 18446744073709551615 - m := by
    have e1 : BitVec.ofInt 64 (18446744073709551615 : Int) = BitVec.allOnes 64 := by decide
    rw [e1, BitVec.allOnes_xor, BitVec.toNat_not, BitVec.toNat_ofInt]
    omega
  rw [h2, wrap_u]
  omega
theorem eqw (a b c d : Int) : binV Tryd.prog .eql 51 (.agg [AV.i a, u6 b]) (.agg [AV.i c, u6 d]) = some (.v (.bool (a == c && b == d))) := by
  simp [binV, aggEq, eqOk51, tk51, fieldsEq, scalEq, kOf, ty2, ty49]
  cases (a == c) <;> cases (b == d) <;> rfl
set_option maxRecDepth 20000 in
theorem bld0 : buildV Tryd.prog 51 [] = some (.agg [AV.i 0, u6 0]) := by simp only [buildV, ty51]; rfl
theorem bld1 (a b : Int) : buildV Tryd.prog 51 [(0, AV.i a), (1, u6 b)] = some (.agg [AV.i a, u6 b]) := by
  simp only [buildV, ty51, places, ty2, ty49]; rfl
theorem take2 (x y : AV) : List.take 2 [x, y] = [x, y] := rfl
theorem sL2 (x y c d : AV) : setL [x, y] 0 [c, d] = [c, d] := rfl
theorem sL0 (x y c : AV) : setL [x, y] 0 [c] = [c, y] := rfl
theorem sL1 (x y c : AV) : setL [x, y] 1 [c] = [x, c] := rfl
attribute [go_sem] sL2 sL0 sL1 wrap_u cv2_22 cv22_2 un_xor eqw bld0 bld1 take2
end Go.Proofs.YtfnapmdedmbdbaaDoor
end
section
set_option linter.unusedVariables false
set_option linter.unusedSimpArgs false
namespace Go.Proofs.YtfnapmdedmbdbaaDoor
open Go Go.Am
structure St where
  (tm pl wn sh ls pt rf bf ra ba : Int)
deriving DecidableEq
def inS (n : Int) : Prop := 0 ≤ n ∧ n ≤ 1048576
instance (n : Int) : Decidable (inS n) := by unfold inS; exact inferInstance
def okS (s : St) : Prop := inS s.rf ∧ inS s.bf ∧ inS s.ra ∧ inS s.ba
instance (s : St) : Decidable (okS s) := by unfold okS inS; exact inferInstance
def one (n : Int) : Int := if n = 0 then 1 else n
def nil0 (n m : Int) : Int := if n = 0 then 0 else m
theorem nil0_y {n m : Int} (h : n = 0) : nil0 n m = 0 := if_pos h
theorem nil0_n {n m : Int} (h : ¬ n = 0) : nil0 n m = m := if_neg h
theorem one_y {n : Int} (h : n = 0) : one n = 1 := if_pos h
theorem one_n {n : Int} (h : ¬ n = 0) : one n = n := if_neg h
def rxn (s : St) : Int := nil0 s.bf s.rf * one s.ba - nil0 s.ba s.ra * one s.bf
def rxd (s : St) : Int := one s.bf * one s.ba
theorem one_rng {n : Int} (h : inS n) : 1 ≤ one n ∧ one n ≤ 1048576 := by unfold inS at h; unfold one; split <;> omega
theorem nil0_rng {n m : Int} (h : inS m) : 0 ≤ nil0 n m ∧ nil0 n m ≤ 1048576 := by unfold inS at h; unfold nil0; split <;> omega
theorem mul_rng {a b : Int} (ha : 0 ≤ a ∧ a ≤ 1048576) (hb : 0 ≤ b ∧ b ≤ 1048576) : 0 ≤ a * b ∧ a * b ≤ 1099511627776 :=
  ⟨Int.mul_nonneg ha.1 hb.1, by have := Int.mul_le_mul ha.2 hb.2 hb.1 (by omega : (0 : Int) ≤ 1048576); omega⟩
theorem rxd_rng {s : St} (h : okS s) : 1 ≤ rxd s ∧ rxd s ≤ 1099511627776 := by
  obtain ⟨h1, h2, h3, h4⟩ := h
  have a := one_rng h2
  have b := one_rng h4
  have c := mul_rng (a := one s.bf) (b := one s.ba) (by omega) (by omega)
  have d : 0 < one s.bf * one s.ba := Int.mul_pos (by omega) (by omega)
  unfold rxd
  omega
theorem rxn_rng {s : St} (h : okS s) : -1099511627776 ≤ rxn s ∧ rxn s ≤ 1099511627776 := by
  obtain ⟨h1, h2, h3, h4⟩ := h
  have a := one_rng h2
  have b := one_rng h4
  have c := mul_rng (a := nil0 s.bf s.rf) (b := one s.ba) (nil0_rng h1) (by omega)
  have d := mul_rng (a := nil0 s.ba s.ra) (b := one s.bf) (nil0_rng h3) (by omega)
  unfold rxn
  omega
def crS (a b : St) : Int := if okS a ∧ okS b then cmpS (rxn a * rxd b) (rxn b * rxd a) else 0
theorem cmpS_anti (x y : Int) : cmpS y x = -cmpS x y := by
  unfold cmpS
  split <;> split <;> first | omega | (split <;> omega)
theorem crS_anti (a b : St) : crS b a = -crS a b := by
  unfold crS
  by_cases h : okS a ∧ okS b
  · rw [if_pos h, if_pos ⟨h.2, h.1⟩, cmpS_anti]
  · rw [if_neg h, if_neg fun h1 => h ⟨h1.2, h1.1⟩]; rfl
def bf9 (p : Prop) [Decidable p] : Int := if p then -1 else 1
def cmS (a b : St) : Int :=
  if a.pt ≠ b.pt then bf9 (a.pt > b.pt) else if a.wn ≠ b.wn then bf9 (a.wn > b.wn) else if crS a b ≠ 0 then -crS a b else if a.tm ≠ b.tm then bf9 (a.tm < b.tm) else 0
theorem cmS_anti (a b : St) : cmS b a = -cmS a b := by
  have h := crS_anti a b
  unfold cmS bf9
  by_cases h1 : a.pt = b.pt
  · by_cases h2 : a.wn = b.wn
    · by_cases h3 : crS a b = 0
      · have h4 : crS b a = 0 := by omega
        by_cases h5 : a.tm = b.tm
        · simp [h1, h2, h3, h4, h5]
        · have : ¬ b.tm = a.tm := fun e => h5 e.symm
          simp only [h1, h2, h3, h4, ne_eq, not_true_eq_false, if_false, h5, this, not_false_eq_true, if_true]
          split <;> split <;> omega
      · have h4 : ¬ crS b a = 0 := by omega
        simp only [h1, h2, h3, h4, ne_eq, not_true_eq_false, if_false, not_false_eq_true, if_true]
        omega
    · have : ¬ b.wn = a.wn := fun e => h2 e.symm
      simp only [h1, h2, this, ne_eq, not_true_eq_false, if_false, not_false_eq_true, if_true]
      split <;> split <;> omega
  · have : ¬ b.pt = a.pt := fun e => h1 e.symm
    simp only [h1, this, ne_eq, not_false_eq_true, if_true]
    split <;> split <;> omega
/-- Two fractions in order, a third behind them. -/
theorem fr_le {a b c d e f : Int} (hd : 0 < d) (hb : 0 ≤ b) (hf : 0 ≤ f) (h1 : a * d ≤ c * b) (h2 : c * f ≤ e * d) : a * f ≤ e * b := by
  have k1 := Int.mul_le_mul_of_nonneg_right h1 hf
  have k2 := Int.mul_le_mul_of_nonneg_right h2 hb
  have k3 : a * f * d ≤ e * b * d := by
    have e1 : a * f * d = a * d * f := by rw [Int.mul_assoc, Int.mul_comm f d, ← Int.mul_assoc]
    have e2 : e * b * d = e * d * b := by rw [Int.mul_assoc, Int.mul_comm b d, ← Int.mul_assoc]
    have e3 : c * b * f = c * f * b := by rw [Int.mul_assoc, Int.mul_comm b f, ← Int.mul_assoc]
    omega
  exact Int.le_of_mul_le_mul_right k3 hd
theorem fr_lt {a b c d e f : Int} (hd : 0 < d) (hb : 0 < b) (hf : 0 ≤ f) (h1 : a * d ≤ c * b) (h2 : c * f < e * d) : a * f < e * b := by
  have k1 := Int.mul_le_mul_of_nonneg_right h1 hf
  have k2 := Int.mul_lt_mul_of_pos_right h2 hb
  have k3 : a * f * d < e * b * d := by
    have e1 : a * f * d = a * d * f := by rw [Int.mul_assoc, Int.mul_comm f d, ← Int.mul_assoc]
    have e2 : e * b * d = e * d * b := by rw [Int.mul_assoc, Int.mul_comm b d, ← Int.mul_assoc]
    have e3 : c * b * f = c * f * b := by rw [Int.mul_assoc, Int.mul_comm b f, ← Int.mul_assoc]
    omega
  exact Int.lt_of_mul_lt_mul_right k3 (Int.le_of_lt hd)
theorem fr_lt' {a b c d e f : Int} (hd : 0 < d) (hb : 0 ≤ b) (hf : 0 < f) (h1 : a * d < c * b) (h2 : c * f ≤ e * d) : a * f < e * b := by
  have k1 := Int.mul_lt_mul_of_pos_right h1 hf
  have k2 := Int.mul_le_mul_of_nonneg_right h2 hb
  have k3 : a * f * d < e * b * d := by
    have e1 : a * f * d = a * d * f := by rw [Int.mul_assoc, Int.mul_comm f d, ← Int.mul_assoc]
    have e2 : e * b * d = e * d * b := by rw [Int.mul_assoc, Int.mul_comm b d, ← Int.mul_assoc]
    have e3 : c * b * f = c * f * b := by rw [Int.mul_assoc, Int.mul_comm b f, ← Int.mul_assoc]
    omega
  exact Int.lt_of_mul_lt_mul_right k3 (Int.le_of_lt hd)
theorem cmpS_neg {x y : Int} : cmpS x y ≤ 0 ↔ x ≤ y := by
  unfold cmpS
  split
  · constructor <;> intro <;> omega
  · split <;> constructor <;> intro <;> omega
theorem cmpS_lt {x y : Int} : cmpS x y < 0 ↔ x < y := by
  unfold cmpS
  split
  · constructor <;> intro <;> omega
  · split <;> constructor <;> intro <;> omega
theorem crS_ok {a b : St} (ha : okS a) (hb : okS b) : crS a b = cmpS (rxn a * rxd b) (rxn b * rxd a) := if_pos ⟨ha, hb⟩
theorem crS_le {a b c : St} (ha : okS a) (hb : okS b) (hc : okS c) (h1 : crS a b ≤ 0) (h2 : crS b c ≤ 0) : crS a c ≤ 0 := by
  rw [crS_ok ha hb, cmpS_neg] at h1
  rw [crS_ok hb hc, cmpS_neg] at h2
  rw [crS_ok ha hc, cmpS_neg]
  have := rxd_rng ha; have := rxd_rng hb; have := rxd_rng hc
  exact fr_le (d := rxd b) (by omega) (by omega) (by omega) h1 h2
theorem crS_lt {a b c : St} (ha : okS a) (hb : okS b) (hc : okS c) (h1 : crS a b ≤ 0) (h2 : crS b c < 0) : crS a c < 0 := by
  rw [crS_ok ha hb, cmpS_neg] at h1
  rw [crS_ok hb hc, cmpS_lt] at h2
  rw [crS_ok ha hc, cmpS_lt]
  have := rxd_rng ha; have := rxd_rng hb; have := rxd_rng hc
  exact fr_lt (d := rxd b) (by omega) (by omega) (by omega) h1 h2
theorem crS_lt' {a b c : St} (ha : okS a) (hb : okS b) (hc : okS c) (h1 : crS a b < 0) (h2 : crS b c ≤ 0) : crS a c < 0 := by
  rw [crS_ok ha hb, cmpS_lt] at h1
  rw [crS_ok hb hc, cmpS_neg] at h2
  rw [crS_ok ha hc, cmpS_lt]
  have := rxd_rng ha; have := rxd_rng hb; have := rxd_rng hc
  exact fr_lt' (d := rxd b) (by omega) (by omega) (by omega) h1 h2
/-- The order of places, spelled out. -/
theorem cmS_le (a b : St) : cmS a b ≤ 0 ↔ a.pt > b.pt ∨ (a.pt = b.pt ∧ (a.wn > b.wn ∨ (a.wn = b.wn ∧ (crS b a < 0 ∨ (crS b a ≤ 0 ∧ crS a b ≤ 0 ∧ a.tm ≤ b.tm))))) := by
  have h := crS_anti a b
  unfold cmS bf9
  by_cases h1 : a.pt = b.pt
  · by_cases h2 : a.wn = b.wn
    · by_cases h3 : crS a b = 0
      · by_cases h5 : a.tm = b.tm
        · simp only [h1, h2, h3, h5, ne_eq, not_true_eq_false, if_false, true_and, false_and, or_false]
          constructor <;> intro <;> omega
        · simp only [h1, h2, h3, ne_eq, not_true_eq_false, if_false, h5, not_false_eq_true, if_true, true_and, false_and, or_false]
          split <;> constructor <;> intro <;> omega
      · simp only [h1, h2, h3, ne_eq, not_true_eq_false, if_false, not_false_eq_true, if_true, true_and, false_and, or_false]
        constructor <;> intro <;> omega
    · simp only [h1, h2, ne_eq, not_true_eq_false, if_false, not_false_eq_true, if_true, true_and, false_and, or_false]
      split <;> constructor <;> intro <;> omega
  · simp only [h1, ne_eq, not_false_eq_true, if_true, true_and, false_and, or_false]
    split <;> constructor <;> intro <;> omega
theorem cmS_trans {a b c : St} (ha : okS a) (hb : okS b) (hc : okS c) (h1 : cmS a b ≤ 0) (h2 : cmS b c ≤ 0) : cmS a c ≤ 0 := by
  rw [cmS_le] at h1 h2 ⊢
  have k1 := crS_lt (a := c) (b := b) (c := a) hc hb ha
  have k2 := crS_lt' (a := c) (b := b) (c := a) hc hb ha
  have k3 := crS_le (a := c) (b := b) (c := a) hc hb ha
  have k4 := crS_le (a := a) (b := b) (c := c) ha hb hc
  rcases h1 with h1 | ⟨e1, h1⟩
  · rcases h2 with h2 | ⟨e2, h2⟩ <;> exact .inl (by omega)
  · rcases h2 with h2 | ⟨e2, h2⟩
    · exact .inl (by omega)
    · refine .inr ⟨by omega, ?_⟩
      rcases h1 with h1 | ⟨f1, h1⟩
      · rcases h2 with h2 | ⟨f2, h2⟩ <;> exact .inl (by omega)
      · rcases h2 with h2 | ⟨f2, h2⟩
        · exact .inl (by omega)
        · refine .inr ⟨by omega, ?_⟩
          rcases h1 with h1 | ⟨g1, g2, g3⟩
          · rcases h2 with h2 | ⟨h2, _, _⟩
            · exact .inl (k1 (by omega) h1)
            · exact .inl (k1 h2 h1)
          · rcases h2 with h2 | ⟨h2, h3, h4⟩
            · exact .inl (k2 h2 g1)
            · exact .inr ⟨k3 h2 g1, k4 g2 h3, by omega⟩
/-! ### What the walks meet -/
def rtN (z : St) : Int := if okS z then rxn z else 0
def rtD (z : St) : Int := if okS z then rxd z else 1
theorem rtN_y {z : St} (h : okS z) : rtN z = rxn z := if_pos h
theorem rtD_y {z : St} (h : okS z) : rtD z = rxd z := if_pos h
theorem rtN_n {z : St} (h : ¬ okS z) : rtN z = 0 := if_neg h
theorem rtD_n {z : St} (h : ¬ okS z) : rtD z = 1 := if_neg h
theorem rt_rng (z : St) : (-1099511627776 ≤ rtN z ∧ rtN z ≤ 1099511627776) ∧ 1 ≤ rtD z ∧ rtD z ≤ 1099511627776 := by
  by_cases h : okS z
  · rw [rtN_y h, rtD_y h]; exact ⟨rxn_rng h, rxd_rng h⟩
  · rw [rtN_n h, rtD_n h]; omega
theorem prod_rng {z : St} (h : okS z) : (0 ≤ nil0 z.bf z.rf * one z.ba ∧ nil0 z.bf z.rf * one z.ba ≤ 1099511627776) ∧ (0 ≤ nil0 z.ba z.ra * one z.bf ∧ nil0 z.ba z.ra * one z.bf ≤ 1099511627776) ∧ 1 ≤ one z.bf * one z.ba ∧ one z.bf * one z.ba ≤ 1099511627776 := by
  have hd := rxd_rng h
  obtain ⟨h1, h2, h3, h4⟩ := h
  have a := one_rng h2
  have b := one_rng h4
  exact ⟨mul_rng (nil0_rng h1) (by omega), mul_rng (nil0_rng h3) (by omega), hd⟩
def gt4 (z : St) (j : Nat) : Int := [z.rf, z.bf, z.ra, z.ba].getD j 0
theorem gt4_ok {z : St} (h : ∀ j, j < 4 → inS (gt4 z j)) : okS z := ⟨h 0 (by decide), h 1 (by decide), h 2 (by decide), h 3 (by decide)⟩
theorem gt4_no {z : St} {j : Nat} (hj : j < 4) (h : ¬ inS (gt4 z j)) : ¬ okS z := fun hz => by
  obtain ⟨h1, h2, h3, h4⟩ := hz
  have : j = 0 ∨ j = 1 ∨ j = 2 ∨ j = 3 := by omega
  rcases this with rfl | rfl | rfl | rfl
  · exact h h1
  · exact h h2
  · exact h h3
  · exact h h4
theorem crS_rng (y z : St) : -1 ≤ crS y z ∧ crS y z ≤ 1 := by
  unfold crS cmpS
  split
  · split
    · omega
    · split <;> omega
  · omega
theorem cm_pt {y z : St} (h : ¬ y.pt = z.pt) : cmS y z = if decide (z.pt < y.pt) = true then -1 else 1 := by
  simp only [cmS, bf9, h, ne_eq, not_false_eq_true, if_true, decide_eq_true_eq, gt_iff_lt]
theorem cm_wn {y z : St} (h : y.pt = z.pt) (h1 : ¬ y.wn = z.wn) : cmS y z = if decide (z.wn < y.wn) = true then -1 else 1 := by
  simp only [cmS, bf9, h, h1, ne_eq, not_true_eq_false, if_false, not_false_eq_true, if_true, decide_eq_true_eq, gt_iff_lt]
theorem cm_cr {y z : St} (h : y.pt = z.pt) (h1 : y.wn = z.wn) (h2 : ¬ crS y z = 0) : cmS y z = -crS y z := by
  simp only [cmS, bf9, h, h1, h2, ne_eq, not_true_eq_false, if_false, not_false_eq_true, if_true]
theorem cm_cr0 {y z : St} (h : y.pt = z.pt) (h1 : y.wn = z.wn) (h2 : ¬ crS y z = 0) : cmS y z = 0 - crS y z := by rw [cm_cr h h1 h2]; omega
theorem cm_cr' {y z : St} (h : y.pt = z.pt) (h1 : y.wn = z.wn) (h2 : ¬ crS y z = 0) : cmS y z = if decide (0 < crS y z) = true then -1 else 1 := by
  have := crS_rng y z
  rw [cm_cr h h1 h2]
  simp only [decide_eq_true_eq]
  split <;> omega
theorem cm_tm {y z : St} (h : y.pt = z.pt) (h1 : y.wn = z.wn) (h2 : crS y z = 0) (h3 : ¬ y.tm = z.tm) : cmS y z = if decide (y.tm < z.tm) = true then -1 else 1 := by
  simp only [cmS, bf9, h, h1, h2, h3, ne_eq, not_true_eq_false, if_false, not_false_eq_true, if_true, decide_eq_true_eq]
theorem cm_0 {y z : St} (h : y.pt = z.pt) (h1 : y.wn = z.wn) (h2 : crS y z = 0) (h3 : y.tm = z.tm) : cmS y z = 0 := by
  simp only [cmS, bf9, h, h1, h2, h3, ne_eq, not_true_eq_false, if_false]
/-- A standing in the machine. -/
abbrev stL (z : St) : List AV := [AV.i z.tm, AV.i z.pl, AV.i z.wn, AV.i z.sh, AV.i z.ls, AV.i z.pt, AV.i z.rf, AV.i z.bf, AV.i z.ra, AV.i z.ba]
abbrev stA (z : St) : AV := .agg (stL z)
theorem ix77 (z : St) (i : Nat) (h : i < 4) : indexV Tryd.prog 77 (.agg [AV.i z.rf, AV.i z.bf, AV.i z.ra, AV.i z.ba]) (AV.i (i : Int)) = some (AV.i (gt4 z i)) := by
  have : i = 0 ∨ i = 1 ∨ i = 2 ∨ i = 3 := by omega
  simp only [indexV, tk77, ty3]
  rcases this with rfl | rfl | rfl | rfl <;> rfl
theorem bld77 (a b c d : Int) : buildV Tryd.prog 77 [(0, AV.i a), (1, AV.i b), (2, AV.i c), (3, AV.i d)] = some (.agg [AV.i a, AV.i b, AV.i c, AV.i d]) := by kernel_rfl
attribute [go_sem] bld77
end Go.Proofs.YtfnapmdedmbdbaaDoor
end
section
set_option linter.unusedVariables false
namespace Go.Proofs.YtfnapmdedmbdbaaDoor
open Go Go.Am
end Go.Proofs.YtfnapmdedmbdbaaDoor
end
section
namespace Go.Am
open Go
/-- One block was made, the others are as they were. -/
structure MNew (H H' : Heap) (k : Blk) : Prop where
  len : H'.length = H.length + 1
  new : hget H' H.length = some k
  old : ∀ b, b < H.length → hget H' b = hget H b
/-- One block was written. -/
structure MWrote (H : Heap) (b : Nat) (H' : Heap) (k : Blk) : Prop where
  len : H'.length = H.length
  new : hget H' b = some k
  old : ∀ c, c ≠ b → hget H' c = hget H c
/-- One block was made in place of another one. -/
structure MGrew (H : Heap) (b : Nat) (H' : Heap) (k : Blk) : Prop where
  len : H'.length = H.length + 1
  new : hget H' H.length = some k
  old : ∀ c, c ≠ b → c < H.length → hget H' c = hget H c
theorem MNew.of (H : Heap) (k : Blk) : MNew H (H ++ [some k]) k := ⟨by simp, by simp [hget], fun b hb => hget_low _ _ _ hb⟩
theorem MWrote.of (H : Heap) {b : Nat} (k : Blk) (hb : b < H.length) : MWrote H b (hset H b (some k)) k :=
  ⟨by simp [hset], by simp [hget, hset, hb], fun c hc => by simp [hget, hset, Ne.symm hc]⟩
theorem MGrew.of (H : Heap) (b : Nat) (k : Blk) : MGrew H b (hset H b none ++ [some k]) k :=
  ⟨by simp [hset], by simp [hget, hset], fun c hc hl => by
    rw [hget_low _ _ _ (by simpa [hset] using hl)]
    simp [hget, hset, Ne.symm hc]⟩
section
variable {S : Sig} {lim : Nat} {ops : Array Oper} {l : List Oper} {e : Env} {H : Heap} {K : Env → Heap → Prop} {d : Option Tmp} {ty : TypeId} {pos : String} {af : Array Edge}
end
def AltsL (S : Sig) (lim : Nat) (ops : Array Oper) (R live keep : List Nat) (n0 : Nat) (e : Env) (H : Heap) (e0 : Env) (H0 : Heap) : List (List Nat) → Prop
  | [] => True
  | m :: ms => Mp S lim ops R (fun e1 H1 => SameUp n0 live keep e0 H0 e1 H1 ∧ lowEq n0 H0 H1) (pick ops m) e H ∧ AltsL S lim ops R live keep n0 e H e0 H0 ms
end Go.Am
end
section
namespace Go.Proofs
open Go.Shelf
def Tryd.lays125_ren : Go.Shelf.Ren := ⟨fun | 125 => 59 | 128 => 79 | 129 => 80 | n => n, fun | 46 => 92 | 3 => 3 | 51 => 114 | 53 => 49 | 4 => 4 | 5 => 5 | 9 => 9 | n => n, fun | n => n⟩
def Tryd.lays103_ren : Go.Shelf.Ren := ⟨fun | 103 => 56 | 210 => 66 | 206 => 87 | n => n, fun | 9 => 9 | 4 => 4 | 24 => 87 | 3 => 3 | n => n, fun | n => n⟩
theorem Tryd.lays103 : Go.Proofs.Lays.n103 Tryd.prog Tryd.lays103_ren := {
  mixed := by kernel_rfl
  f103 := Tryd.func56.trans (congrArg some (by kernel_rfl))
  f206 := Tryd.func87.trans (congrArg some (by kernel_rfl))
  f210 := Tryd.func66.trans (congrArg some (by kernel_rfl))
  t3 := Tryd.underlying3
  a3 := Tryd.isAgg3
  z3 := Tryd.sizeOf3
  v3 := Tryd.zeroValue3
  t4 := Tryd.underlying4
  a4 := Tryd.isAgg4
  z4 := Tryd.sizeOf4
  v4 := Tryd.zeroValue4
  t9 := Tryd.underlying9
  a9 := Tryd.isAgg9
  z9 := Tryd.sizeOf9
  v9 := Tryd.zeroValue9
  t24 := Tryd.underlying87
  a24 := Tryd.isAgg87
  z24 := Tryd.sizeOf87
  v24 := Tryd.zeroValue87 }
open Go.RowKit in
/-- strings.CutPrefix: "CutPrefix returns s without the provided leading prefix string and reports whether it found the prefix. If s doesn't start with prefix, CutPrefix returns s, false. If prefix is the empty string, CutPrefix returns s, true.": IT RETURNS '(Lib.trimPrefix s p, Lib.hasPrefix s p)'; the world is as it was. (LAID: no walk: one application.) -/
theorem Tryd.strings_CutPrefix (s p : ByteArray) (w : World) :
    Calls Tryd.prog 56 #[.string s, .string p] w fun e w' => e = .returned (.tuple #[.string ⟨(Lib.trimPrefix s.data.toList p.data.toList).toArray⟩, .bool (Lib.hasPrefix s.data.toList p.data.toList)]) ∧ w' = w := Any.strings_CutPrefix Tryd.lays103 s p w
def Tryd.laysM173_ren : Go.Shelf.Ren := ⟨fun | 173 => 55 | 246 => 65 | 283 => 83 | 284 => 84 | 285 => 85 | 286 => 86 | 129 => 80 | 317 => 96 | 318 => 97 | 319 => 98 | 320 => 99 | 337 => 102 | 338 => 103 | n => n, fun | 2 => 2 | 3 => 3 | 9 => 9 | 4 => 4 | 171 => 121 | 0 => 0 | 53 => 49 | 37 => 66 | 5 => 5 | 173 => 123 | 212 => 135 | 51 => 114 | 20 => 20 | 213 => 136 | 46 => 92 | 232 => 141 | 233 => 142 | n => n, fun | 17 => 0 | 18 => 2 | 19 => 3 | n => n⟩
theorem Tryd.laysM173 : Go.Proofs.LaysM.n173 Tryd.prog Tryd.laysM173_ren := {
  mixed := by kernel_rfl
  f129 := Tryd.func80.trans (congrArg some (by kernel_rfl))
  f173 := Tryd.func55.trans (congrArg some (by kernel_rfl))
  f246 := Tryd.func65.trans (congrArg some (by kernel_rfl))
  f283 := Tryd.func83.trans (congrArg some (by kernel_rfl))
  f284 := Tryd.func84.trans (congrArg some (by kernel_rfl))
  f285 := Tryd.func85.trans (congrArg some (by kernel_rfl))
  f286 := Tryd.func86.trans (congrArg some (by kernel_rfl))
  f317 := Tryd.func96.trans (congrArg some (by kernel_rfl))
  f318 := Tryd.func97.trans (congrArg some (by kernel_rfl))
  f319 := Tryd.func98.trans (congrArg some (by kernel_rfl))
  f320 := Tryd.func99.trans (congrArg some (by kernel_rfl))
  f337 := Tryd.func102.trans (congrArg some (by kernel_rfl))
  f338 := Tryd.func103.trans (congrArg some (by kernel_rfl))
  t0 := Tryd.underlying0
  a0 := Tryd.isAgg0
  z0 := Tryd.sizeOf0
  v0 := Tryd.zeroValue0
  t2 := Tryd.underlying2
  a2 := Tryd.isAgg2
  z2 := Tryd.sizeOf2
  v2 := Tryd.zeroValue2
  t3 := Tryd.underlying3
  a3 := Tryd.isAgg3
  z3 := Tryd.sizeOf3
  v3 := Tryd.zeroValue3
  t4 := Tryd.underlying4
  a4 := Tryd.isAgg4
  z4 := Tryd.sizeOf4
  v4 := Tryd.zeroValue4
  t5 := Tryd.underlying5
  a5 := Tryd.isAgg5
  z5 := Tryd.sizeOf5
  v5 := Tryd.zeroValue5
  t9 := Tryd.underlying9
  a9 := Tryd.isAgg9
  z9 := Tryd.sizeOf9
  v9 := Tryd.zeroValue9
  t20 := Tryd.underlying20
  a20 := Tryd.isAgg20
  z20 := Tryd.sizeOf20
  v20 := Tryd.zeroValue20
  t37 := Tryd.underlying66
  a37 := Tryd.isAgg66
  z37 := Tryd.sizeOf66
  v37 := Tryd.zeroValue66
  t46 := Tryd.underlying92
  a46 := Tryd.isAgg92
  z46 := Tryd.sizeOf92
  v46 := Tryd.zeroValue92
  t51 := Tryd.underlying114
  a51 := Tryd.isAgg114
  z51 := Tryd.sizeOf114
  v51 := Tryd.zeroValue114
  t53 := Tryd.underlying49
  a53 := Tryd.isAgg49
  z53 := Tryd.sizeOf49
  v53 := Tryd.zeroValue49
  t171 := Tryd.underlying121
  a171 := Tryd.isAgg121
  z171 := Tryd.sizeOf121
  v171 := Tryd.zeroValue121
  t173 := Tryd.underlying123
  a173 := Tryd.isAgg123
  z173 := Tryd.sizeOf123
  v173 := Tryd.zeroValue123
  t212 := Tryd.underlying135
  a212 := Tryd.isAgg135
  z212 := Tryd.sizeOf135
  v212 := Tryd.zeroValue135
  t213 := Tryd.underlying136
  a213 := Tryd.isAgg136
  z213 := Tryd.sizeOf136
  t232 := Tryd.underlying141
  a232 := Tryd.isAgg141
  z232 := Tryd.sizeOf141
  v232 := Tryd.zeroValue141
  t233 := Tryd.underlying142
  a233 := Tryd.isAgg142
  z233 := Tryd.sizeOf142
  v233 := Tryd.zeroValue142
  g17 := by kernel_rfl
  g18 := by kernel_rfl
  g19 := by kernel_rfl
  i0 := by kernel_rfl
  i2 := by kernel_rfl
  i3 := by kernel_rfl
  i4 := by kernel_rfl
  i5 := by kernel_rfl
  i9 := by kernel_rfl
  i20 := by kernel_rfl
  i37 := by kernel_rfl
  i46 := by kernel_rfl
  i51 := by kernel_rfl
  i53 := by kernel_rfl
  i171 := by kernel_rfl
  i173 := by kernel_rfl
  i212 := by kernel_rfl
  i232 := by kernel_rfl
  i233 := by kernel_rfl
  m17 := by kernel_rfl
  m18 := by kernel_rfl
  m19 := by kernel_rfl }
open Go.RowKit Go.Sort Go.Lib in
/-- strconv.FormatInt: "FormatInt returns the string representation of i in the given base": AT BASE 10: i's decimal numeral, for every int64. (LAID: no walk: one application.) -/
theorem Tryd.strconv_FormatInt_10 (n : Int) (h0 : -9223372036854775808 ≤ n) (h1 : n ≤ 9223372036854775807) (w : World) (htab : Lib.TabIs Tryd.prog w "internal/strconv.uint64pow10" .u64 Lib.pow10Tab) :
    Calls Tryd.prog 55 #[.int .i64 n, .int .i64 10] w fun e w' => e = .returned (.string ⟨(Lib.itoa n).toArray⟩) ∧ ∃ k os, w' = grow (w.drewN k) os := Any.strconv_FormatInt_10 Tryd.laysM173 n h0 h1 w htab
def Tryd.lays264_ren : Go.Shelf.Ren := ⟨fun | 264 => 50 | n => n, fun | 53 => 49 | 46 => 92 | n => n, fun | n => n⟩
theorem Tryd.lays264 : Go.Proofs.Lays.n264 Tryd.prog Tryd.lays264_ren := {
  mixed := by kernel_rfl
  f264 := Tryd.func50.trans (congrArg some (by kernel_rfl))
  t46 := Tryd.underlying92
  a46 := Tryd.isAgg92
  z46 := Tryd.sizeOf92
  v46 := Tryd.zeroValue92
  t53 := Tryd.underlying49
  a53 := Tryd.isAgg49
  z53 := Tryd.sizeOf49
  v53 := Tryd.zeroValue49 }
open Go.RowKit Go.Lib in
theorem Tryd.bits_Mul64 (x y : Nat) (hx : x < 18446744073709551616) (hy : y < 18446744073709551616) (w : World) :
    Calls Tryd.prog 50 #[.int .u64 x, .int .u64 y] w fun e w' => e = .returned (.tuple #[.int .u64 ((x * y / 18446744073709551616 : Nat) : Int), .int .u64 ((x * y % 18446744073709551616 : Nat) : Int)]) ∧ w' = w := Any.bits_Mul64 Tryd.lays264 x y hx hy w
def Tryd.lays105_ren : Go.Shelf.Ren := ⟨fun | 105 => 57 | 212 => 67 | 99 => 68 | 165 => 69 | 166 => 46 | 170 => 70 | 169 => 47 | 263 => 88 | 264 => 50 | 206 => 87 | 240 => 60 | 241 => 89 | 276 => 81 | 277 => 100 | n => n, fun | 9 => 9 | 3 => 3 | 4 => 4 | 20 => 20 | 0 => 0 | 46 => 92 | 109 => 100 | 5 => 5 | 72 => 68 | 76 => 72 | 51 => 114 | 146 => 125 | 53 => 49 | 148 => 80 | 70 => 65 | 37 => 66 | 75 => 71 | 127 => 93 | 164 => 116 | 80 => 75 | n => n, fun | n => n⟩
theorem Tryd.lays105 : Go.Proofs.Lays.n105 Tryd.prog Tryd.lays105_ren := {
  mixed := by kernel_rfl
  f99 := Tryd.func68.trans (congrArg some (by kernel_rfl))
  f105 := Tryd.func57.trans (congrArg some (by kernel_rfl))
  f165 := Tryd.func69.trans (congrArg some (by kernel_rfl))
  f166 := Tryd.func46.trans (congrArg some (by kernel_rfl))
  f169 := Tryd.func47.trans (congrArg some (by kernel_rfl))
  f170 := Tryd.func70.trans (congrArg some (by kernel_rfl))
  f206 := Tryd.func87.trans (congrArg some (by kernel_rfl))
  f212 := Tryd.func67.trans (congrArg some (by kernel_rfl))
  f240 := Tryd.func60.trans (congrArg some (by kernel_rfl))
  f241 := Tryd.func89.trans (congrArg some (by kernel_rfl))
  f263 := Tryd.func88.trans (congrArg some (by kernel_rfl))
  f264 := Tryd.func50.trans (congrArg some (by kernel_rfl))
  f276 := Tryd.func81.trans (congrArg some (by kernel_rfl))
  f277 := Tryd.func100.trans (congrArg some (by kernel_rfl))
  t0 := Tryd.underlying0
  a0 := Tryd.isAgg0
  z0 := Tryd.sizeOf0
  v0 := Tryd.zeroValue0
  t3 := Tryd.underlying3
  a3 := Tryd.isAgg3
  z3 := Tryd.sizeOf3
  v3 := Tryd.zeroValue3
  t4 := Tryd.underlying4
  a4 := Tryd.isAgg4
  z4 := Tryd.sizeOf4
  v4 := Tryd.zeroValue4
  t5 := Tryd.underlying5
  a5 := Tryd.isAgg5
  z5 := Tryd.sizeOf5
  v5 := Tryd.zeroValue5
  t9 := Tryd.underlying9
  a9 := Tryd.isAgg9
  z9 := Tryd.sizeOf9
  v9 := Tryd.zeroValue9
  t20 := Tryd.underlying20
  a20 := Tryd.isAgg20
  z20 := Tryd.sizeOf20
  v20 := Tryd.zeroValue20
  t37 := Tryd.underlying66
  a37 := Tryd.isAgg66
  z37 := Tryd.sizeOf66
  v37 := Tryd.zeroValue66
  t46 := Tryd.underlying92
  a46 := Tryd.isAgg92
  z46 := Tryd.sizeOf92
  v46 := Tryd.zeroValue92
  t51 := Tryd.underlying114
  a51 := Tryd.isAgg114
  z51 := Tryd.sizeOf114
  v51 := Tryd.zeroValue114
  t53 := Tryd.underlying49
  a53 := Tryd.isAgg49
  z53 := Tryd.sizeOf49
  v53 := Tryd.zeroValue49
  t70 := Tryd.underlying65
  a70 := Tryd.isAgg65
  z70 := Tryd.sizeOf65
  v70 := Tryd.zeroValue65
  t72 := Tryd.underlying68
  a72 := Tryd.isAgg68
  z72 := Tryd.sizeOf68
  v72 := Tryd.zeroValue68
  t75 := Tryd.underlying71
  a75 := Tryd.isAgg71
  z75 := Tryd.sizeOf71
  v75 := Tryd.zeroValue71
  t76 := Tryd.underlying72
  a76 := Tryd.isAgg72
  z76 := Tryd.sizeOf72
  v76 := Tryd.zeroValue72
  t109 := Tryd.underlying100
  a109 := Tryd.isAgg100
  z109 := Tryd.sizeOf100
  v109 := Tryd.zeroValue100
  t127 := Tryd.underlying93
  a127 := Tryd.isAgg93
  z127 := Tryd.sizeOf93
  v127 := Tryd.zeroValue93
  t146 := Tryd.underlying125
  a146 := Tryd.isAgg125
  z146 := Tryd.sizeOf125
  v146 := Tryd.zeroValue125
  t148 := Tryd.underlying80
  a148 := Tryd.isAgg80
  z148 := Tryd.sizeOf80
  v148 := Tryd.zeroValue80
  t164 := Tryd.underlying116
  a164 := Tryd.isAgg116
  z164 := Tryd.sizeOf116
  v164 := Tryd.zeroValue116 }
theorem Tryd.Builder_Extra_105 : Builder.Extra Tryd.prog Tryd.lays105_ren := {
  sizeBuilder := by kernel_rfl
  liesBuilder := by kernel_rfl
  t5 := Tryd.underlying5
  a5 := Tryd.isAgg5
  z5 := Tryd.sizeOf5
  v5 := Tryd.zeroValue5
  infoByte := by kernel_rfl
  cellsByte := by kernel_rfl
  sizeByte := by kernel_rfl
  neB5 := by decide }
open Go.RowKit Go.Lib in
/-- **strings.Repeat: count ≥ 0, the result within one allocation: count copies of s.** (LAID: no walk: one application.) -/
theorem Tryd.strings_Repeat (s : ByteArray) (c : Nat) (w : World) (hc : c ≤ 9223372036854775807) (hlen : s.size * c ≤ 140737488355328) :
    Calls Tryd.prog 57 #[.string s, .int .i64 c] w fun e w' => e = .returned (.string ⟨(Lib.repeatL s.data.toList c).toArray⟩) ∧ Below w.heap.size w w' := Any.strings_Repeat Tryd.lays105 Tryd.Builder_Extra_105 s c w hc hlen
end Go.Proofs
end
