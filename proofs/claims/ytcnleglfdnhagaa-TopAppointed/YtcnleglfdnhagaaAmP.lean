/-
  The abstract machine: operations of a region that draws its order may be taken in another order.
-/
import Derived.Test.YtcnleglfdnhagaaAm
import Derived.StillTail
namespace Go.Am
open Go
set_option linter.unusedSimpArgs false
set_option linter.unusedVariables false

section
variable {P : Program}
theorem arr_map {α β : Type} (xs : Array α) {f g : α → β} (h : ∀ x ∈ xs, f x = g x) : xs.toList.map f = xs.toList.map g :=
  List.map_congr_left fun x hx => h x (by simpa using hx)
theorem popV_congr {o : Op} {ev ev' : Operand → AV} (h : ∀ x ∈ o.operands, ev x = ev' x) : popV P o ev = popV P o ev' := by
  unfold popV
  split
  · rw [h _ (by simp [Op.operands])]
  · rw [h _ (by simp [Op.operands])]
  · rw [h _ (by simp [Op.operands]), h _ (by simp [Op.operands]), h _ (by simp [Op.operands])]
  · rename_i t parts
    congr 1
    refine List.map_congr_left fun q hq => ?_
    obtain ⟨q1, q2⟩ := q
    simp only
    rw [h q2 (by simp only [Op.operands, List.mem_toArray, List.mem_map]; exact ⟨(q1, q2), hq, rfl⟩)]
  · rw [h _ (by simp [Op.operands])]
  · rw [h _ (by simp [Op.operands]), h _ (by simp [Op.operands])]
  · rw [h _ (by simp [Op.operands])]
  · rw [h _ (by simp [Op.operands])]
  · rename_i f first captured
    rw [arr_map captured fun x hx => h x (by simp [Op.operands, hx])]
  · rename_i t x lo hi
    rw [h _ (by simp [Op.operands])]
    have e1 : lo.map ev = lo.map ev' := by cases lo with | none => rfl | some a => simp only [Option.map_some]; rw [h _ (by simp [Op.operands])]
    have e2 : hi.map ev = hi.map ev' := by cases hi with | none => rfl | some a => simp only [Option.map_some]; rw [h _ (by simp [Op.operands])]
    rw [e1, e2]
  · rw [h _ (by simp [Op.operands])]
  · rw [h _ (by simp [Op.operands])]
  · rw [h _ (by simp [Op.operands]), h _ (by simp [Op.operands])]
  · rw [h _ (by simp [Op.operands]), h _ (by simp [Op.operands])]
  · rw [h _ (by simp [Op.operands])]
  · rename_i args ts
    split
    · rename_i x t hx ht
      rw [h x (by simp only [Op.operands, Call.operands, Array.mem_append]; right; rw [← Array.mem_toList_iff, hx]; simp)]
    · rfl
  · rename_i args ts
    split
    · rename_i x r hx
      have hm : ∀ y ∈ x :: r, ev y = ev' y := fun y hy => h y (by simp only [Op.operands, Call.operands, Array.mem_append]; right; rw [← Array.mem_toList_iff, hx]; exact hy)
      rw [hm x (by simp), List.map_congr_left fun y hy => hm y (by simp [hy])]
    · rfl
  · rename_i args ts
    split
    · rename_i x r hx
      have hm : ∀ y ∈ x :: r, ev y = ev' y := fun y hy => h y (by simp only [Op.operands, Call.operands, Array.mem_append]; right; rw [← Array.mem_toList_iff, hx]; exact hy)
      rw [hm x (by simp), List.map_congr_left fun y hy => hm y (by simp [hy])]
    · rfl
  · rfl
theorem callV_congr {o : Op} {ev ev' : Operand → AV} (h : ∀ x ∈ o.operands, ev x = ev' x) : callV o ev = callV o ev' := by
  unfold callV
  split
  · rename_i f args ts
    rw [h f (by simp [Op.operands, Call.operands]), arr_map args fun x hx => h x (by simp [Op.operands, Call.operands, hx])]
  · rfl
theorem effV_congr {lim : Nat} {o : Op} {ev ev' : Operand → AV} {H : Heap} (h : ∀ x ∈ o.operands, ev x = ev' x) : effV P lim o ev H = effV P lim o ev' H := by
  unfold effV
  split
  · rfl
  · rw [h _ (by simp [Op.operands])]
  · rw [h _ (by simp [Op.operands]), h _ (by simp [Op.operands])]
  · rename_i t n parts
    have e1 : (parts.toList.map fun (i, x) => (i, ev x)) = parts.toList.map fun (i, x) => (i, ev' x) :=
      List.map_congr_left fun q hq => by
        obtain ⟨q1, q2⟩ := q
        simp only
        rw [h q2 (by simp only [Op.operands, List.mem_toArray, List.mem_map]; exact ⟨(q1, q2), hq, rfl⟩)]
    rw [e1]
  · rw [h _ (by simp [Op.operands]), h _ (by simp [Op.operands])]
  · rename_i args ts
    split
    · rename_i x y t u hx ht
      have hm : ∀ z ∈ [x, y], ev z = ev' z := fun z hz => h z (by simp only [Op.operands, Call.operands, Array.mem_append]; right; rw [← Array.mem_toList_iff, hx]; exact hz)
      rw [hm x (by simp), hm y (by simp)]
    · rfl
  · rw [h _ (by simp [Op.operands])]
  · rfl
theorem isLoad_op {o : Op} {t : TypeId} {a : Operand} (h : isLoad o = some (t, a)) : o = .load t a := by
  unfold isLoad at h
  split at h
  · cases h; rfl
  · cases h
theorem opV_congr {call : CallF} {lim : Nat} {o : Op} {e e' : Env} {H : Heap} (h : ∀ x ∈ o.operands, evO e x = evO e' x) : opV P call lim o e H = opV P call lim o e' H := by
  unfold opV
  cases hl : isLoad o with
  | some p =>
    obtain ⟨t, a⟩ := p
    have := isLoad_op hl
    subst this
    simp only
    rw [h a (by simp [Op.operands])]
  | none =>
    simp only
    rw [callV_congr h, popV_congr h, effV_congr h]
theorem takeV_congr {o : Op} {e e' : Env} {H : Heap} (h : ∀ x ∈ o.operands, evO e x = evO e' x) : takeV P o e H = takeV P o e' H := by
  unfold takeV
  cases hl : isLoad o with
  | some p =>
    obtain ⟨t, a⟩ := p
    have := isLoad_op hl
    subst this
    simp only
    rw [h a (by simp [Op.operands])]
  | none =>
    simp only
    rw [callV_congr h, popV_congr h]
theorem take_op {call : CallF} {lim : Nat} {o : Op} {e : Env} {H : Heap} {x : AV} (h : takeV P o e H = some x) : opV P call lim o e H = some (x, H) := by
  unfold takeV at h
  unfold opV
  split at h
  · rename_i t a hl; rw [h]; rfl
  · rename_i hl
    split at h
    · cases h
    · rename_i hc; rw [h, hc]

/-! ### What stood before is not written -/
def agree (n0 : Nat) (H H' : Heap) : Prop := n0 ≤ H.length ∧ H.length ≤ H'.length ∧ ∀ b, b < n0 → hget H' b = hget H b
theorem agree_refl {n0 : Nat} {H : Heap} (h : n0 ≤ H.length) : agree n0 H H := ⟨h, Nat.le_refl _, fun _ _ => rfl⟩
theorem agree_app {n0 : Nat} {H : Heap} {X : Heap} (h : n0 ≤ H.length) : agree n0 H (H ++ X) :=
  ⟨h, by simp, fun b hb => by simp [hget, List.getElem?_append_left (show b < H.length by omega)]⟩
theorem agree_set {n0 b : Nat} {H : Heap} {x : Option Blk} (h : n0 ≤ H.length) (hb : n0 ≤ b) : agree n0 H (hset H b x) :=
  ⟨h, by simp [hset], fun c hc => by simp only [hget, hset]; rw [List.getElem?_set_ne (by omega)]⟩
theorem agree.trans {n0 : Nat} {H H' H'' : Heap} (h : agree n0 H H') (g : agree n0 H' H'') : agree n0 H H'' :=
  ⟨h.1, Nat.le_trans h.2.1 g.2.1, fun b hb => by rw [g.2.2 b hb, h.2.2 b hb]⟩
theorem eff_agree {lim : Nat} {o : Op} {ev : Operand → AV} {H H' : Heap} {r : AV} (hl : lim ≤ H.length) (h : effV P lim o ev H = some (r, H')) : agree lim H H' := by
  unfold effV at h
  split at h
  · split at h
    · split at h
      · cases h; exact agree_app hl
      · cases h
    · cases h
  · split at h
    · cases h; exact agree_app hl
    · cases h
  · split at h
    · split at h
      · split at h
        · rename_i hc; cases h; exact agree_set hl hc.1
        · cases h
      · cases h
    · cases h
  · split at h
    · split at h
      · split at h
        · split at h
          · split at h
            · cases h; exact agree_app hl
            · cases h
          · cases h
        · cases h
      · cases h
    · cases h
  · split at h
    · split at h
      · split at h
        · split at h
          · cases h; exact agree_app hl
          · cases h
        · cases h
      · cases h
    · cases h
  · split at h
    · split at h
      · unfold appendV at h
        split at h
        · split at h
          · split at h
            · split at h
              · split at h
                · split at h
                  · split at h
                    · rename_i hc; cases h; exact (agree_set hl hc.1).trans (agree_app (by simp [hset]; exact hl))
                    · cases h
                  · cases h
                · split at h
                  · cases h; exact agree_app hl
                  · cases h
                · cases h
              · cases h
            · cases h
          · cases h
        · cases h
      · cases h
    · cases h
  · split at h
    · split at h
      · split at h
        · cases h; exact agree_refl hl
        · cases h
      · cases h
    · simp only [Option.map_eq_some_iff] at h
      obtain ⟨_, _, he⟩ := h
      cases he; exact agree_refl hl
    · cases h
  · cases h
/-- No call but of functions that leave the caller's memory alone. -/
def callB (pu : FuncId → Bool) (o : Oper) : Bool :=
  match o.op with
  | .call { callee := .value (.func f), args := _, argTypes := _ } => pu f
  | .call { callee := .value _, args := _, argTypes := _ } => false
  | _ => true
def Still (call : CallF) (pu : FuncId → Bool) : Prop := ∀ lim f args H r H', pu f = true → call lim f args H = some (r, H') → H' = H
theorem op_agree {call : CallF} {pu : FuncId → Bool} (hp : Still call pu) {lim : Nat} {o : Oper} (hc : callB pu o = true) {e : Env} {H H' : Heap} {r : AV} (hl : lim ≤ H.length) (h : opV P call lim o.op e H = some (r, H')) : agree lim H H' := by
  unfold opV at h
  split at h
  · simp only [Option.map_eq_some_iff] at h
    obtain ⟨x, -, he⟩ := h
    cases he; exact agree_refl hl
  · split at h
    · rename_i f args hcv
      have : pu f = true := by
        unfold callV at hcv
        split at hcv
        · rename_i fo xs ts ho
          unfold callB at hc
          rw [ho] at hc
          cases fo with
          | func g =>
            simp only [evO] at hcv
            cases hcv; exact hc
          | _ => simp at hc
        · cases hcv
      rw [hp _ _ _ _ _ _ this h]; exact agree_refl hl
    · split at h
      · cases h; exact agree_refl hl
      · exact eff_agree hl h
theorem stay_refl {R : List Nat} {H : Heap} : stay R H H := fun _ _ _ h => h
theorem stay.trans {R : List Nat} {H H' H'' : Heap} (h : stay R H H') (g : stay R H' H'') : stay R H H'' := fun b hb k hk => g b hb k (h b hb k hk)
theorem stay_of_agree {R : List Nat} {n0 : Nat} {H H' : Heap} (hR : ∀ b, b ∈ R → b < n0) (h : agree n0 H H') : stay R H H' := fun b hb k hk => by rw [h.2.2 b (hR b hb)]; exact hk
theorem stay_app {R : List Nat} {H X : Heap} : stay R H (H ++ X) := fun b _ k hk => by
  have hb : b < H.length := by
    by_cases hb : b < H.length
    · exact hb
    · rw [hget, List.getElem?_eq_none (by omega)] at hk; cases hk
  rw [← hk]; simp [hget, List.getElem?_append_left hb]
theorem stay_set {R : List Nat} {b : Nat} {H : Heap} {x : Option Blk} (hb : b ∉ R) : stay R H (hset H b x) :=
  fun c hc k hk => by rw [← hk]; simp only [hget, hset]; rw [List.getElem?_set_ne (fun h => hb (by rw [h]; exact hc))]
theorem wrC_spec {R : List Nat} {o : Oper} {e : Env} (h : wrC R o e = true) {b : Nat} (hb : wrV o.op e = some b) : b ∉ R := by
  unfold wrC at h
  rw [hb] at h
  simpa using h
theorem op_stay {call : CallF} {pu : FuncId → Bool} (hp : Still call pu) {lim : Nat} {R : List Nat} {o : Oper} (hc : callB pu o = true) {e : Env} {H H' : Heap} {r : AV} (hw : wrC R o e = true) (h : opV P call lim o.op e H = some (r, H')) : stay R H H' := by
  unfold opV at h
  split at h
  · simp only [Option.map_eq_some_iff] at h
    obtain ⟨x, -, he⟩ := h
    cases he; exact stay_refl
  · split at h
    · rename_i f args hcv
      have : pu f = true := by
        unfold callV at hcv
        split at hcv
        · rename_i fo xs ts ho
          unfold callB at hc
          rw [ho] at hc
          cases fo with
          | func g =>
            simp only [evO] at hcv
            cases hcv; exact hc
          | _ => simp at hc
        · cases hcv
      rw [hp _ _ _ _ _ _ this h]; exact stay_refl
    · split at h
      · cases h; exact stay_refl
      · have hws : ∀ b, wrV o.op e = some b → b ∉ R := fun b hb => wrC_spec hw hb
        clear hw hc
        generalize o.op = op at h hws
        unfold effV at h
        split at h
        · split at h
          · split at h
            · cases h; exact stay_app
            · cases h
          · cases h
        · split at h
          · cases h; exact stay_app
          · cases h
        · split at h
          · rename_i ty b o' c ht ha hcc
            split at h
            · split at h
              · cases h; exact stay_set (hws b (by simp only [wrV]; rw [ha]))
              · cases h
            · cases h
          · cases h
        · split at h
          · split at h
            · split at h
              · split at h
                · split at h
                  · cases h; exact stay_app
                  · cases h
                · cases h
              · cases h
            · cases h
          · cases h
        · split at h
          · split at h
            · split at h
              · split at h
                · cases h; exact stay_app
                · cases h
              · cases h
            · cases h
          · cases h
        · split at h
          · rename_i args ats x y t u hx ht
            split at h
            · unfold appendV at h
              split at h
              · split at h
                · split at h
                  · split at h
                    · split at h
                      · rename_i z b o' n' hxx
                        split at h
                        · split at h
                          · cases h; exact (stay_set (hws b (by simp only [wrV]; rw [hx]; simp only; rw [hxx]))).trans stay_app
                          · cases h
                        · cases h
                      · split at h
                        · cases h; exact stay_app
                        · cases h
                      · cases h
                    · cases h
                  · cases h
                · cases h
              · cases h
            · cases h
          · cases h
        · split at h
          · split at h
            · split at h
              · cases h; exact stay_refl
              · cases h
            · cases h
          · simp only [Option.map_eq_some_iff] at h
            obtain ⟨_, _, he⟩ := h
            cases he; exact stay_refl
          · cases h
        · cases h
theorem take_stay {o : Op} {e : Env} {R : List Nat} {Hs H : Heap} {x : AV} (ha : stay R Hs H) (hR : ∀ b, b ∈ rdV o e → b ∈ R) (h : takeV P o e Hs = some x) : takeV P o e H = some x := by
  unfold takeV at *
  cases hl : isLoad o with
  | some q =>
    obtain ⟨t, a⟩ := q
    rw [hl] at h
    simp only at h ⊢
    unfold loadV at *
    split at h
    · rename_i ty b o' ht he
      split at h
      · rename_i k hk
        have hbR : b ∈ R := hR b (by simp only [rdV, hl, he]; simp)
        rw [ha b hbR k hk]
        exact h
      · cases h
    · exact h
    · cases h
  | none =>
    rw [hl] at h
    exact h
theorem rdV_congr {o : Op} {e e' : Env} (h : ∀ x ∈ o.operands, evO e x = evO e' x) : rdV o e = rdV o e' := by
  unfold rdV
  cases hl : isLoad o with
  | some q =>
    obtain ⟨t, a⟩ := q
    have := isLoad_op hl
    subst this
    simp only
    rw [h a (by simp [Op.operands])]
  | none => rfl

/-! ### Slots -/
def EqE (e e' : Env) : Prop := ∀ t, e.get t = e'.get t
theorem EqE.ev {e e' : Env} (h : EqE e e') (x : Operand) : evO e x = evO e' x := by
  cases x with
  | tmp t => exact h t
  | _ => rfl
theorem put_get (e : Env) (d : Option Nat) (x : AV) (s : Nat) : (e.put d x).get s = if d = some s then x else e.get s := by
  cases d with
  | none => simp [Env.put]
  | some t =>
    simp only [Env.put, Env.set, Env.get, Option.some.injEq]
    by_cases h : s = t
    · subst h; simp
    · rw [if_neg h, if_neg (Ne.symm h)]
theorem EqE.put {e e' : Env} (h : EqE e e') (d : Option Nat) (x : AV) : EqE (e.put d x) (e'.put d x) := fun s => by rw [put_get, put_get, h s]
theorem EqE.symm {e e' : Env} (h : EqE e e') : EqE e' e := fun s => (h s).symm
theorem put_comm {e : Env} {d d' : Option Nat} {x y : AV} (h : ∀ t, d = some t → d' ≠ some t) : EqE ((e.put d x).put d' y) ((e.put d' y).put d x) := fun s => by
  simp only [put_get]
  by_cases h1 : d = some s
  · have := h s h1
    simp [h1, this]
  · simp [h1]
theorem wantedA_congr {ops : Array Oper} {e e' : Env} {o : Oper} (h : ∀ j w d, o.guard = some (j, w) → (ops[j]?).bind (·.dst) = some d → e.get d = e'.get d) : wantedA ops e o = wantedA ops e' o := by
  unfold wantedA
  split
  · rfl
  · rename_i j w hg
    split
    · rename_i d hd
      rw [h j w d hg hd]
    · rfl
theorem EqE.wanted {ops : Array Oper} {e e' : Env} (h : EqE e e') (o : Oper) : wantedA ops e o = wantedA ops e' o := wantedA_congr fun _ _ d _ _ => h d
theorem EqE.op {call : CallF} {lim : Nat} {o : Op} {e e' : Env} {H : Heap} (h : EqE e e') : opV P call lim o e H = opV P call lim o e' H := opV_congr fun x _ => h.ev x
/-- An operation that does not look at a slot does not mind what it holds. -/
theorem apart_ev {ops : Array Oper} {x y : Oper} (h : ∀ d, x.dst = some d → d ∉ y.looksAt ops) (e : Env) (v : AV) : (∀ z ∈ y.op.operands, evO (e.put x.dst v) z = evO e z) ∧ wantedA ops (e.put x.dst v) y = wantedA ops e y := by
  constructor
  · intro z hz
    cases z with
    | tmp t =>
      show (e.put x.dst v).get t = e.get t
      rw [put_get, if_neg]
      intro hd
      refine h t hd ?_
      simp only [Oper.looksAt, List.mem_append, List.mem_filterMap]
      exact .inl ⟨_, by simpa using hz, rfl⟩
    | _ => rfl
  · refine wantedA_congr fun j w d hg hd => ?_
    rw [put_get, if_neg]
    intro hx
    refine h d hx ?_
    simp only [Oper.looksAt, List.mem_append]
    right
    rw [hg]
    simp only
    rw [hd]; simp

/-! ### Orders -/
/-- Whatever order is picked of the next f operations, K holds behind them, and the blocks of R stay as they are. -/
def allO (P : Program) (call : CallF) (lim : Nat) (ops : Array Oper) (R : List Nat) (K : Array Bool → Env → Heap → Prop) : Nat → Array Bool → Env → Heap → Prop
  | 0, listed, e, H => K listed e H
  | f + 1, listed, e, H => Region.ready .any ops listed ≠ [] ∧ ∀ i ∈ Region.ready .any ops listed, ∃ o, ops[i]? = some o ∧
      ((wantedA ops e o = some true ∧ ∃ x H', opV P call lim o.op e H = some (x, H') ∧ stay R H H' ∧ allO P call lim ops R K f (listed.setIfInBounds i true) (e.put o.dst x) H') ∨
        (wantedA ops e o = some false ∧ allO P call lim ops R K f (listed.setIfInBounds i true) (e.put o.dst (.v undef)) H))
theorem allO_eqE {call : CallF} {lim : Nat} {ops : Array Oper} {R : List Nat} {K : Array Bool → Env → Heap → Prop} (hK : ∀ l e e' H, EqE e e' → K l e H → K l e' H) : ∀ (f : Nat) (listed : Array Bool) (e e' : Env) (H : Heap), EqE e e' → allO P call lim ops R K f listed e H → allO P call lim ops R K f listed e' H
  | 0, l, e, e', H, he, h => hK l e e' H he h
  | f + 1, l, e, e', H, he, h => ⟨h.1, fun i hi => by
      obtain ⟨o, ho, hcase⟩ := h.2 i hi
      refine ⟨o, ho, ?_⟩
      rw [← he.wanted o, ← he.op (P := P) (call := call) (lim := lim) (o := o.op) (H := H)]
      rcases hcase with ⟨hw, x, H', hop, hs, hA⟩ | ⟨hw, hA⟩
      · exact .inl ⟨hw, x, H', hop, hs, allO_eqE hK f _ _ _ _ (he.put _ _) hA⟩
      · exact .inr ⟨hw, allO_eqE hK f _ _ _ _ (he.put _ _) hA⟩⟩
/-- What has come up has all come up that it waits for. -/
def Closed (ops : Array Oper) (listed : Array Bool) : Prop := listed.size = ops.size ∧ ∀ j oj, ops[j]? = some oj → listed.getD j false = true → ∀ e ∈ oj.after, Region.binds .any e = true → listed.getD e.on false = true
theorem Closed.set {ops : Array Oper} {listed : Array Bool} (h : Closed ops listed) {i : Nat} (hi : i ∈ Region.ready .any ops listed) : Closed ops (listed.setIfInBounds i true) := by
  obtain ⟨_, oi, hoi, hall⟩ := mem_ready.1 hi
  refine ⟨by simp [h.1], fun j oj hj hl e he hb => ?_⟩
  by_cases hij : i = j
  · subst hij
    have : oj = oi := Option.some.inj (hj.symm.trans hoi)
    subst this
    exact getD_set_true (hall e he hb)
  · rw [getD_set_ne false hij] at hl
    exact getD_set_true (h.2 j oj hj hl e he hb)
def ancB (ops : Array Oper) : Nat → Nat → Nat → Bool
  | 0, _, _ => false
  | f + 1, j, i => match ops[j]? with
    | some o => o.after.any fun e => Region.binds .any e && (e.on == i || ancB ops f e.on i)
    | none => false
theorem ancB_spec {ops : Array Oper} {listed : Array Bool} (hc : Closed ops listed) {i : Nat} : ∀ (f j : Nat) (o : Oper), ops[j]? = some o → (∀ e ∈ o.after, Region.binds .any e = true → listed.getD e.on false = true) → ancB ops f j i = true → listed.getD i false = true
  | 0, _, _, _, _, h => by cases h
  | f + 1, j, o, ho, hall, h => by
    simp only [ancB, ho, Array.any_eq_true', Bool.and_eq_true, Bool.or_eq_true, beq_iff_eq] at h
    obtain ⟨e, he, hb, h⟩ := h
    have hl := hall e he hb
    rcases h with h | h
    · rw [← h]; exact hl
    · cases hk : ops[e.on]? with
      | none =>
        cases f with
        | zero => cases h
        | succ f => simp [ancB, hk] at h
      | some ok => exact ancB_spec hc f e.on ok hk (fun e' he' hb' => hc.2 e.on ok hk hl e' he' hb') h

/-- Those that may come up at the end of the phase wait for i. -/
def WaitB (ops : Array Oper) (fin : List Nat) (i : Nat) : Prop := ∀ j ∈ fin, ancB ops ops.size j i = true
theorem allO_take {call : CallF} {lim : Nat} {ops : Array Oper} {fin : List Nat} {R : List Nat} {K : Array Bool → Env → Heap → Prop} (hK : ∀ l e e' H, EqE e e' → K l e H → K l e' H)
    (hKr : ∀ l e H, K l e H → ∀ j ∈ Region.ready .any ops l, j ∈ fin) {i : Nat} {oi : Oper} {x : AV} {Hs : Heap} (hoi : ops[i]? = some oi) (hwait : ∀ j ∈ fin, ancB ops ops.size j i = true) :
    ∀ (f : Nat) (listed : Array Bool) (e : Env) (H : Heap), Closed ops listed → stay R Hs H → i ∈ Region.ready .any ops listed →
      (∀ j oj, ops[j]? = some oj → j ≠ i → listed.getD j true = false → (∀ e ∈ oj.after, Region.binds .any e = true → e.on ≠ i) → oi.apart ops oj = true) →
      ((wantedA ops e oi = some true ∧ takeV P oi.op e Hs = some x ∧ ∀ b, b ∈ rdV oi.op e → b ∈ R) ∨ (wantedA ops e oi = some false ∧ x = .v undef)) →
      allO P call lim ops R K f (listed.setIfInBounds i true) (e.put oi.dst x) H → allO P call lim ops R K (f + 1) listed e H := by
  intro f
  have never : ∀ {listed : Array Bool} {j : Nat}, Closed ops listed → i ∈ Region.ready .any ops listed → j ∈ Region.ready .any ops listed → j ∉ fin := by
    intro listed j hc hi hj hjf
    obtain ⟨_, oj, hoj, hall⟩ := mem_ready.1 hj
    have h1 := ancB_spec hc _ _ _ hoj hall (hwait j hjf)
    have h2 := getD_both (mem_ready.1 hi).1
    rw [h1] at h2; cases h2
  have self : ∀ {f : Nat} {listed : Array Bool} {e : Env} {H : Heap}, stay R Hs H → ((wantedA ops e oi = some true ∧ takeV P oi.op e Hs = some x ∧ ∀ b, b ∈ rdV oi.op e → b ∈ R) ∨ (wantedA ops e oi = some false ∧ x = .v undef)) →
      allO P call lim ops R K f (listed.setIfInBounds i true) (e.put oi.dst x) H → ∃ o, ops[i]? = some o ∧
      ((wantedA ops e o = some true ∧ ∃ x H', opV P call lim o.op e H = some (x, H') ∧ stay R H H' ∧ allO P call lim ops R K f (listed.setIfInBounds i true) (e.put o.dst x) H') ∨
        (wantedA ops e o = some false ∧ allO P call lim ops R K f (listed.setIfInBounds i true) (e.put o.dst (.v undef)) H)) := by
    intro f listed e H ha hx h
    rcases hx with ⟨hw, hx, hr⟩ | ⟨hw, rfl⟩
    · exact ⟨oi, hoi, .inl ⟨hw, x, H, take_op (take_stay ha hr hx), stay_refl, h⟩⟩
    · exact ⟨oi, hoi, .inr ⟨hw, h⟩⟩
  induction f with
  | zero =>
    intro listed e H hc ha hi hfree hx h
    refine ⟨fun h0 => (by rw [h0] at hi; cases hi), fun j hj => ?_⟩
    by_cases hji : j = i
    · subst hji; exact self ha hx h
    · exact absurd (hKr _ _ _ h j (ready_mono hj hji)) (never hc hi hj)
  | succ f ih =>
    intro listed e H hc ha hi hfree hx h
    refine ⟨fun h0 => (by rw [h0] at hi; cases hi), fun j hj => ?_⟩
    by_cases hji : j = i
    · subst hji; exact self ha hx h
    have hun := (mem_ready.1 hi).1
    obtain ⟨hjun, oj, hoj, hall⟩ := mem_ready.1 hj
    have hnot : ∀ e ∈ oj.after, Region.binds .any e = true → e.on ≠ i := by
      intro e he hb heq
      have h1 := hall e he hb
      rw [heq, getD_both hun] at h1
      cases h1
    have hap := Oper.apart_spec (hfree j oj hoj hji hjun hnot)
    obtain ⟨h1, h2, h3⟩ := hap
    obtain ⟨o', ho', hcase⟩ := h.2 j (ready_mono hj hji)
    rw [hoj] at ho'
    cases ho'
    have hev := apart_ev (x := oi) (y := oj) (ops := ops) h1 e x
    rw [hev.2, opV_congr hev.1] at hcase
    have hfree' : ∀ k ok, ops[k]? = some ok → k ≠ i → (listed.setIfInBounds j true).getD k true = false → (∀ e ∈ ok.after, Region.binds .any e = true → e.on ≠ i) → oi.apart ops ok = true := fun k ok hk hki hku hno => by
      refine hfree k ok hk hki ?_ hno
      by_cases hjk : j = k
      · subst hjk; exact hjun
      · rwa [getD_set_ne true hjk] at hku
    have hnext : ∀ (y : AV) (H' : Heap), stay R Hs H' → allO P call lim ops R K f ((listed.setIfInBounds i true).setIfInBounds j true) ((e.put oi.dst x).put oj.dst y) H' → allO P call lim ops R K (f + 1) (listed.setIfInBounds j true) (e.put oj.dst y) H' := by
      intro y H' ha' hA
      have hev' := apart_ev (x := oj) (y := oi) (ops := ops) h3 e y
      refine ih _ _ _ (hc.set hj) ha' (ready_mono hi (Ne.symm hji)) hfree' ?_ ?_
      · rw [hev'.2, takeV_congr hev'.1, rdV_congr hev'.1]; exact hx
      · rw [Array.setIfInBounds_comm _ _ hji]
        exact allO_eqE hK _ _ _ _ _ (put_comm h2) hA
    refine ⟨oj, hoj, ?_⟩
    rcases hcase with ⟨hw, y, H', hop, hst, hA⟩ | ⟨hw, hA⟩
    · exact .inl ⟨hw, y, H', hop, hst, hnext y H' (ha.trans hst) hA⟩
    · exact .inr ⟨hw, hnext _ H ha hA⟩

theorem pick_cons {ops : Array Oper} {i : Nat} {o : Oper} (h : ops[i]? = some o) (l : List Nat) : pick ops (i :: l) = o :: pick ops l := by simp [pick, h]
/-- A run, in one order, that leaves R alone. -/
def Runs (P : Program) (call : CallF) (lim : Nat) (ops : Array Oper) (R : List Nat) : List Oper → Env → Heap → Env → Heap → Prop
  | [], e, H, e', H' => e' = e ∧ H' = H
  | o :: l, e, H, e', H' => (wantedA ops e o = some true ∧ ∃ x H1, opV P call lim o.op e H = some (x, H1) ∧ stay R H H1 ∧ Runs P call lim ops R l (e.put o.dst x) H1 e' H') ∨
      (wantedA ops e o = some false ∧ Runs P call lim ops R l (e.put o.dst (.v undef)) H e' H')
theorem callB_not {pu : FuncId → Bool} {o : Oper} (h : isCallO o = false) : callB pu o = true := by
  unfold isCallO at h
  unfold callB
  split
  · rename_i ho; rw [ho] at h; cases h
  · rename_i ho; rw [ho] at h; cases h
  · rfl
theorem runs_mid' {call : CallF} {pu : FuncId → Bool} (hp : Still call pu) {lim : Nat} {ops : Array Oper} {R : List Nat} : ∀ (l : List Oper) (e e' : Env) (H H' : Heap), runMid P call lim ops R l e H = some (e', H') → Runs P call lim ops R l e H e' H'
  | [], e, e', H, H', h => by
    simp only [runMid, Option.some.injEq, Prod.mk.injEq] at h
    exact ⟨h.1.symm, h.2.symm⟩
  | o :: l, e, e', H, H', h => by
    simp only [runMid] at h
    split at h
    rotate_left
    · cases h
    rename_i hw
    split at h
    · rename_i hwt
      split at h
      · rename_i x H1 hop
        split at h
        · cases h
        rename_i hst
        have hs : stay R H H1 := by
          cases hc : isCallO o
          · exact op_stay hp (callB_not hc) hw hop
          · rw [hc] at hst
            by_cases hd : stay R H H1
            · exact hd
            · simp [hd] at hst
        exact .inl ⟨hwt, x, H1, hop, hs, runs_mid' hp l _ _ _ _ h⟩
      · cases h
    · rename_i hwt; exact .inr ⟨hwt, runs_mid' hp l _ _ _ _ h⟩
    · cases h
theorem runs_mid {call : CallF} {pu : FuncId → Bool} (hp : Still call pu) {lim : Nat} {ops : Array Oper} {R : List Nat} (l : List Oper) (e e' : Env) (H H' : Heap) (_ : ∀ o ∈ l, callB pu o = true) (h : runMid P call lim ops R l e H = some (e', H')) : Runs P call lim ops R l e H e' H' := runs_mid' hp l e e' H H' h
theorem runs_low {call : CallF} {pu : FuncId → Bool} (hp : Still call pu) {n0 : Nat} {ops : Array Oper} {R : List Nat} (hR : ∀ b, b ∈ R → b < n0) : ∀ (l : List Oper) (e e' : Env) (H H' : Heap), (∀ o ∈ l, callB pu o = true) → n0 ≤ H.length → runOps P call n0 ops l e H = some (e', H') → Runs P call n0 ops R l e H e' H'
  | [], e, e', H, H', _, _, h => by
    simp only [runOps, Option.some.injEq, Prod.mk.injEq] at h
    exact ⟨h.1.symm, h.2.symm⟩
  | o :: l, e, e', H, H', hc, hn, h => by
    simp only [runOps] at h
    split at h
    · rename_i hwt
      split at h
      · rename_i x H1 hop
        have g := op_agree hp (hc o (by simp)) hn hop
        exact .inl ⟨hwt, x, H1, hop, stay_of_agree hR g, runs_low hp hR l _ _ _ _ (fun o ho => hc o (by simp [ho])) (Nat.le_trans hn g.2.1) h⟩
      · cases h
    · rename_i hwt; exact .inr ⟨hwt, runs_low hp hR l _ _ _ _ (fun o ho => hc o (by simp [ho])) hn h⟩
    · cases h
theorem runs_any {call : CallF} {lim : Nat} {ops : Array Oper} : ∀ (l : List Oper) (e e' : Env) (H H' : Heap), runOps P call lim ops l e H = some (e', H') → Runs P call lim ops [] l e H e' H'
  | [], e, e', H, H', h => by
    simp only [runOps, Option.some.injEq, Prod.mk.injEq] at h
    exact ⟨h.1.symm, h.2.symm⟩
  | o :: l, e, e', H, H', h => by
    simp only [runOps] at h
    split at h
    · rename_i hwt
      split at h
      · rename_i x H1 hop; exact .inl ⟨hwt, x, H1, hop, (fun b hb => by cases hb), runs_any l _ _ _ _ h⟩
      · cases h
    · rename_i hwt; exact .inr ⟨hwt, runs_any l _ _ _ _ h⟩
    · cases h
/-- The orders named are all that the edges leave open. -/
def exhB (ops : Array Oper) (k : Array Bool → Bool) : Nat → Array Bool → List (List Nat) → Bool
  | 0, listed, alts => !alts.isEmpty && alts.all (·.isEmpty) && k listed
  | f + 1, listed, alts => !(Region.ready .any ops listed).isEmpty && (Region.ready .any ops listed).all fun i =>
      exhB ops k f (listed.setIfInBounds i true) (alts.filterMap fun l => match l with | j :: t => if j = i then some t else none | [] => none)
theorem exhB_ne {ops : Array Oper} {k : Array Bool → Bool} : ∀ (f : Nat) (listed : Array Bool) (alts : List (List Nat)), exhB ops k f listed alts = true → alts ≠ []
  | 0, listed, alts, h, he => by subst he; simp [exhB] at h
  | f + 1, listed, alts, h, he => by
    subst he
    simp only [exhB, Bool.and_eq_true, List.all_eq_true, List.filterMap_nil] at h
    cases hr : Region.ready .any ops listed with
    | nil => rw [hr] at h; simp at h
    | cons i r => exact exhB_ne f _ _ (h.2 i (by rw [hr]; simp)) rfl
theorem allO_alts {call : CallF} {lim : Nat} {ops : Array Oper} {k : Array Bool → Bool} {R : List Nat} {Q : Env → Heap → Prop} : ∀ (f : Nat) (listed : Array Bool) (alts : List (List Nat)) (e : Env) (H : Heap), exhB ops k f listed alts = true →
    (∀ m ∈ alts, ∃ e' H', Runs P call lim ops R (pick ops m) e H e' H' ∧ Q e' H') → allO P call lim ops R (fun l e H => k l = true ∧ Q e H) f listed e H
  | 0, listed, alts, e, H, h, hr => by
    simp only [exhB, Bool.and_eq_true, List.all_eq_true] at h
    obtain ⟨⟨h1, h2⟩, h3⟩ := h
    cases alts with
    | nil => simp at h1
    | cons m ms =>
      have hm := h2 m (by simp)
      obtain ⟨e', H', g1, g2⟩ := hr m (by simp)
      have : m = [] := by simpa using hm
      subst this
      simp only [pick, List.filterMap_nil, Runs] at g1
      obtain ⟨rfl, rfl⟩ := g1
      exact ⟨h3, g2⟩
  | f + 1, listed, alts, e, H, h, hr => by
    simp only [exhB, Bool.and_eq_true, List.all_eq_true] at h
    refine ⟨fun h0 => by rw [h0] at h; simp at h, fun i hi => ?_⟩
    have hx := h.2 i hi
    have hne := exhB_ne _ _ _ hx
    obtain ⟨t, ht⟩ := List.exists_mem_of_ne_nil _ hne
    obtain ⟨m, hm, hmt⟩ := List.mem_filterMap.1 ht
    obtain ⟨_, o, ho, _⟩ := mem_ready.1 hi
    have sub : ∀ t', t' ∈ (alts.filterMap fun l => match l with | j :: t => if j = i then some t else none | [] => none) → i :: t' ∈ alts := by
      intro t' ht'
      obtain ⟨m', hm', hmt'⟩ := List.mem_filterMap.1 ht'
      split at hmt'
      · split at hmt'
        · rename_i hji; cases hmt'; subst hji; exact hm'
        · cases hmt'
      · cases hmt'
    obtain ⟨e', H', g1, g2⟩ := hr _ (sub t ht)
    rw [pick_cons ho] at g1
    refine ⟨o, ho, ?_⟩
    rcases g1 with ⟨hw, x, H1, hop, hst, g1⟩ | ⟨hw, g1⟩
    · refine .inl ⟨hw, x, H1, hop, hst, allO_alts f _ _ _ _ hx fun t' ht' => ?_⟩
      obtain ⟨e2, H2, q1, q2⟩ := hr _ (sub t' ht')
      rw [pick_cons ho] at q1
      rcases q1 with ⟨hw', x', H1', hop', _, q1⟩ | ⟨hw', q1⟩
      · rw [hop] at hop'; cases hop'; exact ⟨e2, H2, q1, q2⟩
      · rw [hw] at hw'; cases hw'
    · refine .inr ⟨hw, allO_alts f _ _ _ _ hx fun t' ht' => ?_⟩
      obtain ⟨e2, H2, q1, q2⟩ := hr _ (sub t' ht')
      rw [pick_cons ho] at q1
      rcases q1 with ⟨hw', x', H1', hop', _, q1⟩ | ⟨hw', q1⟩
      · rw [hw] at hw'; cases hw'
      · exact ⟨e2, H2, q1, q2⟩

def leadB (ops : Array Oper) (k : Array Bool → Bool) : List Nat → Array Bool → Bool
  | [], listed => k listed
  | i :: r, listed => (Region.ready .any ops listed).contains i && Region.free .any ops listed i && leadB ops k r (listed.setIfInBounds i true)
theorem runLead_low {ops : Array Oper} {Hs : Heap} : ∀ (l : List Oper) (e e' : Env) (R R' : List Nat), runLead P ops l e Hs R = some (e', R') → (∀ b, b ∈ R → b < Hs.length) → (∀ b, b ∈ R → b ∈ R') ∧ ∀ b, b ∈ R' → b < Hs.length
  | [], e, e', R, R', h, hR => by
    simp only [runLead, Option.some.injEq, Prod.mk.injEq] at h
    obtain ⟨_, rfl⟩ := h
    exact ⟨fun _ h => h, hR⟩
  | o :: l, e, e', R, R', h, hR => by
    simp only [runLead] at h
    split at h
    · split at h
      · rename_i x hx
        have hlow : ∀ b, b ∈ rdV o.op e → b < Hs.length := by
          intro b hb
          unfold rdV at hb
          unfold takeV at hx
          split at hb
          · rename_i t a hl
            simp only [hl] at hx
            split at hb
            · rename_i b' o' he
              have : b = b' := by simpa using hb
              subst this
              unfold loadV at hx
              rw [he] at hx
              split at hx
              · rename_i ty b2 o2 ht he2
                cases he2
                split at hx
                · rename_i k hk
                  by_cases hb : b < Hs.length
                  · exact hb
                  · rw [hget, List.getElem?_eq_none (by omega)] at hk; cases hk
                · cases hx
              · rename_i h2; cases h2
              · cases hx
            · cases hb
          · cases hb
        have ih := runLead_low l _ _ _ _ h (fun b hb => by
          rcases List.mem_append.1 hb with hb | hb
          · exact hlow b hb
          · exact hR b hb)
        exact ⟨fun b hb => ih.1 b (by simp [hb]), ih.2⟩
      · cases h
    · exact runLead_low l _ _ _ _ h hR
    · cases h
theorem allO_lead {call : CallF} {lim : Nat} {ops : Array Oper} {fin : List Nat} {R' : List Nat} {K : Array Bool → Env → Heap → Prop} (hK : ∀ l e e' H, EqE e e' → K l e H → K l e' H)
    (hKr : ∀ l e H, K l e H → ∀ j ∈ Region.ready .any ops l, j ∈ fin) {Hs : Heap} {k : Array Bool → Bool} {f : Nat} {e' : Env} :
    ∀ (lead : List Nat) (listed : Array Bool) (e : Env) (R : List Nat), (∀ i ∈ lead, ∀ j ∈ fin, ancB ops ops.size j i = true) → runLead P ops (pick ops lead) e Hs R = some (e', R') → (∀ b, b ∈ R → b < Hs.length) → leadB ops k lead listed = true → Closed ops listed →
      (∀ l, k l = true → allO P call lim ops R' K f l e' Hs) → allO P call lim ops R' K (f + lead.length) listed e Hs
  | [], listed, e, R, _, hr, _, hb, hc, h => by
    simp only [pick, List.filterMap_nil, runLead, Option.some.injEq, Prod.mk.injEq] at hr
    obtain ⟨rfl, rfl⟩ := hr
    exact h _ hb
  | i :: r, listed, e, R, hw, hr, hRl, hb, hc, h => by
    simp only [leadB, Bool.and_eq_true, List.contains_iff_mem] at hb
    obtain ⟨⟨hi, hf⟩, hb⟩ := hb
    obtain ⟨_, o, ho, _⟩ := mem_ready.1 hi
    have hall := hr
    rw [pick_cons ho] at hr hall
    simp only [runLead] at hr
    split at hr
    · rename_i hwt
      split at hr
      · rename_i x hx
        have hlow : ∀ b, b ∈ rdV o.op e ++ R → b < Hs.length := by
          have := (runLead_low (P := P) (ops := ops) (Hs := Hs) [o] e (e.put o.dst x) R (rdV o.op e ++ R) (by simp only [runLead, hwt, hx]) hRl).2
          exact this
        have hsub := (runLead_low _ _ _ _ _ hr hlow).1
        exact allO_take hK hKr ho (hw i (by simp)) (f + r.length) listed e Hs hc stay_refl hi (Region.free_spec ho hf) (.inl ⟨hwt, hx, fun b hb => hsub b (by simp [hb])⟩)
          (allO_lead hK hKr r _ _ _ (fun i' hi' => hw i' (by simp [hi'])) hr hlow hb (hc.set hi) h)
      · cases hr
    · rename_i hwt
      exact allO_take hK hKr ho (hw i (by simp)) (f + r.length) listed e Hs hc stay_refl hi (Region.free_spec ho hf) (.inr ⟨hwt, rfl⟩)
          (allO_lead hK hKr r _ _ _ (fun i' hi' => hw i' (by simp [hi'])) hr hRl hb (hc.set hi) h)
    · cases hr

theorem allO_add {call : CallF} {lim : Nat} {ops : Array Oper} {R : List Nat} {K : Array Bool → Env → Heap → Prop} : ∀ (f g : Nat) (listed : Array Bool) (e : Env) (H : Heap), allO P call lim ops R (fun l e H => allO P call lim ops R K g l e H) f listed e H → allO P call lim ops R K (f + g) listed e H
  | 0, g, l, e, H, h => by rw [Nat.zero_add]; exact h
  | f + 1, g, l, e, H, h => by
    rw [show f + 1 + g = (f + g) + 1 by omega]
    refine ⟨h.1, fun i hi => ?_⟩
    obtain ⟨o, ho, hcase⟩ := h.2 i hi
    refine ⟨o, ho, ?_⟩
    rcases hcase with ⟨hw, x, H1, hop, hst, hA⟩ | ⟨hw, hA⟩
    · exact .inl ⟨hw, x, H1, hop, hst, allO_add f g _ _ _ hA⟩
    · exact .inr ⟨hw, allO_add f g _ _ _ hA⟩
theorem allO_closed {call : CallF} {lim : Nat} {ops : Array Oper} {R : List Nat} {K : Array Bool → Env → Heap → Prop} : ∀ (f : Nat) (listed : Array Bool) (e : Env) (H : Heap), allO P call lim ops R K f listed e H → Closed ops listed → allO P call lim ops R (fun l e H => K l e H ∧ Closed ops l) f listed e H
  | 0, l, e, H, h, hc => ⟨h, hc⟩
  | f + 1, l, e, H, h, hc => by
    refine ⟨h.1, fun i hi => ?_⟩
    obtain ⟨o, ho, hcase⟩ := h.2 i hi
    refine ⟨o, ho, ?_⟩
    rcases hcase with ⟨hw, x, H1, hop, hst, hA⟩ | ⟨hw, hA⟩
    · exact .inl ⟨hw, x, H1, hop, hst, allO_closed f _ _ _ hA (hc.set hi)⟩
    · exact .inr ⟨hw, allO_closed f _ _ _ hA (hc.set hi)⟩
theorem allO_leadF {call : CallF} {lim : Nat} {ops : Array Oper} {fin : List Nat} {R' Rf : List Nat} (hF : ∀ b, b ∈ R' → b ∈ Rf) {K : Array Bool → Env → Heap → Prop} (hK : ∀ l e e' H, EqE e e' → K l e H → K l e' H)
    (hKr : ∀ l e H, K l e H → ∀ j ∈ Region.ready .any ops l, j ∈ fin) {Hs : Heap} {k : Array Bool → Bool} {f : Nat} {e' : Env} :
    ∀ (lead : List Nat) (listed : Array Bool) (e : Env) (R : List Nat), (∀ i ∈ lead, ∀ j ∈ fin, ancB ops ops.size j i = true) → runLead P ops (pick ops lead) e Hs R = some (e', R') → (∀ b, b ∈ R → b < Hs.length) → leadB ops k lead listed = true → Closed ops listed →
      (∀ l, k l = true → Closed ops l → allO P call lim ops Rf K f l e' Hs) → allO P call lim ops Rf K (f + lead.length) listed e Hs
  | [], listed, e, R, _, hr, _, hb, hc, h => by
    simp only [pick, List.filterMap_nil, runLead, Option.some.injEq, Prod.mk.injEq] at hr
    obtain ⟨rfl, rfl⟩ := hr
    exact h _ hb hc
  | i :: r, listed, e, R, hw, hr, hRl, hb, hc, h => by
    simp only [leadB, Bool.and_eq_true, List.contains_iff_mem] at hb
    obtain ⟨⟨hi, hf⟩, hb⟩ := hb
    obtain ⟨_, o, ho, _⟩ := mem_ready.1 hi
    have hall := hr
    rw [pick_cons ho] at hr hall
    simp only [runLead] at hr
    split at hr
    · rename_i hwt
      split at hr
      · rename_i x hx
        have hlow : ∀ b, b ∈ rdV o.op e ++ R → b < Hs.length := by
          have := (runLead_low (P := P) (ops := ops) (Hs := Hs) [o] e (e.put o.dst x) R (rdV o.op e ++ R) (by simp only [runLead, hwt, hx]) hRl).2
          exact this
        have hsub := (runLead_low _ _ _ _ _ hr hlow).1
        exact allO_take hK hKr ho (hw i (by simp)) (f + r.length) listed e Hs hc stay_refl hi (Region.free_spec ho hf) (.inl ⟨hwt, hx, fun b hb => hF b (hsub b (by simp [hb]))⟩)
          (allO_leadF hF hK hKr r _ _ _ (fun i' hi' => hw i' (by simp [hi'])) hr hlow hb (hc.set hi) h)
      · cases hr
    · rename_i hwt
      exact allO_take hK hKr ho (hw i (by simp)) (f + r.length) listed e Hs hc stay_refl hi (Region.free_spec ho hf) (.inr ⟨hwt, rfl⟩)
          (allO_leadF hF hK hKr r _ _ _ (fun i' hi' => hw i' (by simp [hi'])) hr hRl hb (hc.set hi) h)
    · cases hr

/-- What is asked of a region's edges, for the way 'led'. -/
def ledB (pu : FuncId → Bool) (ops : Array Oper) (lead : List Nat) (mids : List (List Nat)) (fin : List Nat) : Bool :=
  (lead.all fun i => fin.all fun j => ancB ops ops.size j i) && (fin.length + ((mids.headD []).length + lead.length) == ops.size) &&
  leadB ops (fun l => exhB ops (fun l' => (Region.ready .any ops l').all (fin.contains ·) && exhB ops (fun l'' => (Region.ready .any ops l'').isEmpty) fin.length l' [fin]) (mids.headD []).length l mids) lead (Array.replicate ops.size false) && mids.all fun m => (pick ops m).all (callB pu)
theorem closed0 (ops : Array Oper) : Closed ops (Array.replicate ops.size false) := ⟨by simp, fun j oj _ hl => (by rw [getD_replicate_false] at hl; cases hl)⟩
theorem allO_mono {call : CallF} {lim : Nat} {ops : Array Oper} {R : List Nat} : ∀ (f : Nat) (l : Array Bool) (e : Env) (H' : Heap) {K K' : Array Bool → Env → Heap → Prop}, (∀ l e H, K l e H → K' l e H) → allO P call lim ops R K f l e H' → allO P call lim ops R K' f l e H' := by
  intro f
  induction f with
  | zero => intro l e H' K K' hh h; exact hh _ _ _ h
  | succ f ih =>
    intro l e H' K K' hh h
    refine ⟨h.1, fun i hi => ?_⟩
    obtain ⟨o, ho, hcase⟩ := h.2 i hi
    refine ⟨o, ho, ?_⟩
    rcases hcase with ⟨hw, x, H1, hop, hst, hA⟩ | ⟨hw, hA⟩
    · exact .inl ⟨hw, x, H1, hop, hst, ih _ _ _ hh hA⟩
    · exact .inr ⟨hw, ih _ _ _ hh hA⟩
theorem ledB_calls {pu : FuncId → Bool} {ops : Array Oper} {lead : List Nat} {mids : List (List Nat)} {fin : List Nat} (hb : ledB pu ops lead mids fin = true) : ∀ m ∈ mids, ∀ o ∈ pick ops m, callB pu o = true := by
  simp only [ledB, Bool.and_eq_true, List.all_eq_true] at hb
  exact hb.2
theorem allO_led {call : CallF} {pu : FuncId → Bool} {lim : Nat} {ops : Array Oper} {lead : List Nat} {mids : List (List Nat)} {fin : List Nat} {R : List Nat} {e e0 : Env} {H : Heap} {Q : Env → Heap → Prop} (hb : ledB pu ops lead mids fin = true)
    (hl : runLead P ops (pick ops lead) e0 H [] = some (e, R)) (hm : ∀ m ∈ mids, ∃ e' H', Runs P call lim ops R (pick ops m) e H e' H' ∧ Q e' H') :
    fin.length + ((mids.headD []).length + lead.length) = ops.size ∧
    allO P call lim ops R (fun l e' H' => exhB ops (fun l'' => (Region.ready .any ops l'').isEmpty) fin.length l [fin] = true ∧ ∃ e2, EqE e2 e' ∧ Q e2 H') ((mids.headD []).length + lead.length) (Array.replicate ops.size false) e0 H := by
  simp only [ledB, Bool.and_eq_true, List.all_eq_true, beq_iff_eq] at hb
  obtain ⟨⟨⟨hw, hsz⟩, hlead⟩, -⟩ := hb
  refine ⟨hsz, ?_⟩
  have key := allO_lead (P := P) (call := call) (lim := lim) (ops := ops) (fin := fin) (R' := R) (K := fun l e' H' => ((Region.ready .any ops l).all (fin.contains ·) && exhB ops (fun l'' => (Region.ready .any ops l'').isEmpty) fin.length l [fin]) = true ∧ ∃ e2, EqE e2 e' ∧ Q e2 H')
    (fun l e e' H he ⟨h1, e2, h2, h3⟩ => ⟨h1, e2, fun t => (h2 t).trans (he t), h3⟩)
    (fun l e H h j hj => by
      have h1 := h.1
      simp only [Bool.and_eq_true, List.all_eq_true, List.contains_iff_mem] at h1
      exact h1.1 j hj)
    (f := (mids.headD []).length) lead _ e0 [] hw hl (fun b hb => by cases hb) hlead (closed0 ops) (fun l hk => by
      have := allO_alts (P := P) (call := call) (lim := lim) (Q := Q) _ _ _ e H hk hm
      exact allO_mono _ _ _ _ (fun l e H h => ⟨h.1, e, fun _ => rfl, h.2⟩) this)
  exact allO_mono _ _ _ _ (fun l e H h => ⟨by have := h.1; simp only [Bool.and_eq_true] at this; exact this.2, h.2⟩) key

/-- The same for the way 'led2'. -/
def led2B (pu : FuncId → Bool) (ops : Array Oper) (lead mid lead2 : List Nat) (mids : List (List Nat)) (fin : List Nat) : Bool :=
  (lead.all fun i => fin.all fun j => ancB ops ops.size j i) && (lead2.all fun i => fin.all fun j => ancB ops ops.size j i) && (fin.length + (mid.length + ((mids.headD []).length + lead2.length) + lead.length) == ops.size) &&
  leadB ops (fun l => exhB ops (fun l1 => leadB ops (fun l2 => exhB ops (fun l' => (Region.ready .any ops l').all (fin.contains ·) && exhB ops (fun l'' => (Region.ready .any ops l'').isEmpty) fin.length l' [fin]) (mids.headD []).length l2 mids) lead2 l1) mid.length l [mid]) lead (Array.replicate ops.size false) &&
  ((pick ops mid).all (callB pu) && mids.all fun m => (pick ops m).all (callB pu))
theorem led2B_calls {pu : FuncId → Bool} {ops : Array Oper} {lead mid lead2 : List Nat} {mids : List (List Nat)} {fin : List Nat} (hb : led2B pu ops lead mid lead2 mids fin = true) : (∀ o ∈ pick ops mid, callB pu o = true) ∧ ∀ m ∈ mids, ∀ o ∈ pick ops m, callB pu o = true := by
  simp only [led2B, Bool.and_eq_true, List.all_eq_true] at hb
  exact hb.2
theorem allO_led2 {call : CallF} {pu : FuncId → Bool} {lim : Nat} {ops : Array Oper} {lead mid lead2 : List Nat} {mids : List (List Nat)} {fin : List Nat} {R R2 : List Nat} {e e0 e1 e2 : Env} {H : Heap} {Q : Env → Heap → Prop} (hb : led2B pu ops lead mid lead2 mids fin = true)
    (hl : runLead P ops (pick ops lead) e0 H [] = some (e, R)) (h1 : Runs P call lim ops R2 (pick ops mid) e H e1 H) (hl2 : runLead P ops (pick ops lead2) e1 H R = some (e2, R2)) (hm : ∀ m ∈ mids, ∃ e' H', Runs P call lim ops R2 (pick ops m) e2 H e' H' ∧ Q e' H') :
    fin.length + (mid.length + ((mids.headD []).length + lead2.length) + lead.length) = ops.size ∧
    allO P call lim ops R2 (fun l e' H' => exhB ops (fun l'' => (Region.ready .any ops l'').isEmpty) fin.length l [fin] = true ∧ ∃ e2, EqE e2 e' ∧ Q e2 H') (mid.length + ((mids.headD []).length + lead2.length) + lead.length) (Array.replicate ops.size false) e0 H := by
  simp only [led2B, Bool.and_eq_true, List.all_eq_true, beq_iff_eq] at hb
  obtain ⟨⟨⟨⟨hw, hw2⟩, hsz⟩, hlead⟩, -⟩ := hb
  refine ⟨hsz, ?_⟩
  have low1 := runLead_low _ _ _ _ _ hl (fun b hb => by cases hb)
  have low2 := runLead_low _ _ _ _ _ hl2 low1.2
  have hK : ∀ (l : Array Bool) (e e' : Env) (H : Heap), EqE e e' → (((Region.ready .any ops l).all (fin.contains ·) && exhB ops (fun l'' => (Region.ready .any ops l'').isEmpty) fin.length l [fin]) = true ∧ ∃ e2, EqE e2 e ∧ Q e2 H) → (((Region.ready .any ops l).all (fin.contains ·) && exhB ops (fun l'' => (Region.ready .any ops l'').isEmpty) fin.length l [fin]) = true ∧ ∃ e2, EqE e2 e' ∧ Q e2 H) :=
    fun l e e' H he ⟨h1, e2, h2, h3⟩ => ⟨h1, e2, fun t => (h2 t).trans (he t), h3⟩
  have hKr : ∀ (l : Array Bool) (e : Env) (H : Heap), (((Region.ready .any ops l).all (fin.contains ·) && exhB ops (fun l'' => (Region.ready .any ops l'').isEmpty) fin.length l [fin]) = true ∧ ∃ e2, EqE e2 e ∧ Q e2 H) → ∀ j ∈ Region.ready .any ops l, j ∈ fin := fun l e H h j hj => by
    have h1 := h.1
    simp only [Bool.and_eq_true, List.all_eq_true, List.contains_iff_mem] at h1
    exact h1.1 j hj
  have key := allO_leadF (P := P) (call := call) (lim := lim) (ops := ops) (fin := fin) (R' := R) (Rf := R2) low2.1 hK hKr
    (f := mid.length + ((mids.headD []).length + lead2.length)) lead _ e0 [] hw hl (fun b hb => by cases hb) hlead (closed0 ops) (fun l hk hcl => by
      refine allO_add _ _ _ _ _ ?_
      have a := allO_alts (P := P) (call := call) (lim := lim) (R := R2) (Q := fun e' H' => e' = e1 ∧ H' = H) _ _ _ e H hk (fun m hm => by
        have : m = mid := by simpa using hm
        subst this
        exact ⟨e1, H, h1, rfl, rfl⟩)
      refine allO_mono _ _ _ _ ?_ (allO_closed _ _ _ _ a hcl)
      rintro l1 e' H' ⟨⟨g1, rfl, rfl⟩, hcl1⟩
      refine allO_leadF (R' := R2) (Rf := R2) (fun _ h => h) hK hKr (f := (mids.headD []).length) lead2 l1 _ R hw2 hl2 low1.2 g1 hcl1 fun l2 hk2 _ => ?_
      have b := allO_alts (P := P) (call := call) (lim := lim) (R := R2) (Q := Q) _ _ _ e2 _ hk2 hm
      exact allO_mono _ _ _ _ (fun l e H h => ⟨h.1, e, fun _ => rfl, h.2⟩) b)
  exact allO_mono _ _ _ _ (fun l e H h => ⟨by have := h.1; simp only [Bool.and_eq_true] at this; exact this.2, h.2⟩) key

/-! ### What an order leaves -/
theorem runOps_agree {call : CallF} {pu : FuncId → Bool} (hp : Still call pu) {n0 : Nat} {ops : Array Oper} : ∀ (l : List Oper) (e e' : Env) (H H' : Heap), (∀ o ∈ l, callB pu o = true) → n0 ≤ H.length → runOps P call n0 ops l e H = some (e', H') → agree n0 H H'
  | [], e, e', H, H', _, hn, h => by
    simp only [runOps, Option.some.injEq, Prod.mk.injEq] at h
    obtain ⟨_, rfl⟩ := h
    exact agree_refl hn
  | o :: l, e, e', H, H', hc, hn, h => by
    simp only [runOps] at h
    split at h
    · split at h
      · rename_i x H1 hop
        have g := op_agree hp (hc o (by simp)) hn hop
        exact g.trans (runOps_agree hp l _ _ _ _ (fun o ho => hc o (by simp [ho])) (Nat.le_trans hn g.2.1) h)
      · cases h
    · exact runOps_agree hp l _ _ _ _ (fun o ho => hc o (by simp [ho])) hn h
    · cases h
theorem veq_eq {x y : Value} (h : veq x y = true) : x = y := by
  unfold veq at h
  split at h
  · simp only [Bool.and_eq_true, beq_iff_eq] at h; rw [h.1, h.2]
  · simp only [beq_iff_eq] at h; rw [h]
  · simp only [Bool.and_eq_true, beq_iff_eq] at h; rw [h.1, h.2]
  · cases h
theorem leq_eq {α : Type} {f : α → α → Bool} (hf : ∀ x y, f x y = true → x = y) : ∀ (l m : List α), leq f l m = true → l = m
  | [], [], _ => rfl
  | x :: l, y :: m, h => by
    simp only [leq, Bool.and_eq_true] at h
    rw [hf _ _ h.1, leq_eq hf l m h.2]
  | [], _ :: _, h => by cases h
  | _ :: _, [], h => by cases h
theorem aveq_eq : ∀ (d : Nat) (x y : AV), aveq d x y = true → x = y
  | 0, _, _, h => by cases h
  | d + 1, x, y, h => by
    unfold aveq at h
    split at h
    · rfl
    · rw [veq_eq h]
    · simp only [Bool.and_eq_true, beq_iff_eq] at h; rw [h.1, leq_eq (aveq_eq d) _ _ h.2]
    · simp only [Bool.and_eq_true, beq_iff_eq] at h; rw [h.1.1.1, h.1.1.2, h.1.2, h.2]
    · simp only [Bool.and_eq_true, beq_iff_eq] at h; rw [h.1, h.2]
    · rw [leq_eq (aveq_eq d) _ _ h]
    · rw [leq_eq (aveq_eq d) _ _ h]
    · cases h
theorem beq_eq {x y : Option Blk} (h : beq x y = true) : x = y := by
  unfold beq at h
  split at h
  · rfl
  · rw [leq_eq (aveq_eq 9) _ _ h]
  · cases h
/-- The same for the way 'led3': two rounds of reads and one order. -/
def led3B (pu : FuncId → Bool) (ops : Array Oper) (lead mid lead2 m fin : List Nat) : Bool :=
  (lead.all fun i => (lead2 ++ m ++ fin).all fun j => ancB ops ops.size j i) && (lead2.all fun i => fin.all fun j => ancB ops ops.size j i) && (fin.length + (mid.length + lead.length + (m.length + lead2.length)) == ops.size) &&
  leadB ops (fun l => exhB ops (fun l1 => (Region.ready .any ops l1).all ((lead2 ++ m ++ fin).contains ·) && leadB ops (fun l2 => exhB ops (fun l' => (Region.ready .any ops l').all (fin.contains ·) && exhB ops (fun l'' => (Region.ready .any ops l'').isEmpty) fin.length l' [fin]) m.length l2 [m]) lead2 l1) mid.length l [mid]) lead (Array.replicate ops.size false) &&
  ((pick ops mid).all (callB pu) && (pick ops m).all (callB pu))
theorem led3B_calls {pu : FuncId → Bool} {ops : Array Oper} {lead mid lead2 m fin : List Nat} (hb : led3B pu ops lead mid lead2 m fin = true) : (∀ o ∈ pick ops mid, callB pu o = true) ∧ ∀ o ∈ pick ops m, callB pu o = true := by
  simp only [led3B, Bool.and_eq_true, List.all_eq_true] at hb
  exact hb.2
theorem allO_any {call : CallF} {lim : Nat} {ops : Array Oper} {R : List Nat} {K : Array Bool → Env → Heap → Prop} : ∀ (f : Nat) (l : Array Bool) (e : Env) (H : Heap), allO P call lim ops R K f l e H → allO P call lim ops [] K f l e H
  | 0, l, e, H, h => h
  | f + 1, l, e, H, h => by
    refine ⟨h.1, fun i hi => ?_⟩
    obtain ⟨o, ho, hcase⟩ := h.2 i hi
    refine ⟨o, ho, ?_⟩
    rcases hcase with ⟨hw, x, H1, hop, hst, hA⟩ | ⟨hw, hA⟩
    · exact .inl ⟨hw, x, H1, hop, (fun b hb => by cases hb), allO_any f _ _ _ hA⟩
    · exact .inr ⟨hw, allO_any f _ _ _ hA⟩
theorem allO_led3 {call : CallF} {pu : FuncId → Bool} {lim : Nat} {ops : Array Oper} {lead mid lead2 m fin : List Nat} {R R2 : List Nat} {e e0 e1 e2 e3 : Env} {H H1 H3 : Heap} (hb : led3B pu ops lead mid lead2 m fin = true)
    (hl : runLead P ops (pick ops lead) e0 H [] = some (e, R)) (h1 : Runs P call lim ops R (pick ops mid) e H e1 H1) (hl2 : runLead P ops (pick ops lead2) e1 H1 [] = some (e2, R2)) (hm : Runs P call lim ops R2 (pick ops m) e2 H1 e3 H3) :
    fin.length + (mid.length + lead.length + (m.length + lead2.length)) = ops.size ∧
    allO P call lim ops [] (fun l e' H' => exhB ops (fun l'' => (Region.ready .any ops l'').isEmpty) fin.length l [fin] = true ∧ EqE e3 e' ∧ H' = H3) (mid.length + lead.length + (m.length + lead2.length)) (Array.replicate ops.size false) e0 H := by
  simp only [led3B, Bool.and_eq_true, List.all_eq_true, beq_iff_eq] at hb
  obtain ⟨⟨⟨⟨hw, hw2⟩, hsz⟩, hlead⟩, -⟩ := hb
  refine ⟨hsz, ?_⟩
  -- the second round
  have second : ∀ (l1 : Array Bool), Closed ops l1 → leadB ops (fun l2 => exhB ops (fun l' => (Region.ready .any ops l').all (fin.contains ·) && exhB ops (fun l'' => (Region.ready .any ops l'').isEmpty) fin.length l' [fin]) m.length l2 [m]) lead2 l1 = true →
      allO P call lim ops R2 (fun l e' H' => ((Region.ready .any ops l).all (fin.contains ·) && exhB ops (fun l'' => (Region.ready .any ops l'').isEmpty) fin.length l [fin]) = true ∧ EqE e3 e' ∧ H' = H3) (m.length + lead2.length) l1 e1 H1 := by
    intro l1 hc hlb
    refine allO_lead (P := P) (call := call) (lim := lim) (ops := ops) (fin := fin) (R' := R2) (fun l e e' H he ⟨h1, h2, h3⟩ => ⟨h1, fun t => (h2 t).trans (he t), h3⟩)
      (fun l e H h j hj => by
        have h1 := h.1
        simp only [Bool.and_eq_true, List.all_eq_true, List.contains_iff_mem] at h1
        exact h1.1 j hj)
      (f := m.length) lead2 _ e1 [] hw2 hl2 (fun b hb => by cases hb) hlb hc (fun l hk => ?_)
    have := allO_alts (P := P) (call := call) (lim := lim) (R := R2) (Q := fun e' H' => e' = e3 ∧ H' = H3) _ _ _ e2 H1 hk (fun m' hm' => by
      have : m' = m := by simpa using hm'
      subst this
      exact ⟨e3, H3, hm, rfl, rfl⟩)
    exact allO_mono _ _ _ _ (fun l e H h => ⟨h.1, fun t => by rw [h.2.1], h.2.2⟩) this
  -- the first round
  have hK1 : ∀ (l : Array Bool) (e e' : Env) (H : Heap), EqE e e' →
      (((Region.ready .any ops l).all ((lead2 ++ m ++ fin).contains ·) && leadB ops (fun l2 => exhB ops (fun l' => (Region.ready .any ops l').all (fin.contains ·) && exhB ops (fun l'' => (Region.ready .any ops l'').isEmpty) fin.length l' [fin]) m.length l2 [m]) lead2 l) = true ∧ EqE e1 e ∧ H = H1) →
      (((Region.ready .any ops l).all ((lead2 ++ m ++ fin).contains ·) && leadB ops (fun l2 => exhB ops (fun l' => (Region.ready .any ops l').all (fin.contains ·) && exhB ops (fun l'' => (Region.ready .any ops l'').isEmpty) fin.length l' [fin]) m.length l2 [m]) lead2 l) = true ∧ EqE e1 e' ∧ H = H1) :=
    fun l e e' H he ⟨h1, h2, h3⟩ => ⟨h1, fun t => (h2 t).trans (he t), h3⟩
  have key := allO_lead (P := P) (call := call) (lim := lim) (ops := ops) (fin := lead2 ++ m ++ fin) (R' := R) hK1
    (fun l e H h j hj => by
      have h1 := h.1
      simp only [Bool.and_eq_true, List.all_eq_true, List.contains_iff_mem] at h1
      exact h1.1 j hj)
    (f := mid.length) lead _ e0 [] hw hl (fun b hb => by cases hb) hlead (closed0 ops) (fun l hk => by
      have := allO_alts (P := P) (call := call) (lim := lim) (R := R) (Q := fun e' H' => e' = e1 ∧ H' = H1) _ _ _ e H hk (fun m' hm' => by
        have : m' = mid := by simpa using hm'
        subst this
        exact ⟨e1, H1, h1, rfl, rfl⟩)
      exact allO_mono _ _ _ _ (fun l e H h => ⟨h.1, fun t => by rw [h.2.1], h.2.2⟩) this)
  refine allO_add _ _ _ _ _ ?_
  refine allO_mono _ _ _ _ ?_ (allO_any _ _ _ _ (allO_closed _ _ _ _ key (closed0 ops)))
  rintro l1 e' H' ⟨⟨g1, g2, rfl⟩, hcl⟩
  simp only [Bool.and_eq_true] at g1
  refine allO_mono _ _ _ _ (fun l e H h => ⟨by have := h.1; simp only [Bool.and_eq_true] at this; exact this.2, h.2⟩) (allO_any _ _ _ _ (allO_eqE ?_ _ _ _ _ _ g2 (second l1 hcl g1.2)))
  exact fun l e e' H he ⟨h1, h2, h3⟩ => ⟨h1, fun t => (h2 t).trans (he t), h3⟩

/-- The same for the way 'led4'. -/
def led4B (pu : FuncId → Bool) (ops : Array Oper) (lead lead2 m fin : List Nat) : Bool :=
  (lead.all fun i => fin.all fun j => ancB ops ops.size j i) && (lead2.all fun i => (m ++ fin).all fun j => ancB ops ops.size j i) && (fin.length + (lead2.length + m.length + lead.length) == ops.size) &&
  leadB ops (fun l => leadB ops (fun l1 => (Region.ready .any ops l1).all ((m ++ fin).contains ·) && exhB ops (fun l' => (Region.ready .any ops l').all (fin.contains ·) && exhB ops (fun l'' => (Region.ready .any ops l'').isEmpty) fin.length l' [fin]) m.length l1 [m]) lead2 l) lead (Array.replicate ops.size false) && (pick ops m).all (callB pu)
theorem led4B_calls {pu : FuncId → Bool} {ops : Array Oper} {lead lead2 m fin : List Nat} (hb : led4B pu ops lead lead2 m fin = true) : ∀ o ∈ pick ops m, callB pu o = true := by
  simp only [led4B, Bool.and_eq_true, List.all_eq_true] at hb
  exact hb.2
theorem allO_less {call : CallF} {lim : Nat} {ops : Array Oper} {R R' : List Nat} (hs : ∀ b, b ∈ R' → b ∈ R) {K : Array Bool → Env → Heap → Prop} : ∀ (f : Nat) (l : Array Bool) (e : Env) (H : Heap), allO P call lim ops R K f l e H → allO P call lim ops R' K f l e H
  | 0, l, e, H, h => h
  | f + 1, l, e, H, h => by
    refine ⟨h.1, fun i hi => ?_⟩
    obtain ⟨o, ho, hcase⟩ := h.2 i hi
    refine ⟨o, ho, ?_⟩
    rcases hcase with ⟨hw, x, H1, hop, hst, hA⟩ | ⟨hw, hA⟩
    · exact .inl ⟨hw, x, H1, hop, (fun b hb => hst b (hs b hb)), allO_less hs f _ _ _ hA⟩
    · exact .inr ⟨hw, allO_less hs f _ _ _ hA⟩
theorem allO_led4 {call : CallF} {pu : FuncId → Bool} {lim : Nat} {ops : Array Oper} {lead lead2 m fin : List Nat} {R R2 : List Nat} {e e0 e2 e3 : Env} {H H3 : Heap} (hb : led4B pu ops lead lead2 m fin = true)
    (hl : runLead P ops (pick ops lead) e0 H [] = some (e, R)) (hl2 : runLead P ops (pick ops lead2) e H R = some (e2, R2)) (hm : Runs P call lim ops R (pick ops m) e2 H e3 H3) :
    fin.length + (lead2.length + m.length + lead.length) = ops.size ∧
    allO P call lim ops R (fun l e' H' => exhB ops (fun l'' => (Region.ready .any ops l'').isEmpty) fin.length l [fin] = true ∧ EqE e3 e' ∧ H' = H3) (lead2.length + m.length + lead.length) (Array.replicate ops.size false) e0 H := by
  simp only [led4B, Bool.and_eq_true, List.all_eq_true, beq_iff_eq] at hb
  obtain ⟨⟨⟨⟨hw, hw2⟩, hsz⟩, hlead⟩, -⟩ := hb
  refine ⟨hsz, ?_⟩
  have low1 := runLead_low _ _ _ _ _ hl (fun b hb => by cases hb)
  have low2 := runLead_low _ _ _ _ _ hl2 low1.2
  have hK : ∀ (l : Array Bool) (e e' : Env) (H : Heap), EqE e e' → (((Region.ready .any ops l).all (fin.contains ·) && exhB ops (fun l'' => (Region.ready .any ops l'').isEmpty) fin.length l [fin]) = true ∧ EqE e3 e ∧ H = H3) → (((Region.ready .any ops l).all (fin.contains ·) && exhB ops (fun l'' => (Region.ready .any ops l'').isEmpty) fin.length l [fin]) = true ∧ EqE e3 e' ∧ H = H3) :=
    fun l e e' H he ⟨h1, h2, h3⟩ => ⟨h1, fun t => (h2 t).trans (he t), h3⟩
  have hK1 : ∀ (l : Array Bool) (e e' : Env) (H0 : Heap), EqE e e' →
      (((Region.ready .any ops l).all ((m ++ fin).contains ·) && exhB ops (fun l' => (Region.ready .any ops l').all (fin.contains ·) && exhB ops (fun l'' => (Region.ready .any ops l'').isEmpty) fin.length l' [fin]) m.length l [m]) = true ∧ EqE e2 e ∧ H0 = H) →
      (((Region.ready .any ops l).all ((m ++ fin).contains ·) && exhB ops (fun l' => (Region.ready .any ops l').all (fin.contains ·) && exhB ops (fun l'' => (Region.ready .any ops l'').isEmpty) fin.length l' [fin]) m.length l [m]) = true ∧ EqE e2 e' ∧ H0 = H) :=
    fun l e e' H0 he ⟨h1, h2, h3⟩ => ⟨h1, fun t => (h2 t).trans (he t), h3⟩
  have key := allO_leadF (P := P) (call := call) (lim := lim) (ops := ops) (fin := fin) (R' := R) (Rf := R) (fun _ h => h) hK
    (fun l e H h j hj => by
      have h1 := h.1
      simp only [Bool.and_eq_true, List.all_eq_true, List.contains_iff_mem] at h1
      exact h1.1 j hj)
    (f := lead2.length + m.length) lead _ e0 [] hw hl (fun b hb => by cases hb) hlead (closed0 ops) (fun l hk hc => by
      have key2 := allO_leadF (P := P) (call := call) (lim := lim) (ops := ops) (fin := m ++ fin) (R' := R2) (Rf := R2) (fun _ h => h) hK1
        (fun l e H h j hj => by
          have h1 := h.1
          simp only [Bool.and_eq_true, List.all_eq_true, List.contains_iff_mem] at h1
          exact h1.1 j hj)
        (f := 0) lead2 l e R hw2 hl2 low1.2 hk hc (fun l1 hk1 _ => ⟨hk1, fun _ => rfl, rfl⟩)
      rw [Nat.zero_add] at key2
      refine allO_add _ _ _ _ _ (allO_mono _ _ _ _ ?_ (allO_less low2.1 _ _ _ _ key2))
      rintro l1 e' H' ⟨g1, g2, rfl⟩
      simp only [Bool.and_eq_true] at g1
      have := allO_alts (P := P) (call := call) (lim := lim) (R := R) (Q := fun e' H' => e' = e3 ∧ H' = H3) _ _ _ e2 H' g1.2 (fun m' hm' => by
        have : m' = m := by simpa using hm'
        subst this
        exact ⟨e3, H3, hm, rfl, rfl⟩)
      exact allO_eqE hK _ _ _ _ _ g2 (allO_mono _ _ _ _ (fun l e H h => ⟨h.1, fun t => by rw [h.2.1], h.2.2⟩) this))
  exact allO_mono _ _ _ _ (fun l e H h => ⟨by have := h.1; simp only [Bool.and_eq_true] at this; exact this.2, h.2⟩) key

def led23B (pu : FuncId → Bool) (ops : Array Oper) (lead mid lead2 : List Nat) (mids : List (List Nat)) (fin : List Nat) : Bool :=
  match mids with
  | [m] => if mid = [] then led4B pu ops lead lead2 m fin else led3B pu ops lead mid lead2 m fin
  | ms => led2B pu ops lead mid lead2 ms fin
theorem sameB_spec {n0 : Nat} {live keep : List Nat} {e0 e1 : Env} {H0 H1 : Heap} (h : sameB n0 live keep e0 H0 e1 H1 = true) : SameUp n0 live keep e0 H0 e1 H1 := by
  simp only [sameB, Bool.and_eq_true, decide_eq_true_eq, beq_iff_eq, List.any_eq_true, List.all_eq_true, List.contains_iff_mem, List.mem_range] at h
  obtain ⟨⟨h1, h2⟩, p, -, ⟨⟨⟨⟨⟨h3, h4⟩, h5⟩, h6⟩, h7⟩, h8⟩⟩ := h
  exact ⟨p, h1, h2, h3, h4, fun q hq => by simpa using h5 q hq, h6, fun t ht => aveq_eq _ _ _ (h7 t ht), fun k hk => beq_eq (h8 k hk)⟩
theorem altsOK_spec {call : CallF} {ops : Array Oper} {live keep : List Nat} {n0 : Nat} {e e0 : Env} {H H0 : Heap} : ∀ (ms : List (List Nat)), altsOK P call ops live keep n0 e H e0 H0 ms = true → ∀ m ∈ ms, ∃ e' H', runOps P call n0 ops (pick ops m) e H = some (e', H') ∧ SameUp n0 live keep e0 H0 e' H'
  | [], _, m, hm => by cases hm
  | m0 :: ms, h, m, hm => by
    simp only [altsOK, Bool.and_eq_true] at h
    rcases List.mem_cons.1 hm with rfl | hm
    · have h1 := h.1
      split at h1
      · rename_i r hr
        simp only [Bool.or_eq_true, decide_eq_true_eq] at h1
        exact ⟨r.1, r.2, hr, h1.elim sameB_spec id⟩
      · cases h1
    · exact altsOK_spec ms h.2 m hm
end
end Go.Am
