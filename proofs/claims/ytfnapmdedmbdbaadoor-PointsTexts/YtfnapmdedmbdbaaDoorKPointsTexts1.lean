/-
  Texts of PointsTexts, part 2 of 10. The abstract machine: the soundness of every operation but calls.
-/
import Derived.Test.YtfnapmdedmbdbaaDoorKPointsTexts0
import Derived.Laws.MakeOwn
import Derived.Laws.NewFold
import Derived.Laws.Tables
import Derived.WalkKit
import Derived.Deep.Quiet
import Derived.StillTail
import Derived.Orders
import Derived.Lib.ConvBytes
import Derived.Laws.IdiomStrings
section
set_option linter.unusedSectionVars false
namespace Go.Am
open Go
variable [Dn]
set_option linter.unusedSimpArgs false
set_option linter.unusedVariables false

section
variable {P : Program} {lim : Nat} {φ φ' φ'' : Phi} {I I' I'' : Nat → Prop} {w w' w'' : World} {H H' : Heap}

def DL (φ : Phi) (I : Nat → Prop) (w : World) (l : List AV) (cs : Array Value) : Prop := cs.size = l.length ∧ ∀ (j : Nat) (x : AV) (y : Value), l[j]? = some x → cs[j]? = some y → Den φ I w x y

theorem DL.ok {l : List AV} {cs : Array Value} (h : DL φ I w l cs) : CellsOK φ I w cs 0 l :=
  ⟨by rw [h.1]; omega, fun j x hx => by
    have hj : j < cs.size := by rw [h.1]; exact (List.getElem?_eq_some_iff.1 hx).1
    exact ⟨cs[j], by simp [hj], h.2 j x _ hx (by simp [hj])⟩⟩

theorem DL.vs (l : List Value) : DL φ I w (l.map .v) l.toArray :=
  ⟨by simp, fun j x y hx hy => by
    simp at hx hy
    obtain ⟨a, h1, rfl⟩ := hx
    rw [h1] at hy; cases hy
    exact .v _⟩

theorem storable_sound {x : AV} (h : storable x = true) {y : Value} (hd : Den φ I w x y) : y.oneCell' = true ∧ y.cells = #[y] := by
  cases hd <;> simp [storable] at h <;> first | exact ⟨rfl, rfl⟩ | skip
  cases y <;> simp [Value.oneCell'] at h ⊢ <;> rfl

theorem cellsOf_sound {x : AV} {c : List AV} (h : cellsOf x = some c) {y : Value} (hd : Den φ I w x y) : DL φ I w c y.cells ∧ ∀ u ∈ y.cells.toList, u.oneCell' = true := by
  unfold cellsOf at h
  split at h
  · split at h
    · rename_i l hall
      cases h
      cases hd with
      | agg _ cs hs hD =>
        refine ⟨⟨hs, hD⟩, fun u hu => ?_⟩
        obtain ⟨j, hj, rfl⟩ := List.getElem_of_mem hu
        have hj' : j < cs.size := by simpa [Value.cells] using hj
        have hjl : j < c.length := by omega
        have := hD j c[j] cs[j] (by simp [hjl]) (by simp [hj'])
        have hst := List.all_eq_true.1 hall c[j] (List.getElem_mem hjl)
        simpa [Value.cells] using (storable_sound hst this).1
    · cases h
  · split at h
    · rename_i hst
      cases h
      have := storable_sound hst hd
      rw [this.2]
      refine ⟨⟨rfl, fun j a b ha hb => ?_⟩, fun u hu => ?_⟩
      · cases j with
        | zero => simp at ha hb; subst ha; subst hb; exact hd
        | succ j => simp at ha
      · simp at hu; subst hu; exact this.1
    · cases h

theorem fold_set (off : Nat) : ∀ (vs : List Value) (i : Nat) (cells : Array Value),
    ((vs.zipIdx i).foldl (fun cs (x : Value × Nat) => cs.setIfInBounds (off + x.2) x.1) cells).size = cells.size ∧
    ∀ k, k < cells.size → ((vs.zipIdx i).foldl (fun cs (x : Value × Nat) => cs.setIfInBounds (off + x.2) x.1) cells)[k]? =
      if off + i ≤ k ∧ k < off + i + vs.length then vs[k - (off + i)]? else cells[k]?
  | [], i, cells => by
    refine ⟨rfl, fun k hk => ?_⟩
    rw [if_neg (by simp)]
    rfl
  | v :: vs, i, cells => by
    have ih := fold_set off vs (i + 1) (cells.setIfInBounds (off + i) v)
    simp only [List.zipIdx_cons, List.foldl_cons]
    refine ⟨by rw [ih.1]; simp, fun k hk => ?_⟩
    rw [ih.2 k (by simpa using hk)]
    by_cases h1 : k = off + i
    · subst h1
      rw [if_neg (by omega), if_pos (by simp)]
      simp [hk]
    · by_cases h2 : off + (i + 1) ≤ k ∧ k < off + (i + 1) + vs.length
      · rw [if_pos h2, if_pos (by simp; omega)]
        have : k - (off + i) = (k - (off + (i + 1))) + 1 := by omega
        rw [this]; rfl
      · rw [if_neg h2, if_neg (by simp; omega), Array.getElem?_setIfInBounds, if_neg (by omega)]

theorem fill_sound {place : Nat → Option (Nat × Nat)} : ∀ (parts : List (Nat × AV)) (vparts : List (Nat × Value)) (cells r : List AV) (cs : Array Value),
    fillA place cells parts = some r → vparts.length = parts.length → (∀ (j : Nat) (p : Nat × AV) (q : Nat × Value), parts[j]? = some p → vparts[j]? = some q → p.1 = q.1 ∧ Den φ I w p.2 q.2) →
    DL φ I w cells cs → ∃ rs, Instr.fill place cs vparts = some rs ∧ DL φ I w r rs
  | [], vparts, cells, r, cs, h, hl, _, hd => by
    cases vparts with
    | nil => simp [fillA] at h; subst h; exact ⟨cs, rfl, hd⟩
    | cons a b => simp at hl
  | (i, x) :: parts, vparts, cells, r, cs, h, hl, hp, hd => by
    cases vparts with
    | nil => simp at hl
    | cons q vparts =>
      obtain ⟨i', y⟩ := q
      have h0 := hp 0 (i, x) (i', y) rfl rfl
      simp only at h0
      obtain ⟨rfl, hxy⟩ := h0
      simp only [fillA] at h
      split at h
      · rename_i o s c hpl hc
        split at h
        · rename_i hlen
          obtain ⟨hcd, -⟩ := cellsOf_sound hc hxy
          have hsz : y.cells.size = s := by rw [hcd.1]; exact hlen.1
          have hf := fold_set o y.cells.toList 0 cs
          have hDL : DL φ I w (cells.take o ++ c ++ cells.drop (o + s)) ((y.cells.toList.zipIdx 0).foldl (fun cs (x : Value × Nat) => cs.setIfInBounds (o + x.2) x.1) cs) := by
            refine ⟨by rw [hf.1, hd.1]; simp; omega, fun j a b ha hb => ?_⟩
            have hjl : j < cs.size := by rw [← hf.1]; exact (Array.getElem?_eq_some_iff.1 hb).1
            rw [hf.2 j hjl] at hb
            simp only [Nat.add_zero, Array.length_toList, hsz] at hb
            rw [List.append_assoc, List.getElem?_append] at ha
            simp only [List.length_take] at ha
            split at ha
            · rename_i hj
              rw [List.getElem?_take, if_pos (by omega)] at ha
              rw [if_neg (by omega)] at hb
              exact hd.2 j a b ha hb
            · rename_i hj
              have hmin : min o cells.length = o := by omega
              rw [hmin] at ha hj
              rw [List.getElem?_append] at ha
              split at ha
              · rename_i hj2
                rw [if_pos (by omega)] at hb
                exact hcd.2 (j - o) a b ha (by simpa using hb)
              · rename_i hj2
                rw [if_neg (by omega)] at hb
                rw [List.getElem?_drop] at ha
                exact hd.2 j a b (by rw [← ha]; congr 1; omega) hb
          obtain ⟨rs, h1, h2⟩ := fill_sound parts vparts _ r _ h (by simpa using hl) (fun j p q hj hq => hp (j + 1) p q (by simpa using hj) (by simpa using hq)) hDL
          refine ⟨rs, ?_, h2⟩
          have hcond : ¬ (y.cells.size ≠ s ∨ o + y.cells.size > cs.size) := by rw [hsz, hd.1]; omega
          have hz : y.cells.zipIdx.foldl (fun cs (x : Value × Nat) => cs.setIfInBounds (o + x.2) x.1) cs = (y.cells.toList.zipIdx 0).foldl (fun cs (x : Value × Nat) => cs.setIfInBounds (o + x.2) x.1) cs := by
            rw [← Array.foldl_toList, Array.toList_zipIdx]
          simp only [Instr.fill, hpl]
          rw [if_neg (by simpa using hcond)]
          rw [← h1, ← hz]
        · cases h
      · cases h

theorem tyOf_zero {t : TypeId} {ty : Ty} (h : tyOf P t = some ty) {z : List Value} (hz : ty.zero = some z) (w : World) : ∃ v : Value, (zeroValue t).run P w = .ok v w ∧ v.cells = z.toArray ∧ ∃ i, P.info? t = some i ∧ i.zero = some v ∧ i.size = ty.size ∧ i.bytes = ty.bytes := by
  obtain ⟨i, d, hi, hd, rfl⟩ := tyOf_spec h
  simp only [Option.map_eq_some_iff] at hz
  obtain ⟨v, h1, h2⟩ := hz
  refine ⟨v, by simp [zeroValue, typeInfo, hi, h1], ?_, i, hi, h1, rfl, rfl⟩
  rw [← h2]

theorem parts_rel {ev : Operand → AV} {ρ : Operand → Value} (hD : ∀ x, Den φ I w (ev x) (ρ x)) (parts : Array (Nat × Operand)) :
    ∀ (j : Nat) (p : Nat × AV) (q : Nat × Value), (parts.toList.map fun (i, x) => (i, ev x))[j]? = some p → (parts.map fun (i, x) => (i, ρ x)).toList[j]? = some q → p.1 = q.1 ∧ Den φ I w p.2 q.2 := by
  intro j p q hp hq
  simp at hp hq
  obtain ⟨a, b, h1, rfl⟩ := hp
  obtain ⟨c, d, h2, rfl⟩ := hq
  rw [h1] at h2
  cases h2
  exact ⟨rfl, hD _⟩

theorem places_sound : ∀ (gs : List Field) (l : List (Nat × Nat)), places P (gs.map fun f => (f.offset, f.type)) = some l → gs.mapM (fun f => (P.info? f.type).map fun i => (f.offset, i.size)) = some l
  | [], l, h => by simp [places] at h; subst h; simp
  | g :: gs, l, h => by
    simp only [List.map_cons, places] at h
    split at h
    · rename_i te r ht hr
      cases h
      obtain ⟨i, d, hi, -, rfl⟩ := tyOf_spec ht
      have ih := places_sound gs r hr
      simp [List.mapM_cons, hi, ih]
    · cases h

theorem build_sound {ev : Operand → AV} {ρ : Operand → Value} (hD : ∀ x, Den φ I w (ev x) (ρ x)) {t : TypeId} {parts : Array (Nat × Operand)} {r : AV}
    (h : buildV P t (parts.toList.map fun (i, x) => (i, ev x)) = some r) : ∃ y, (∀ w', (Instr.build t (parts.map fun (i, x) => (i, ρ x))).run P w' = .ok y w') ∧ Den φ I w r y := by
  unfold buildV at h
  split at h
  · rename_i ty ht
    split at h
    · rename_i z fs hz hk
      obtain ⟨gs, hu, rfl⟩ := tyk_struct (P := P) (t := t) (by rw [tyk_of ht, hk])
      split at h
      · rename_i l hl
        simp only [Option.map_eq_some_iff] at h
        obtain ⟨c, hf, rfl⟩ := h
        obtain ⟨rs, h1, h2⟩ := fill_sound (φ := φ) (I := I) (w := w) _ (parts.map fun (i, x) => (i, ρ x)).toList _ _ _ hf (by simp) (parts_rel hD parts) (DL.vs z)
        obtain ⟨v, -, hv, i, hi, hiz, -⟩ := tyOf_zero ht hz w
        refine ⟨.agg rs, fun w' => ?_, .agg _ _ h2.1 h2.2⟩
        refine run_build w' t _ rs ?_
        simp only [Program.built, hi, hu, hiz, hv, places_sound _ _ hl]
        simpa using h1
      · cases h
    · rename_i z n e hz hk
      have hu := tyk_array (P := P) (t := t) (by rw [tyk_of ht, hk])
      split at h
      · rename_i te hte
        simp only [Option.map_eq_some_iff] at h
        obtain ⟨c, hf, rfl⟩ := h
        obtain ⟨rs, h1, h2⟩ := fill_sound (φ := φ) (I := I) (w := w) _ (parts.map fun (i, x) => (i, ρ x)).toList _ _ _ hf (by simp) (parts_rel hD parts) (DL.vs z)
        obtain ⟨v, -, hv, i, hi, hiz, -⟩ := tyOf_zero ht hz w
        obtain ⟨ie, de, hie, -, rfl⟩ := tyOf_spec hte
        refine ⟨.agg rs, fun w' => ?_, .agg _ _ h2.1 h2.2⟩
        refine run_build w' t _ rs ?_
        simp only [Program.built, hi, hu, hiz, hv, hie]
        exact h1
      · cases h
    · cases h
  · cases h


/-- The arguments of a builtin, denoted one by one. -/
theorem den_ofV (x : Value) : Den φ I w (ofV x) x := by
  unfold ofV
  split
  · rename_i cs
    exact .agg _ _ (by simp) fun j a b ha hb => by
      simp at ha
      obtain ⟨c, h1, rfl⟩ := ha
      rw [h1] at hb; cases hb; exact .v _
  · rename_i f fi ca
    split
    · rename_i h
      have h1 : fi = #[] := by simpa using h.1
      have h2 : ca = #[] := by simpa using h.2
      subst h1; subst h2
      exact .clo _ _ _ rfl (fun j a b ha => by simp at ha)
    · exact .v _
  · exact .v _

theorem pop_sound {o : Oper} {ev : Operand → AV} {ρ : Operand → Value} (hD : ∀ x, Den φ I w (ev x) (ρ x)) {r : AV} (h : popV P o.op ev = some r) :
    ∃ y, (∀ w', (execOp ρ o).run P w' = .ok (.value y) w') ∧ Den φ I w r y := by
  have lift : ∀ {s : Sem Value} (he : execOp ρ o = (do pure (.value (← s)) : Sem Next)), (∃ y, (∀ w', s.run P w' = .ok y w') ∧ Den φ I w r y) → ∃ y, (∀ w', (execOp ρ o).run P w' = .ok (.value y) w') ∧ Den φ I w r y := by
    intro s he ⟨y, h1, h2⟩
    exact ⟨y, fun w' => by rw [he]; simp [h1], h2⟩
  unfold popV at h
  split at h
  · rename_i x ho
    cases h
    exact ⟨ρ x, fun w' => by simp [execOp, ho], hD x⟩
  · rename_i x ho
    cases h
    exact ⟨ρ x, fun w' => by simp [execOp, ho], hD x⟩
  · rename_i c a b ho
    split at h
    · rename_i t ht
      have hc := hD c
      rw [ht] at hc
      have := den_v hc
      cases h
      cases t with
      | true => exact ⟨ρ a, fun w' => by simp [execOp, ho, this, asBool], hD a⟩
      | false => exact ⟨ρ b, fun w' => by simp [execOp, ho, this, asBool], hD b⟩
    · cases h
  · rename_i t parts ho
    exact lift (by simp only [execOp, ho]) (build_sound hD h)
  · rename_i x ho
    have hx := hD x
    split at h
    · rename_i b o' hb
      cases h
      rw [hb] at hx
      generalize hv : ρ x = vx at hx
      cases hx with
      | ptr _ _ L hL => exact ⟨_, fun w' => by simp [execOp, ho, hv], .ptr _ _ L hL⟩
    · rename_i l o' hb
      cases h
      rw [hb] at hx
      generalize hv : ρ x = vx at hx
      cases hx with
      | ele _ _ a Y ha hI hY hDD => exact ⟨_, fun w' => by simp [execOp, ho, hv], .ele _ _ a Y ha hI hY hDD⟩
    · rename_i f l hb
      cases h
      rw [hb] at hx
      generalize hv : ρ x = vx at hx
      cases hx with
      | clo _ _ cs hs hDD => exact ⟨_, fun w' => by simp [execOp, ho, hv], .clo _ _ cs hs hDD⟩
    · cases h
  · rename_i op t x y ty ho
    exact lift (by simp only [execOp, ho]) (bin_sound h (hD x) (hD y) x y)
  · rename_i op t x ho
    exact lift (by simp only [execOp, ho]) (un_sound h (hD x))
  · rename_i s d x ho
    exact lift (by simp only [execOp, ho]) (conv_sound h (hD x))
  · rename_i f first captured ho
    split at h
    · rename_i h0
      cases h
      have h1 : first = #[] := by simpa using h0
      subst h1
      refine ⟨.func (.func f) #[] (captured.map ρ), fun w' => by simp [execOp, ho, Instr.makeFunc], .clo _ _ _ (by simp) fun j a b ha hb => ?_⟩
      simp at ha hb
      obtain ⟨c, g1, rfl⟩ := ha
      obtain ⟨d, g2, rfl⟩ := hb
      rw [g1] at g2; cases g2
      exact hD _
    · cases h
  · rename_i t x lo hi ho
    exact lift (by simp only [execOp, ho, Option.map_none]) (slice_sound hD h)
  · rename_i s x f ho
    exact lift (by simp only [execOp, ho]) (fieldAddr_sound h (hD x))
  · rename_i s x f ho
    exact lift (by simp only [execOp, ho]) (field_sound h (hD x))
  · rename_i t x i ho
    exact lift (by simp only [execOp, ho]) (indexAddr_sound h (hD x) (hD i))
  · rename_i t x i ho
    exact lift (by simp only [execOp, ho]) (index_sound h (hD x) (hD i))
  · rename_i t i ho
    have hx := hD t
    split at h
    · rename_i l hl
      rw [hl] at hx
      generalize hv : ρ t = vt at hx
      cases hx with
      | tup _ cs hs hDD =>
        have hi : i < l.length := (List.getElem?_eq_some_iff.1 h).1
        have he : cs[i]? = some (cs[i]'(by omega)) := by simp [hs, hi]
        exact ⟨_, fun w' => by simp [execOp, ho, hv, Instr.extract, he], hDD i r _ h he⟩
    · cases h
  · rename_i args argTypes ho
    split at h
    · rename_i x t hx ht
      have e1 : args = #[x] := by apply Array.ext'; simpa using hx
      have e2 : argTypes = #[t] := by apply Array.ext'; simpa using ht
      subst e1; subst e2
      refine lift ?_ (len_sound (ot := o.type) h (hD x))
      simp [execOp, ho, resolve, invoke, builtin]
    · cases h
  · rename_i args argTypes ho
    split at h
    · rename_i x rest hx
      have e1 : args = (x :: rest).toArray := by apply Array.ext'; simpa using hx
      subst e1
      obtain ⟨y, h1, h2⟩ := foldA_sound (P := P) max2_sound _ _ _ h (ρ x) (rest.map ρ) (hD x) (by simp) (fun j a b ha hb => by
        simp at ha hb
        obtain ⟨c, g1, rfl⟩ := ha
        obtain ⟨d, g2, rfl⟩ := hb
        rw [g1] at g2; cases g2
        exact hD _)
      refine ⟨y, fun w' => ?_, h2⟩
      simp [execOp, ho, resolve, invoke, builtin, Builtin.max_, h1]
    · cases h
  · rename_i args argTypes ho
    split at h
    · rename_i x rest hx
      have e1 : args = (x :: rest).toArray := by apply Array.ext'; simpa using hx
      subst e1
      obtain ⟨y, h1, h2⟩ := foldA_sound (P := P) min2_sound _ _ _ h (ρ x) (rest.map ρ) (hD x) (by simp) (fun j a b ha hb => by
        simp at ha hb
        obtain ⟨c, g1, rfl⟩ := ha
        obtain ⟨d, g2, rfl⟩ := hb
        rw [g1] at g2; cases g2
        exact hD _)
      refine ⟨y, fun w' => ?_, h2⟩
      simp [execOp, ho, resolve, invoke, builtin, Builtin.min_, h1]
    · cases h
  · cases h

end
end Go.Am
end
section
set_option linter.unusedSectionVars false
namespace Go.Am
open Go
variable [Dn]
set_option linter.unusedSimpArgs false
set_option linter.unusedVariables false

section
variable {P : Program} {lim : Nat} {φ φ' φ'' : Phi} {I I' I'' : Nat → Prop} {w w' w'' : World} {H H' : Heap}

theorem hget_hset_same {H : Heap} {b : Nat} {x : Option Blk} (hb : b < H.length) : hget (hset H b x) b = x := by simp [hget, hset, hb]
theorem hget_hset_ne {H : Heap} {b c : Nat} {x : Option Blk} (h : c ≠ b) : hget (hset H b x) c = hget H c := by
  simp [hget, hset, List.getElem?_set_ne (Ne.symm h)]
@[simp] theorem length_hset {H : Heap} {b : Nat} {x : Option Blk} : (hset H b x).length = H.length := by simp [hset]

/-- A block that nobody uses any more. -/
theorem kill_sound (hR : Rel lim φ I w H) (b : Nat) : Rel lim φ I w (hset H b none) where
  len := by simp [hR.len]
  tab := hR.tab
  limle := by simp [hR.limle]
  blk := fun c k hk => by
    by_cases h : c = b
    · subst h
      have hlt := hget_lt hk
      simp at hlt
      rw [hget_hset_same hlt] at hk
      cases hk
    · rw [hget_hset_ne h] at hk
      exact hR.blk c k hk
  disj := hR.disj
  inj := fun c c' k k' L L' hk hk' => by
    by_cases h : c = b
    · subst h
      have hlt := hget_lt hk
      simp at hlt
      rw [hget_hset_same hlt] at hk
      cases hk
    · by_cases h' : c' = b
      · subst h'
        have hlt := hget_lt hk'
        simp at hlt
        rw [hget_hset_same hlt] at hk'
        cases hk'
      · rw [hget_hset_ne h] at hk
        rw [hget_hset_ne h'] at hk'
        exact hR.inj c c' k k' L L' hk hk'
  sep := hR.sep
  Ilt := hR.Ilt

theorem phi_push {φ : Phi} {x : Option Loc} {b : Nat} {o : Option Loc} (h : (φ ++ [x])[b]? = some o) : (b < φ.length ∧ φ[b]? = some o) ∨ (b = φ.length ∧ o = x) := by
  rcases Nat.lt_or_ge b φ.length with h' | h'
  · rw [List.getElem?_append_left h'] at h
    exact .inl ⟨h', h⟩
  · rw [List.getElem?_append_right h'] at h
    have : b - φ.length = 0 := by
      rcases Nat.eq_zero_or_pos (b - φ.length) with h0 | h0
      · exact h0
      · rw [List.getElem?_eq_none (by simp; omega)] at h; cases h
    rw [this] at h
    simp at h
    exact .inr ⟨by omega, h.symm⟩

/-- A new block that is nil. -/
theorem nil_sound (hR : Rel lim φ I w H) : Rel lim (φ ++ [none]) I w (H ++ [some []]) ∧ Ext lim φ I w (φ ++ [none]) I w := by
  have hext : Ext lim φ I w (φ ++ [none]) I w := by
    refine ⟨List.prefix_append _ _, fun _ h => h, fun _ _ _ => rfl, fun _ _ _ _ => rfl, fun b L h => ?_, rfl, ⟨rfl, fun _ => Nat.le_refl _⟩, rfl, Nat.le_refl _⟩
    rcases phi_push h with ⟨-, h1⟩ | ⟨-, h1⟩
    · exact .inr ⟨b, L, h1, rfl⟩
    · cases h1
  have hold : ∀ (b : Nat) (L : Loc), (φ ++ [none])[b]? = some (some L) → φ[b]? = some (some L) := fun b L h => by
    rcases phi_push h with ⟨-, h1⟩ | ⟨-, h1⟩
    · exact h1
    · cases h1
  refine ⟨⟨by simp [hR.len], by simp; have := hR.limle; omega, fun b k hk => ?_, fun b L h => hR.disj b L (hold b L h), fun b b' k k' L L' hk hk' hL hL' => ?_, fun b b' L L' hb hb' hL hL' => hR.sep b b' L L' hb hb' (hold _ _ hL) (hold _ _ hL'), hR.Ilt, hR.tab⟩, hext⟩
  · rcases Nat.lt_or_ge b H.length with hb | hb
    · rw [hget_append_old hb] at hk
      rcases hR.blk b k hk with ⟨h1, h2⟩ | ⟨L, C', T', h1, h2, h3, h5⟩
      · exact .inl ⟨pre_get hext.pre h1, h2⟩
      · exact .inr ⟨L, C', T', pre_get hext.pre h1, h2, h3, h5.1, fun j x hx => by obtain ⟨y, g1, g2⟩ := h5.2 j x hx; exact ⟨y, g1, g2.ext hR hext⟩⟩
    · have : b = H.length := by have := hget_lt hk; simp at this; omega
      subst this
      rw [hget_append_new] at hk
      cases hk
      exact .inl ⟨by rw [← hR.len]; simp, rfl⟩
  · have hL0 := hold _ _ hL
    have hL0' := hold _ _ hL'
    have l1 : b < H.length := by rw [← hR.len]; exact (List.getElem?_eq_some_iff.1 hL0).1
    have l2 : b' < H.length := by rw [← hR.len]; exact (List.getElem?_eq_some_iff.1 hL0').1
    rw [hget_append_old l1] at hk
    rw [hget_append_old l2] at hk'
    exact hR.inj b b' k k' L L' hk hk' hL0 hL0'

/-- The world after a block's cells have been written. -/
structure Wrote (w w' : World) (k : Nat) (C' : Array Value) (T : TypeId) : Prop where
  new : w'.heap[k]? = some (.cells C' T (0, 0))
  other : ∀ i, i ≠ k → w'.heap[i]? = w.heap[i]?
  size : w'.heap.size = w.heap.size
  os : w'.os = w.os
  tape : w'.tape = w.tape ∧ (Dn.p → w.drawn ≤ w'.drawn)
  output : w'.output = w.output

theorem Wrote.keep (hR : Rel lim φ I w H) {b : Nat} {L : Loc} (hL : φ[b]? = some (some L)) {C' : Array Value} {T : TypeId} (hw : Wrote w w' L.k C' T) {x : AV} {y : Value} (h : Den φ I w x y) : Den φ I w' x y :=
  h.mono (List.prefix_refl _) (fun _ h => h) fun k hk => hw.other k fun e => (hR.disj b L hL).1 (e ▸ hk)

theorem Wrote.ext (hR : Rel lim φ I w H) {b : Nat} {k : Blk} (hk : hget H b = some k) {L : Loc} (hL : φ[b]? = some (some L)) (hb : lim ≤ b) {C' : Array Value} {T : TypeId} (hw : Wrote w w' L.k C' T) : Ext lim φ I w φ I w' where
  pre := List.prefix_refl _
  I := fun _ h => h
  old := fun i _ hn => hw.other i fun e => hn b L hL e.symm
  lo := fun c M hc hM => hw.other _ (hR.sep c b M L hc hb hM hL)
  fresh := fun c M h => .inr ⟨c, M, h, rfl⟩
  os := hw.os
  tape := hw.tape
  output := hw.output
  size := by rw [hw.size]; exact Nat.le_refl _

theorem write_sound (hR : Rel lim φ I w H) {b : Nat} {k k' : Blk} (hk : hget H b = some k) {L : Loc} (hL : φ[b]? = some (some L)) (hb : lim ≤ b) {C' : Array Value} {T : TypeId} (hw : Wrote w w' L.k C' T)
    (hS : C'.size = L.S) (hc : CellsOK φ I w C' L.base k') : Rel lim φ I w' (hset H b (some k')) := by
  have hlt := hget_lt hk
  refine ⟨by simp [hR.len], by simp [hR.limle], fun c l hl => ?_, fun c M hM => ⟨(hR.disj c M hM).1, by rw [hw.size]; exact (hR.disj c M hM).2⟩, fun c c' l l' M M' hl hl' hM hM' he => ?_, hR.sep, fun i hi => by rw [hw.size]; exact hR.Ilt i hi, hR.tab_to (fun _ h => h) fun k hk => hw.other k fun e => (hR.disj b L hL).1 (e ▸ hk)⟩
  · by_cases h : c = b
    · subst h
      rw [hget_hset_same hlt] at hl
      cases hl
      exact .inr ⟨L, C', T, hL, hw.new, hS, hc.1, fun j x hx => by obtain ⟨y, g1, g2⟩ := hc.2 j x hx; exact ⟨y, g1, hw.keep hR hL g2⟩⟩
    · rw [hget_hset_ne h] at hl
      rcases hR.blk c l hl with h1 | ⟨M, C, T', h1, h2, h3, h5⟩
      · exact .inl h1
      · refine .inr ⟨M, C, T', h1, ?_, h3, h5.1, fun j x hx => by obtain ⟨y, g1, g2⟩ := h5.2 j x hx; exact ⟨y, g1, hw.keep hR hL g2⟩⟩
        rw [hw.other M.k (fun e => h (hR.inj c b l k M L hl hk h1 hL e))]
        exact h2
  · have g : ∀ (d : Nat) (m : Blk), hget (hset H b (some k')) d = some m → ∃ m', hget H d = some m' := by
      intro d m hm
      by_cases h : d = b
      · subst h; exact ⟨k, hk⟩
      · rw [hget_hset_ne h] at hm; exact ⟨m, hm⟩
    obtain ⟨m, hm⟩ := g c l hl
    obtain ⟨m', hm'⟩ := g c' l' hl'
    exact hR.inj c c' m m' M M' hm hm' hM hM' he

/-- A block is given a new number: the old number is used no more. -/
theorem reid_sound (hR : Rel lim φ I w H) {b : Nat} {k k' : Blk} (hk : hget H b = some k) {L : Loc} (hL : φ[b]? = some (some L)) (hb : lim ≤ b) {C' : Array Value} {T : TypeId} (hw : Wrote w w' L.k C' T)
    (hS : C'.size = L.S) (base : Nat) (hc : CellsOK φ I w C' base k') :
    Rel lim (φ ++ [some ⟨L.k, base, L.S⟩]) I w' (hset H b none ++ [some k']) ∧ Ext lim φ I w (φ ++ [some ⟨L.k, base, L.S⟩]) I w' := by
  have hlt := hget_lt hk
  have h1 := hw.ext hR hk hL hb
  have hext : Ext lim φ I w (φ ++ [some ⟨L.k, base, L.S⟩]) I w' := by
    refine ⟨List.prefix_append _ _, fun _ h => h, h1.old, h1.lo, fun c M h => ?_, h1.os, h1.tape, h1.output, h1.size⟩
    rcases phi_push h with ⟨-, h2⟩ | ⟨-, h2⟩
    · exact .inr ⟨c, M, h2, rfl⟩
    · cases h2; exact .inr ⟨b, L, hL, rfl⟩
  have keep : ∀ {x : AV} {y : Value}, Den φ I w x y → Den (φ ++ [some ⟨L.k, base, L.S⟩]) I w' x y := fun h => h.ext hR hext
  have live : ∀ (c : Nat) (l : Blk), hget (hset H b none ++ [some k']) c = some l → (c < H.length ∧ c ≠ b ∧ hget H c = some l) ∨ (c = H.length ∧ l = k') := by
    intro c l hl
    rcases Nat.lt_or_ge c H.length with h | h
    · rw [hget_append_old (by simpa using h)] at hl
      by_cases hcb : c = b
      · subst hcb; rw [hget_hset_same hlt] at hl; cases hl
      · rw [hget_hset_ne hcb] at hl; exact .inl ⟨h, hcb, hl⟩
    · have h2 := hget_lt hl
      simp at h2
      have : c = (hset H b none).length := by simp; omega
      rw [this, hget_append_new] at hl
      cases hl
      exact .inr ⟨by omega, rfl⟩
  refine ⟨⟨by simp [hR.len], by simp; have := hR.limle; omega, fun c l hl => ?_, fun c M h => ?_, fun c c' l l' M M' hl hl' hM hM' he => ?_, fun c c' M M' hc' hc'' hM hM' => ?_, fun i hi => by rw [hw.size]; exact hR.Ilt i hi, hR.tab_to (fun _ h => h) (hR.keepI hext)⟩, hext⟩
  · rcases live c l hl with ⟨h2, h3, h4⟩ | ⟨rfl, rfl⟩
    · rcases hR.blk c l h4 with ⟨g1, g2⟩ | ⟨M, C, T', g1, g2, g3, g5⟩
      · exact .inl ⟨pre_get hext.pre g1, g2⟩
      · refine .inr ⟨M, C, T', pre_get hext.pre g1, ?_, g3, g5.1, fun j x hx => by obtain ⟨y, e1, e2⟩ := g5.2 j x hx; exact ⟨y, e1, keep e2⟩⟩
        rw [hw.other M.k (fun e => h3 (hR.inj c b l k M L h4 hk g1 hL e))]
        exact g2
    · exact .inr ⟨⟨L.k, base, L.S⟩, C', T, by rw [← hR.len]; simp, hw.new, hS, hc.1, fun j x hx => by obtain ⟨y, e1, e2⟩ := hc.2 j x hx; exact ⟨y, e1, keep e2⟩⟩
  · rcases phi_push h with ⟨-, h2⟩ | ⟨-, h2⟩
    · exact ⟨(hR.disj c M h2).1, by rw [hw.size]; exact (hR.disj c M h2).2⟩
    · cases h2; exact ⟨(hR.disj b L hL).1, by rw [hw.size]; exact (hR.disj b L hL).2⟩
  · rcases live c l hl with ⟨a1, a2, a3⟩ | ⟨a1, a2⟩ <;> rcases live c' l' hl' with ⟨b1, b2, b3⟩ | ⟨b1, b2⟩
    · rcases phi_push hM with ⟨-, e1⟩ | ⟨e1, -⟩
      · rcases phi_push hM' with ⟨-, e2⟩ | ⟨e2, -⟩
        · exact hR.inj c c' l l' M M' a3 b3 e1 e2 he
        · rw [hR.len] at e2; omega
      · rw [hR.len] at e1; omega
    · rcases phi_push hM with ⟨-, e1⟩ | ⟨e1, -⟩
      · rcases phi_push hM' with ⟨e2, -⟩ | ⟨-, e2⟩
        · rw [hR.len] at e2; omega
        · cases e2; exact absurd (hR.inj c b l k M L a3 hk e1 hL he) a2
      · rw [hR.len] at e1; omega
    · rcases phi_push hM' with ⟨-, e1⟩ | ⟨e1, -⟩
      · rcases phi_push hM with ⟨e2, -⟩ | ⟨-, e2⟩
        · rw [hR.len] at e2; omega
        · cases e2; exact absurd (hR.inj c' b l' k M' L b3 hk e1 hL he.symm) b2
      · rw [hR.len] at e1; omega
    · omega
  · rcases phi_push hM' with ⟨-, e1⟩ | ⟨-, e1⟩
    · rcases phi_push hM with ⟨-, e2⟩ | ⟨e2, -⟩
      · exact hR.sep c c' M M' hc' hc'' e2 e1
      · have := hR.limle; rw [hR.len] at e2; omega
    · cases e1
      rcases phi_push hM with ⟨-, e2⟩ | ⟨e2, -⟩
      · exact hR.sep c b M L hc' hb e2 hL
      · have := hR.limle; rw [hR.len] at e2; omega

theorem wrote_setRow {k : Nat} {C C' : Array Value} {T : TypeId} (h : w.heap[k]? = some (.cells C T (0, 0))) : Wrote w (w.setRow k C') k C' T where
  new := setRow_heap w k C C' T (0, 0) h
  other := fun i hi => setRow_other w k i C' hi
  size := size_setRow w k C'
  os := rfl
  tape := ⟨rfl, fun _ => Nat.le_refl _⟩
  output := rfl

theorem setL_eq : ∀ (c : List AV) (l : List AV) (o : Nat), o + c.length ≤ l.length → setL l o c = l.take o ++ c ++ l.drop (o + c.length)
  | [], l, o, h => by simp [setL]
  | x :: c, l, o, h => by
    simp only [List.length_cons] at h
    simp only [setL]
    rw [setL_eq c _ _ (by simp; omega)]
    apply List.ext_getElem?
    intro j
    simp only [List.append_assoc, List.getElem?_append, List.length_take, List.length_set, List.getElem?_take, List.getElem?_drop, List.getElem?_set, List.length_cons]
    have e1 : min (o + 1) l.length = o + 1 := by omega
    have e2 : min o l.length = o := by omega
    rw [e1, e2]
    by_cases h1 : j < o
    · rw [if_pos (by omega), if_pos (by omega), if_neg (by omega), if_pos h1, if_pos h1]
    · by_cases h2 : j = o
      · subst h2
        rw [if_pos (by omega), if_pos (by omega), if_pos rfl, if_pos (by omega), if_neg (by omega), if_pos (by omega)]
        simp
      · rw [if_neg (by omega), if_neg h1]
        by_cases h3 : j - (o + 1) < c.length
        · rw [if_pos h3, if_pos (by omega)]
          rw [show j - o = (j - (o + 1)) + 1 by omega]
          rfl
        · rw [if_neg h3, if_neg (by omega), if_neg (by omega)]
          congr 1
          omega

/-- Cells laid over cells. -/
theorem cells_over {C : Array Value} {base : Nat} {l c : List AV} {vs : List Value} (hC : CellsOK φ I w C base l) (o : Nat) (ho : o + c.length ≤ l.length) (hl : vs.length = c.length)
    (hd : ∀ (j : Nat) (x : AV) (y : Value), c[j]? = some x → vs[j]? = some y → Den φ I w x y) :
    CellsOK φ I w (C.toList.take (base + o) ++ vs ++ C.toList.drop (base + o + vs.length)).toArray base (l.take o ++ c ++ l.drop (o + c.length)) ∧
      (C.toList.take (base + o) ++ vs ++ C.toList.drop (base + o + vs.length)).toArray.size = C.size := by
  have hb := hC.1
  have hsz : (C.toList.take (base + o) ++ vs ++ C.toList.drop (base + o + vs.length)).toArray.size = C.size := by simp; omega
  refine ⟨⟨by rw [hsz]; simp; omega, fun j x hx => ?_⟩, hsz⟩
  have hjl : j < l.length := by
    have := (List.getElem?_eq_some_iff.1 hx).1
    simp at this; omega
  rw [List.append_assoc, List.getElem?_append] at hx
  simp only [List.length_take] at hx
  have e2 : min o l.length = o := by omega
  rw [e2] at hx
  have get : ∀ i, (C.toList.take (base + o) ++ vs ++ C.toList.drop (base + o + vs.length)).toArray[i]? =
      if i < base + o then C[i]? else if i - (base + o) < vs.length then vs[i - (base + o)]? else C[i]? := by
    intro i
    simp only [List.getElem?_toArray, List.append_assoc, List.getElem?_append, List.length_take, List.getElem?_take, List.getElem?_drop, Array.length_toList]
    have e3 : min (base + o) C.size = base + o := by omega
    rw [e3]
    by_cases h1 : i < base + o
    · rw [if_pos h1, if_pos h1, if_pos h1]; simp
    · rw [if_neg h1, if_neg h1]
      by_cases h2 : i - (base + o) < vs.length
      · rw [if_pos h2, if_pos h2]
      · rw [if_neg h2, if_neg h2]
        rw [show base + o + vs.length + (i - (base + o) - vs.length) = i by omega]
        simp
  rw [get]
  split at hx
  · rename_i h1
    rw [List.getElem?_take, if_pos h1] at hx
    rw [if_pos (by omega)]
    exact hC.2 j x hx
  · rename_i h1
    rw [if_neg (by omega)]
    rw [List.getElem?_append] at hx
    split at hx
    · rename_i h2
      rw [if_pos (by omega)]
      have : base + j - (base + o) = j - o := by omega
      rw [this]
      have hv : vs[j - o]? = some (vs[j - o]'(by omega)) := List.getElem?_eq_getElem _
      exact ⟨_, hv, hd _ _ _ hx hv⟩
    · rename_i h2
      rw [if_neg (by omega)]
      rw [List.getElem?_drop] at hx
      have : o + c.length + (j - o - c.length) = j := by omega
      rw [this] at hx
      exact hC.2 j x hx

theorem store_sound (hR : Rel lim φ I w H) {t : TypeId} {ty : Ty} (ht : tyOf P t = some ty) {b o : Nat} {k : Blk} (hk : hget H b = some k) {c : List AV} {x : AV} (hc : cellsOf x = some c) (hlim : lim ≤ b) (hsz : c.length = ty.size) (ho : o + ty.size ≤ k.length)
    {va vx : Value} (ha : Den φ I w (.ptr b o) va) (hx : Den φ I w x vx) : ∃ w', (Instr.storeAt t va vx).run P w = .ok () w' ∧ Rel lim φ I w' (hset H b (some (setL k o c))) ∧ Ext lim φ I w φ I w' := by
  obtain ⟨hDL, hone⟩ := cellsOf_sound hc hx
  cases ha with
  | ptr _ _ L hL =>
    rcases hR.blk b k hk with ⟨h1, h2⟩ | ⟨L', C, T, h1, h2, h3, h5⟩
    · rw [hL] at h1; cases h1
    · rw [hL] at h1; cases h1
      have hlen : vx.cells.toList.length = c.length := by simpa using hDL.1
      have hb5 := h5.1
      have hrun := run_storeCells_at P L.k (L.base + o) T vx.cells.toList 0 C w h2 (by omega) hone
      obtain ⟨hco, hcs⟩ := cells_over (vs := vx.cells.toList) h5 o (by omega) hlen (fun j a y ha hy => hDL.2 j a y ha (by simpa using hy))
      have hw := wrote_setRow (C' := (C.toList.take (L.base + o) ++ vx.cells.toList ++ C.toList.drop (L.base + o + vx.cells.toList.length)).toArray) h2
      refine ⟨_, ?_, ?_, hw.ext hR hk hL hlim⟩
      · have hsz' : ¬ (vx.cells.size ≠ ty.size) := by rw [hDL.1, hsz]; simp
        simp only [Instr.storeAt, Instr.sureAddr, Sem.run_bind, Sem.run_pure, Result.andThen_ok, storeVar, run_sizeOf ht, if_neg hsz']
        simpa using hrun
      · rw [setL_eq c k o (by omega)]
        exact write_sound hR hk hL hlim hw (by rw [hcs]; exact h3) hco

end
end Go.Am
end
section
set_option linter.unusedSectionVars false
namespace Go.Am
open Go
variable [Dn]
set_option linter.unusedSimpArgs false
set_option linter.unusedVariables false

section
variable {P : Program} {lim : Nat} {φ φ' φ'' : Phi} {I I' I'' : Nat → Prop} {w w' w'' : World} {H H' : Heap}

theorem flat_rep {α : Type} (l : List α) (hl : 0 < l.length) : ∀ (m j : Nat) (x : α), (List.replicate m l).flatten[j]? = some x → l[j % l.length]? = some x ∧ j < m * l.length
  | 0, j, x, h => by simp at h
  | m + 1, j, x, h => by
    rw [List.replicate_succ, List.flatten_cons, List.getElem?_append] at h
    have e : (m + 1) * l.length = m * l.length + l.length := Nat.succ_mul _ _
    split at h
    · rename_i hj
      rw [Nat.mod_eq_of_lt hj]
      exact ⟨h, by omega⟩
    · rename_i hj
      obtain ⟨h1, h2⟩ := flat_rep l hl m (j - l.length) x h
      refine ⟨?_, by omega⟩
      rw [Nat.mod_eq_sub_mod (by omega)]
      exact h1
theorem flat_len {α : Type} (l : List α) (m : Nat) : (List.replicate m l).flatten.length = m * l.length := by
  induction m with
  | zero => simp
  | succ m ih => rw [List.replicate_succ, List.flatten_cons, List.length_append, ih, Nat.succ_mul]; omega

theorem made_DL (z : Value) (zl : List Value) (hz : z.cells = zl.toArray) (hp : 0 < zl.length) (m : Nat) : DL φ I w (List.replicate m (zl.map AV.v)).flatten (madeCells z.cells (m * zl.length)) := by
  refine ⟨by rw [size_madeCells, flat_len]; simp, fun j x y hx hy => ?_⟩
  obtain ⟨h1, h2⟩ := flat_rep (zl.map AV.v) (by simpa using hp) m j x hx
  simp only [List.length_map] at h1 h2
  have h3 : j % zl.length < zl.length := Nat.mod_lt _ hp
  simp only [madeCells, hz] at hy
  simp [h2] at hy
  simp [h3] at h1
  subst h1
  rw [List.getElem?_eq_getElem h3] at hy
  simp at hy
  subst hy
  exact .v _

/-- What is appended, as it lies in memory. -/
structure Src (φ : Phi) (I : Nat → Prop) (w : World) (s m : Nat) (new : List AV) (v : Value) : Prop where
  len : new.length = m * s
  val : ∃ p c, v = .slice p m c ∧ (p = none → m = 0) ∧ ∃ news : List Value, news.length = m * s ∧ (∀ (j : Nat) (x : AV) (y : Value), new[j]? = some x → news[j]? = some y → Den φ I w x y) ∧
    ∀ a, p = some a → ∀ (j : Nat) (u : Value), news[j]? = some u → w.cell? (a.add j) = some u

theorem exists_list {n : Nat} {p : Nat → Value → Prop} (h : ∀ j, j < n → ∃ y, p j y) : ∃ l : List Value, l.length = n ∧ ∀ (j : Nat) (y : Value), l[j]? = some y → p j y := by
  induction n with
  | zero => exact ⟨[], rfl, fun j y hy => by simp at hy⟩
  | succ n ih =>
    obtain ⟨l, h1, h2⟩ := ih fun j hj => h j (by omega)
    obtain ⟨y, hy⟩ := h n (by omega)
    refine ⟨l ++ [y], by simp [h1], fun j z hz => ?_⟩
    rw [List.getElem?_append] at hz
    split at hz
    · exact h2 j z hz
    · rename_i hj
      have : j - l.length = 0 := by
        have := (List.getElem?_eq_some_iff.1 hz).1
        simp at this; omega
      rw [this] at hz
      simp at hz
      subst hz
      have : j = n := by omega
      rw [this]; exact hy

theorem src_sound (hR : Rel lim φ I w H) {s m : Nat} {x : AV} {new : List AV} (h : srcCells H s x = some (m, new)) (hs : 0 < s) {vx : Value} (hx : Den φ I w x vx) : Src φ I w s m new vx := by
  unfold srcCells at h
  split at h
  · rename_i z b o m'
    split at h
    · rename_i k hk
      split at h
      · rename_i hl
        cases h
        refine ⟨by simp; omega, ?_⟩
        cases hx with
        | own0 _ _ _ hb => exact ⟨none, 0, rfl, fun _ => rfl, [], by simp, fun j x y hx hy => by simp at hy, fun a ha => by cases ha⟩
        | own _ _ _ _ c off L hL hn hc ho =>
          rcases hR.blk b k hk with ⟨h1, h2⟩ | ⟨L', C, T, h1, h2, h3, h5⟩
          · rw [hL] at h1; cases h1
          · rw [hL] at h1; cases h1
            by_cases hm : m = 0
            · subst hm
              exact ⟨_, c, rfl, (fun h => by cases h), [], by simp, fun j x y hx hy => by simp at hy, fun a ha j u hu => by simp at hu⟩
            · have ho' : off = L.base + o := by
                rcases ho with h0 | h0
                · omega
                · exact h0.1
              subst ho'
              obtain ⟨news, n1, n2⟩ := exists_list (n := m * s) (p := fun j y => C[L.base + o + j]? = some y ∧ ∀ x, k[o + j]? = some x → Den φ I w x y) (fun j hj => by
                obtain ⟨y, g1, g2⟩ := h5.2 (o + j) (k[o + j]'(by omega)) (List.getElem?_eq_getElem _)
                exact ⟨y, by rw [Nat.add_assoc]; exact g1, fun x hx => by rw [List.getElem?_eq_getElem (by omega)] at hx; cases hx; exact g2⟩)
              refine ⟨_, c, rfl, (fun h => by cases h), news, n1, fun j x y hx hy => ?_, fun a ha j u hu => ?_⟩
              · rw [List.getElem?_take] at hx
                split at hx
                · rw [List.getElem?_drop] at hx
                  exact (n2 j y hy).2 x hx
                · cases hx
              · cases ha
                rw [addr_add _ _ rfl]
                simp only
                rw [cell_of_row w L.k _ C T _ h2]
                exact (n2 j u hu).1
      · cases h
    · cases h
  · rename_i m' l
    split at h
    · rename_i hl
      cases h
      refine ⟨by simp; omega, ?_⟩
      cases hx with
      | sl0 _ p => exact ⟨p, 0, rfl, fun _ => rfl, [], by simp, fun j x y hx hy => by simp at hy, fun a ha j u hu => by simp at hu⟩
      | sl _ _ c a Y hn hc ha hI hY hD =>
        obtain ⟨news, n1, n2⟩ := exists_list (n := m * s) (p := fun j y => y = Y j) (fun j hj => ⟨_, rfl⟩)
        refine ⟨some a, c, rfl, (fun h => by cases h), news, n1, fun j x y hx hy => ?_, fun a' ha' j u hu => ?_⟩
        · rw [List.getElem?_take] at hx
          split at hx
          · rw [n2 j y hy]; exact hD j x hx
          · cases hx
        · cases ha'
          have hj : j < m * s := by rw [← n1]; exact (List.getElem?_eq_some_iff.1 hu).1
          rw [addr_add a j ha, n2 j u hu]
          exact hY j (l[j]'(by omega)) (List.getElem?_eq_getElem _)
    · cases h
  · cases h
    have := den_v hx
    subst this
    exact ⟨by simp, none, 0, rfl, fun _ => rfl, [], by simp, fun j x y hx hy => by simp at hy, fun a ha => by cases ha⟩
  · cases h

theorem run_append_zero (t ty e : TypeId) (te : Ty) (ht : P.underlying t = some (.slice e)) (hte : tyOf P e = some te) (b p : Option Addr) (n c c' : Nat) (hn : n ≤ c) (hs : ∀ a, b = some a → a = a) :
    (Builtin.append_ #[t, t] ty #[.slice b n c, .slice p 0 c']).run P w = .ok (.slice b n c) w := by
  have hn' : n + 0 ≤ c := by omega
  have hf : (Builtin.firstCells te.size 0 (.slice p 0 c')).run P w = .ok #[] w := by
    cases p with
    | none => simp [Builtin.firstCells]
    | some a => simp [Builtin.firstCells, loadCells, loadCellsFrom]
  cases b with
  | none => simp [Builtin.append_, run_underlying ht, run_sizeOf hte, Builtin.lenOf, hn, hf]
  | some a => simp [Builtin.append_, run_underlying ht, run_sizeOf hte, Builtin.lenOf, hn, hf, storeCells]

/-- Behind a slice that has room: the new cells are laid into its own block. -/
theorem run_append_in (t ty e : TypeId) (te : Ty) (ht : P.underlying t = some (.slice e)) (hte : tyOf P e = some te) (k off n c : Nat) (C : Array Value) (T : TypeId) (hk : w.heap[k]? = some (.cells C T (0, 0)))
    (a : Addr) (m c' : Nat) (news : List Value) (hl : news.length = m * te.size) (hnews : ∀ (j : Nat) (u : Value), news[j]? = some u → w.cell? (a.add j) = some u) (h1 : ∀ u ∈ news, u.oneCell' = true)
    (hroom : n + m ≤ c) (hfit : off + n * te.size + news.length ≤ C.size) :
    (Builtin.append_ #[t, t] ty #[.slice (some ⟨k, off, none⟩) n c, .slice (some a) m c']).run P w =
      .ok (.slice (some ⟨k, off, none⟩) (n + m) c) (w.setRow k (C.toList.take (off + n * te.size) ++ news ++ C.toList.drop (off + n * te.size + news.length)).toArray) := by
  have hf := run_firstCells_some (P := P) w te.size m a m c' news hl hnews
  have hst := run_storeCells_at P k (off + n * te.size) T news 0 C w hk (by simpa using hfit) h1
  simp only [Nat.add_zero] at hst
  have e := addr_add ⟨k, off, none⟩ (n * te.size) rfl
  simp [Builtin.append_, run_underlying ht, run_sizeOf hte, Builtin.lenOf, hroom, hf, e, hst]

theorem append_sound (hR : Rel lim φ I w H) {t ot : TypeId} {x y r : AV} (h : appendV P lim H t x y = some (r, H')) {vx vy : Value} (hx : Den φ I w x vx) (hy : Den φ I w y vy) :
    ∃ z φ' w', (Builtin.append_ #[t, t] ot #[vx, vy]).run P w = .ok z w' ∧ Den φ' I w' r z ∧ Rel lim φ' I w' H' ∧ Ext lim φ I w φ' I w' := by
  unfold appendV at h
  split at h
  · rename_i e hk
    have hu := tyk_slice hk
    split at h
    · rename_i te hte
      split at h
      · rename_i z m new hz hsrc
        split at h
        · rename_i hc0
          obtain ⟨hzl, hs, hst⟩ := hc0
          obtain ⟨zv, -, hzc, i, hi, hiz, hisz, hib⟩ := tyOf_zero hte hz w
          obtain ⟨hnl, p, c', rfl, hpm, news, hnews, hnd, hncell⟩ := src_sound hR hsrc hs hy
          have hone : ∀ u ∈ news, u.oneCell' = true := by
            intro u hu
            obtain ⟨j, hj, rfl⟩ := List.getElem_of_mem hu
            have hj' : j < new.length := by omega
            have hd := hnd j new[j] news[j] (List.getElem?_eq_getElem _) (List.getElem?_eq_getElem _)
            exact (storable_sound (List.all_eq_true.1 hst _ (List.getElem_mem hj')) hd).1
          have hNew : DL φ I w new news.toArray := ⟨by simp [hnews, hnl], fun j a b ha hb => hnd j a b ha (by simpa using hb)⟩
          split at h
          · rename_i z' b o n
            split at h
            · rename_i k hkb
              split at h
              · rename_i hc
                obtain ⟨hlim, rfl, hok, hby, hmx⟩ := hc
                cases h
                have hKill := kill_sound hR b
                cases hx with
                | own0 _ _ _ hb =>
                  -- a nil slice
                  rcases hR.blk b k hkb with ⟨h1, rfl⟩ | ⟨L', C, T, h1, h2, h3, h5⟩
                  · by_cases hm : m = 0
                    · subst hm
                      have hnew0 : new = [] := List.eq_nil_of_length_eq_zero (by simpa using hnl)
                      subst hnew0
                      have hn := nil_sound hKill
                      refine ⟨.slice none 0 0, φ ++ [none], w, run_append_zero t ot e te hu hte none p 0 0 c' (Nat.le_refl _) (fun _ _ => rfl), ?_, by simpa using hn.1, hn.2⟩
                      exact .own0 _ _ _ (by rw [← hR.len]; simp)
                    · cases p with
                      | none => exact absurd (hpm rfl) hm
                      | some a =>
                        have hr := run_append_nil (P := P) w t ot e i zv hu hi hiz a m c' news (by rw [hnews, hisz]) (hncell a rfl) (by omega) (by simp at hmx; omega) (by rw [hib]; have := hby; simp at this; omega)
                        have hA := alloc_sound (T := e) hKill (C := news.toArray ++ Builtin.zeroCells zv.cells (grownCap w m 0 e - m)) (cells := new)
                          ⟨by simp; omega, fun j x hx => by
                            have hj : j < news.length := by rw [hnews, ← hnl]; exact (List.getElem?_eq_some_iff.1 hx).1
                            refine ⟨news[j], ?_, hnd j x _ hx (List.getElem?_eq_getElem _)⟩
                            rw [Nat.zero_add, Array.getElem?_append_left (by simpa using hj)]
                            simp [hj]⟩ (w' := w.drew.alloc (.cells (news.toArray ++ Builtin.zeroCells zv.cells (grownCap w m 0 e - m)) e)) rfl rfl ⟨rfl, fun _ => Nat.le_succ _⟩ rfl
                        refine ⟨_, _, _, hr, ?_, by simpa using hA.1, hA.2⟩
                        have hge := grownCap_ge w m 0 e
                        have hle := grownCap_le_maxLen w m 0 e (by unfold maxLen; simp at hmx; omega)
                        have hD := Den.own (I := I) (w := w.drew.alloc (.cells (news.toArray ++ Builtin.zeroCells zv.cells (grownCap w m 0 e - m)) e)) te.size H.length 0 (0 + m) (grownCap w m 0 e) 0
                          ⟨w.heap.size, 0, (news.toArray ++ Builtin.zeroCells zv.cells (grownCap w m 0 e - m)).size⟩ (φ := φ ++ [some ⟨w.heap.size, 0, (news.toArray ++ Builtin.zeroCells zv.cells (grownCap w m 0 e - m)).size⟩])
                          (by rw [← hR.len]; simp) (by omega) hle (.inr ⟨rfl, by
                            simp only [Array.size_append, List.size_toArray, size_zeroCells, hnews, hzc, hzl, Nat.zero_add]
                            rw [← Nat.add_mul]
                            exact Nat.mul_le_mul_right _ (by omega)⟩)
                        simpa using hD
                  · rw [hb] at h1; cases h1
                | own _ _ _ _ c off L hL hn hc ho =>
                  rcases hR.blk b k hkb with ⟨h1, h2⟩ | ⟨L', C, T, h1, h2, h3, h5⟩
                  · rw [hL] at h1; cases h1
                  rw [hL] at h1; cases h1
                  by_cases hm : m = 0
                  · subst hm
                    have hnew0 : new = [] := List.eq_nil_of_length_eq_zero (by simpa using hnl)
                    subst hnew0
                    have hself : Wrote w w L.k C T := ⟨h2, fun _ _ => rfl, rfl, rfl, ⟨rfl, fun _ => Nat.le_refl _⟩, rfl⟩
                    by_cases hc0 : c = 0
                    · have hn0 : n = 0 := by omega
                      subst hn0; subst hc0
                      have hA := reid_sound hR hkb hL hlim hself h3 0 (k' := []) ⟨by simp, fun j x hx => by simp at hx⟩
                      refine ⟨_, _, w, run_append_zero t ot e te hu hte _ p 0 0 c' (Nat.le_refl _) (fun _ _ => rfl), ?_, by simpa using hA.1, hA.2⟩
                      exact .own _ _ _ _ 0 off ⟨L.k, 0, L.S⟩ (by rw [← hR.len]; simp) (Nat.le_refl _) (Nat.zero_le _) (.inl rfl)
                    · have ho' := ho.resolve_left hc0
                      obtain ⟨rfl, hfit⟩ := ho'
                      have hA := reid_sound hR hkb hL hlim hself h3 (L.base + o) (k' := (k.drop o).take (n * te.size)) ⟨by have := h5.1; simp; omega, fun j x hx => by
                        rw [List.getElem?_take] at hx
                        split at hx
                        · rw [List.getElem?_drop] at hx
                          obtain ⟨y, g1, g2⟩ := h5.2 _ _ hx
                          exact ⟨y, by rw [Nat.add_assoc]; exact g1, g2⟩
                        · cases hx⟩
                      refine ⟨_, _, w, run_append_zero t ot e te hu hte _ p n c c' hn (fun _ _ => rfl), ?_, by simpa using hA.1, hA.2⟩
                      exact .own _ _ _ _ c (L.base + o) ⟨L.k, L.base + o, L.S⟩ (by rw [← hR.len]; simp) hn hc (.inr ⟨rfl, hfit⟩)
                  · cases p with
                    | none => exact absurd (hpm rfl) hm
                    | some a =>
                      by_cases hroom : n + m ≤ c
                      · have ho' := ho.resolve_left (by omega)
                        obtain ⟨rfl, hfit⟩ := ho'
                        have hmul : (n + m) * te.size ≤ c * te.size := Nat.mul_le_mul_right _ hroom
                        have hmul2 : (n + m) * te.size = n * te.size + m * te.size := Nat.add_mul _ _ _
                        have hr := run_append_in (P := P) (w := w) t ot e te hu hte L.k (L.base + o) n c C T h2 a m c' news hnews (hncell a rfl) hone hroom (by omega)
                        have hw := wrote_setRow (C' := (C.toList.take (L.base + o + n * te.size) ++ news ++ C.toList.drop (L.base + o + n * te.size + news.length)).toArray) h2
                        have hsz : (C.toList.take (L.base + o + n * te.size) ++ news ++ C.toList.drop (L.base + o + n * te.size + news.length)).toArray.size = L.S := by simp; omega
                        have hA := reid_sound hR hkb hL hlim hw hsz (L.base + o) (k' := (k.drop o).take (n * te.size) ++ new) ⟨by rw [hsz]; simp; omega, fun j x hx => by
                          have get : ∀ i, (C.toList.take (L.base + o + n * te.size) ++ news ++ C.toList.drop (L.base + o + n * te.size + news.length)).toArray[L.base + o + i]? =
                              if i < n * te.size then C[L.base + o + i]? else if i - n * te.size < news.length then news[i - n * te.size]? else C[L.base + o + i]? := by
                            intro i
                            simp only [List.getElem?_toArray, List.append_assoc, List.getElem?_append, List.length_take, List.getElem?_take, List.getElem?_drop, Array.length_toList]
                            have e3 : min (L.base + o + n * te.size) C.size = L.base + o + n * te.size := by omega
                            rw [e3]
                            by_cases h1 : i < n * te.size
                            · rw [if_pos (by omega), if_pos h1, if_pos (by omega)]; simp
                            · rw [if_neg (by omega), if_neg h1]
                              rw [show L.base + o + i - (L.base + o + n * te.size) = i - n * te.size by omega]
                              by_cases h2 : i - n * te.size < news.length
                              · rw [if_pos h2, if_pos h2]
                              · rw [if_neg h2, if_neg h2]
                                rw [show L.base + o + n * te.size + news.length + (i - n * te.size - news.length) = L.base + o + i by omega]
                                simp
                          rw [get]
                          rw [List.getElem?_append] at hx
                          have hlen : ((k.drop o).take (n * te.size)).length = n * te.size := by simp; omega
                          rw [hlen] at hx
                          split at hx
                          · rename_i hj
                            rw [if_pos hj]
                            rw [List.getElem?_take, if_pos hj, List.getElem?_drop] at hx
                            obtain ⟨y, g1, g2⟩ := h5.2 _ _ hx
                            exact ⟨y, by rw [Nat.add_assoc]; exact g1, g2⟩
                          · rename_i hj
                            have hjn : j - n * te.size < news.length := by rw [hnews, ← hnl]; exact (List.getElem?_eq_some_iff.1 hx).1
                            rw [if_neg hj, if_pos hjn]
                            exact ⟨_, List.getElem?_eq_getElem hjn, hnd _ _ _ hx (List.getElem?_eq_getElem hjn)⟩⟩
                        refine ⟨_, _, _, hr, ?_, by simpa using hA.1, hA.2⟩
                        exact .own _ _ _ _ c (L.base + o) ⟨L.k, L.base + o, L.S⟩ (by rw [← hR.len]; simp) hroom hc (.inr ⟨rfl, hfit⟩)
                      · have hold : ∃ olds : List Value, olds.length = n * te.size ∧ (∀ (j : Nat) (u : Value), olds[j]? = some u → w.cell? ((⟨L.k, off, none⟩ : Addr).add j) = some u) ∧ (∀ (j : Nat) (x : AV) (y : Value), ((k.drop o).take (n * te.size))[j]? = some x → olds[j]? = some y → Den φ I w x y) := by
                          by_cases hn0 : n = 0
                          · subst hn0
                            exact ⟨[], by simp, fun j u hu => by simp at hu, fun j x y hx hy => by simp at hy⟩
                          · have ho' := ho.resolve_left (by omega)
                            obtain ⟨rfl, hfit⟩ := ho'
                            obtain ⟨olds, n1, n2⟩ := exists_list (n := n * te.size) (p := fun j y => C[L.base + o + j]? = some y ∧ ∀ x, k[o + j]? = some x → Den φ I w x y) (fun j hj => by
                              obtain ⟨y, g1, g2⟩ := h5.2 (o + j) (k[o + j]'(by omega)) (List.getElem?_eq_getElem _)
                              exact ⟨y, by rw [Nat.add_assoc]; exact g1, fun x hx => by rw [List.getElem?_eq_getElem (by omega)] at hx; cases hx; exact g2⟩)
                            refine ⟨olds, n1, fun j u hu => ?_, fun j x y hx hy => ?_⟩
                            · rw [addr_add _ _ rfl]
                              simp only
                              rw [cell_of_row w L.k _ C T _ h2]
                              exact (n2 j u hu).1
                            · rw [List.getElem?_take] at hx
                              split at hx
                              · rw [List.getElem?_drop] at hx
                                exact (n2 j y hy).2 x hx
                              · cases hx
                        obtain ⟨olds, o1, o2, o3⟩ := hold
                        have hr := run_append_grow (P := P) w t ot e i zv hu hi hiz ⟨L.k, off, none⟩ n c olds (by rw [o1, hisz]) o2 a m c' news (by rw [hnews, hisz]) (hncell a rfl) (by omega) (by omega)
                          (growslice_fits (by omega) (by rw [hib]; exact hby))
                        have hA := alloc_sound (T := e) hKill (C := olds.toArray ++ news.toArray ++ Builtin.zeroCells zv.cells (grownCap w (n + m) c e - (n + m))) (cells := (k.drop o).take (n * te.size) ++ new)
                          ⟨by simp; omega, fun j x hx => by
                            rw [Nat.zero_add]
                            rw [List.getElem?_append] at hx
                            have hlen : ((k.drop o).take (n * te.size)).length = n * te.size := by simp; omega
                            rw [hlen] at hx
                            split at hx
                            · rename_i hj
                              refine ⟨olds[j]'(by omega), ?_, o3 j x _ hx (List.getElem?_eq_getElem _)⟩
                              rw [Array.getElem?_append_left (by simp; omega), Array.getElem?_append_left (by simp; omega)]
                              simp
                            · rename_i hj
                              have hjn : j - n * te.size < news.length := by rw [hnews, ← hnl]; exact (List.getElem?_eq_some_iff.1 hx).1
                              refine ⟨news[j - n * te.size], ?_, hnd _ _ _ hx (List.getElem?_eq_getElem _)⟩
                              rw [Array.getElem?_append_left (by simp; omega), Array.getElem?_append_right (by simp; omega)]
                              simp [o1, hjn]⟩ (w' := w.drew.alloc (.cells (olds.toArray ++ news.toArray ++ Builtin.zeroCells zv.cells (grownCap w (n + m) c e - (n + m))) e)) rfl rfl ⟨rfl, fun _ => Nat.le_succ _⟩ rfl
                        refine ⟨_, _, _, hr, ?_, by simpa using hA.1, hA.2⟩
                        have hge := grownCap_ge w (n + m) c e
                        have hle := grownCap_le_maxLen w (n + m) c e (by unfold maxLen; omega)
                        exact Den.own (I := I) te.size H.length 0 (n + m) (grownCap w (n + m) c e) 0
                          ⟨w.heap.size, 0, (olds.toArray ++ news.toArray ++ Builtin.zeroCells zv.cells (grownCap w (n + m) c e - (n + m))).size⟩
                          (by rw [← hR.len]; simp) (by omega) hle (.inr ⟨rfl, by
                            simp only [Array.size_append, List.size_toArray, size_zeroCells, hnews, hzc, hzl, o1]
                            rw [← Nat.add_mul, ← Nat.add_mul]
                            simp only [Nat.zero_add]
                            exact Nat.mul_le_mul_right _ (by omega)⟩)
              · cases h
            · cases h
          · -- the literal nil
            have hvx := den_v hx
            subst hvx
            split at h
            · rename_i hc
              obtain ⟨hby, hmx⟩ := hc
              cases h
              by_cases hm : m = 0
              · subst hm
                have hnew0 : new = [] := List.eq_nil_of_length_eq_zero (by simpa using hnl)
                subst hnew0
                have hn := nil_sound hR
                refine ⟨.slice none 0 0, φ ++ [none], w, run_append_zero t ot e te hu hte none p 0 0 c' (Nat.le_refl _) (fun _ _ => rfl), ?_, hn.1, hn.2⟩
                exact .own0 _ _ _ (by rw [← hR.len]; simp)
              · cases p with
                | none => exact absurd (hpm rfl) hm
                | some a =>
                  have hr := run_append_nil (P := P) w t ot e i zv hu hi hiz a m c' news (by rw [hnews, hisz]) (hncell a rfl) (by omega) (by omega) (by rw [hib]; omega)
                  have hA := alloc_sound (T := e) hR (C := news.toArray ++ Builtin.zeroCells zv.cells (grownCap w m 0 e - m)) (cells := new)
                    ⟨by simp; omega, fun j x hx => by
                      have hj : j < news.length := by rw [hnews, ← hnl]; exact (List.getElem?_eq_some_iff.1 hx).1
                      refine ⟨news[j], ?_, hnd j x _ hx (List.getElem?_eq_getElem _)⟩
                      rw [Nat.zero_add, Array.getElem?_append_left (by simpa using hj)]
                      simp [hj]⟩ (w' := w.drew.alloc (.cells (news.toArray ++ Builtin.zeroCells zv.cells (grownCap w m 0 e - m)) e)) rfl rfl ⟨rfl, fun _ => Nat.le_succ _⟩ rfl
                  refine ⟨_, _, _, hr, ?_, hA.1, hA.2⟩
                  have hge := grownCap_ge w m 0 e
                  have hle := grownCap_le_maxLen w m 0 e (by unfold maxLen; omega)
                  exact Den.own (I := I) te.size H.length 0 m (grownCap w m 0 e) 0
                    ⟨w.heap.size, 0, (news.toArray ++ Builtin.zeroCells zv.cells (grownCap w m 0 e - m)).size⟩
                    (by rw [← hR.len]; simp) (by omega) hle (.inr ⟨rfl, by
                      simp only [Array.size_append, List.size_toArray, size_zeroCells, hnews, hzc, hzl, Nat.zero_add]
                      rw [← Nat.add_mul]
                      exact Nat.mul_le_mul_right _ (by omega)⟩)
            · cases h
          · cases h
        · cases h
      · cases h
    · cases h
  · cases h

end
end Go.Am
end
section
namespace Go.Am
open Go
section
variable {P : Program} {ops : Array Oper} {md : Region.Mode} {C : World → Prop}

/-- Whatever order is picked among the operations that only read, L holds behind 'f' of them. -/
def headQ (P : Program) (md : Region.Mode) (ops : Array Oper) (C : World → Prop) (n : Nat) (L : Array Bool → Act → Prop) : Nat → Array Bool → Act → Prop
  | 0, listed, a => L listed a
  | f + 1, listed, a => Region.ready md ops listed ≠ [] ∧ ∀ i ∈ Region.ready md ops listed, i < n ∧ qOp P ops C i (headQ P md ops C n L f (listed.setIfInBounds i true)) a

theorem any_of_headQ {n g : Nat} {L : Array Bool → Act → Prop} {Q : Exit → Act → World → Prop} (hL : ∀ listed a w, C w → L listed a → wpAny P md ops Q g listed a w) :
    ∀ (f : Nat) (listed : Array Bool) (a : Act) (w : World), C w → headQ P md ops C n L f listed a → wpAny P md ops Q (f + g) listed a w := by
  intro f
  induction f with
  | zero => intro listed a w hw h; rw [Nat.zero_add]; exact hL _ _ _ hw h
  | succ f ih =>
    intro listed a w hw h
    rw [show f + 1 + g = (f + g) + 1 by omega]
    exact ⟨fun h0 => (h.1 h0).elim, fun i hi => wpOp_of_qOp hw (fun a' w' hw' h' => ih _ a' w' hw' h') (h.2 i hi).2⟩

theorem headQ_first {n i : Nat} {oi : Oper} {v : Value} {L : Array Bool → Act → Prop} (hi : ops[i]? = some oi) (hsel : ∀ (j : Nat) (o : Oper) cs b, ops[j]? = some o → o.op ≠ .select cs b)
    (hs : Region.sinkB md ops n = true) (hc : Region.chainB md ops n = true) (hn : n < ops.size) (hin : i < n) (hdone : ∀ listed a, L listed a → ∀ j ∈ Region.ready md ops listed, n ≤ j) :
    ∀ (f : Nat) (listed : Array Bool) (a : Act), HeadInv md ops n listed →
      (∀ j oj, ops[j]? = some oj → j ≠ i → listed.getD j true = false → (∀ e ∈ oj.after, Region.binds md e = true → e.on ≠ i) → oi.apart ops oj = true) →
      i ∈ Region.ready md ops listed → YieldsIn P ops C oi v a →
      headQ P md ops C n L f (listed.setIfInBounds i true) (a.put oi.dst v) → headQ P md ops C n L (f + 1) listed a := by
  intro f
  induction f with
  | zero =>
    intro listed a inv _ hr hy H
    have hun := (mem_ready.1 hr).1
    constructor
    · intro h; rw [h] at hr; cases hr
    intro j hj
    have hjn : j < n := Nat.lt_of_not_le fun h => tail_waits hs hc hn inv _ i rfl hin hun j h hj
    by_cases hji : j = i
    · subst hji; exact ⟨hjn, hy.qOp hi H⟩
    · exact absurd (hdone _ _ H j (ready_mono hj hji)) (by omega)
  | succ f ih =>
    intro listed a inv hfree hr hy H
    have hun := (mem_ready.1 hr).1
    constructor
    · intro h; rw [h] at hr; cases hr
    intro j hj
    have hjn : j < n := Nat.lt_of_not_le fun h => tail_waits hs hc hn inv _ i rfl hin hun j h hj
    by_cases hji : j = i
    · subst hji; exact ⟨hjn, hy.qOp hi H⟩
    obtain ⟨hjun, oj, hoj, hall⟩ := mem_ready.1 hj
    have hnot : ∀ e ∈ oj.after, Region.binds md e = true → e.on ≠ i := by
      intro e he hb heq
      have h1 := hall e he hb
      rw [heq, getD_both hun] at h1
      cases h1
    have hswap := qOp_put hoj (hfree j oj hoj hji hjun hnot) (fun cs b => hsel i oi cs b hi) (fun cs b => hsel j oj cs b hoj) hy (H.2 j (ready_mono hj hji)).2
    refine ⟨hjn, qOp_mono (fun a' h3 => ?_) hswap⟩
    refine ih (listed.setIfInBounds j true) a' (inv.set hj hjn) (fun k ok hk hki hku hno => hfree k ok hk hki ?_ hno) (ready_mono hr (Ne.symm hji)) h3.1 ?_
    · by_cases hjk : j = k
      · subst hjk; exact hjun
      · rwa [getD_set_ne true hjk] at hku
    · rw [Array.setIfInBounds_comm _ _ hji]
      exact h3.2

theorem headQ_lex {n g : Nat} {R : Act → Prop} (hsel : Region.noSelect ops = true) (hs : Region.sinkB md ops n = true) (hc : Region.chainB md ops n = true) (hn : n < ops.size) :
    ∀ (l : List Oper) (k : Nat) (listed : Array Bool) (a : Act), (∀ j, j < l.length → l[j]? = ops[k + j]?) → k + l.length = n → HeadInv md ops n listed →
      Region.lexHead md ops g l.length k listed = true → wpQuiet P ops C R l a → headQ P md ops C n (fun listed' a' => Region.seqB md ops g n listed' = true ∧ R a') l.length listed a := by
  intro l
  induction l with
  | nil =>
    intro k listed a _ hk _ hB h
    have : k = n := by simpa using hk
    subst this
    exact ⟨by simpa [Region.lexHead] using hB, h⟩
  | cons o l ih =>
    intro k listed a hl hk inv hB h
    have h0 : ops[k]? = some o := by simpa using (hl 0 (by simp)).symm
    simp only [List.length_cons, Region.lexHead, Bool.and_eq_true] at hB
    obtain ⟨⟨hr, hf⟩, hB'⟩ := hB
    have hkn : k < n := by simp only [List.length_cons] at hk; omega
    have hr' : k ∈ Region.ready md ops listed := by simpa using hr
    have hq : qOp P ops C k (wpQuiet P ops C R l) a := by unfold qOp; simp only [h0]; exact h
    obtain ⟨v, hy, hK⟩ := yieldsIn_of_qOp h0 hq
    refine headQ_first h0 (Region.noSelect_spec hsel) hs hc hn hkn (fun listed' a' hL => seqB_ready hL.1) l.length listed a inv (Region.free_spec h0 hf) hr' hy ?_
    refine ih (k + 1) _ _ (fun j hj => ?_) (by simp only [List.length_cons] at hk; omega) (inv.set hr' hkn) hB' hK
    have := hl (j + 1) (by simp; omega)
    simpa [Nat.add_assoc, Nat.add_comm 1 j] using this

/-- The first n operations may come in any order the edges allow; the others follow one by one. -/
theorem region_quiet_tail {id : Nat} {Q : Exit → Act → World → Prop} {a : Act} {w : World} (n : Nat) (hm : P.follows .mixedOrders = true) (hB : Region.lexTailB .any ops n = true) (hC : C { w with drawn := w.drawn + 1 })
    (h : wpQuiet P ops C (fun a' => ∀ w', C w' → wpList P ops Q (ops.toList.drop n) a' w') (ops.toList.take n) a) : (Code.region id ops true).wp P Q a w := by
  simp only [Region.lexTailB, Bool.and_eq_true, decide_eq_true_eq] at hB
  obtain ⟨⟨⟨⟨hsel, hn⟩, hs⟩, hc⟩, hlex⟩ := hB
  have htl : (ops.toList.take n).length = n := by simp; omega
  have hdl : (ops.toList.drop n).length = ops.size - n := by simp
  have inv0 : HeadInv .any ops n (Array.replicate ops.size false) :=
    ⟨by simp, fun j oj _ hl => (by rw [getD_replicate_false] at hl; cases hl), fun t _ ht => getD_in (by simpa using ht) (getD_replicate_false _ _)⟩
  have H := headQ_lex (md := .any) (g := ops.size - n) hsel hs hc hn (ops.toList.take n) 0 _ a (fun j hj => by
    have hj' : j < n := by rw [htl] at hj; exact hj
    simp [hj']) (by simpa using htl) inv0 (by rw [htl]; exact hlex) h
  refine wp_region_any hm ?_
  have H' := any_of_headQ (Q := Q) (g := ops.size - n) (fun listed a' w' hw' hL => by
    have := wpAny_of_seq (md := .any) (Q' := Q) (ops.toList.drop n) n listed a' w' (fun j => by simp [List.getElem?_drop]) (by rw [hdl]; exact hL.1) (hL.2 w' hw')
    rwa [hdl] at this) _ _ _ _ hC H
  rw [htl, show n + (ops.size - n) = ops.size by omega] at H'
  exact H'
end
end Go.Am
end
section
set_option linter.unusedSectionVars false
namespace Go.Am
open Go Go.RowKit
variable [Dn]
set_option linter.unusedSimpArgs false
set_option linter.unusedVariables false

section
variable {P : Program} {lim : Nat} {φ φ' φ'' : Phi} {I I' I'' : Nat → Prop} {w w' w'' : World} {H H' : Heap}

theorem alloc_fresh (hR : Rel lim φ I w H) {C : Array Value} {T : TypeId} {cells : List AV} (hc : CellsOK φ I w C 0 cells) :
    Den (φ ++ [some ⟨w.heap.size, 0, C.size⟩]) I (w.alloc (.cells C T)) (.ptr H.length 0) (.pointer (some ⟨w.heap.size, 0, none⟩)) ∧
      Rel lim (φ ++ [some ⟨w.heap.size, 0, C.size⟩]) I (w.alloc (.cells C T)) (H ++ [some cells]) ∧ Ext lim φ I w (φ ++ [some ⟨w.heap.size, 0, C.size⟩]) I (w.alloc (.cells C T)) := by
  have h := alloc_sound (T := T) hR hc (w' := w.alloc (.cells C T)) rfl rfl ⟨rfl, fun _ => Nat.le_refl _⟩ rfl
  exact ⟨.ptr _ _ ⟨w.heap.size, 0, C.size⟩ (by rw [← hR.len]; simp), h.1, h.2⟩

theorem alloc_slice (hR : Rel lim φ I w H) {C : Array Value} {T : TypeId} {cells : List AV} (hc : CellsOK φ I w C 0 cells) {z n c : Nat} (hn : n ≤ c) (hm : c ≤ maxLen) (hS : c * z ≤ C.size) :
    Den (φ ++ [some ⟨w.heap.size, 0, C.size⟩]) I (w.alloc (.cells C T)) (.own z H.length 0 n) (.slice (some ⟨w.heap.size, 0, none⟩) n c) :=
  .own _ _ _ _ c 0 ⟨w.heap.size, 0, C.size⟩ (by rw [← hR.len]; simp) hn hm (.inr ⟨rfl, by simpa using hS⟩)

/-- Bytes of a string: a new block that is only read. -/
theorem bytes_rel (hR : Rel lim φ I w H) (e : TypeId) (b : ByteArray) : Rel lim φ (fun k => I k ∨ k = w.heap.size) (Lib.bytesWorld w e b) H ∧ Ext lim φ I w φ (fun k => I k ∨ k = w.heap.size) (Lib.bytesWorld w e b) := by
  have hext : Ext lim φ I w φ (fun k => I k ∨ k = w.heap.size) (Lib.bytesWorld w e b) :=
    ⟨List.prefix_refl _, fun k h => .inl h, fun k hk _ => Lib.bytesWorld_at_old w e b k hk, fun c M _ hM => Lib.bytesWorld_at_old w e b _ (hR.disj c M hM).2, fun c M h => .inr ⟨c, M, h, rfl⟩,
      by simp [Lib.bytesWorld, World.freeze, World.alloc, World.drew, -World.alloc_eq, -World.drew_eq], by simp [Lib.bytesWorld, World.freeze, World.alloc, World.drew, -World.alloc_eq, -World.drew_eq],
      by simp [Lib.bytesWorld, World.freeze, World.alloc, World.drew, -World.alloc_eq, -World.drew_eq], by rw [Lib.bytesWorld_size]; omega⟩
  refine ⟨⟨hR.len, hR.limle, fun c k hk => ?_, fun c M hM => ⟨?_, ?_⟩, hR.inj, hR.sep, fun k hk => ?_, hR.tab_to (fun _ h => .inl h) (hR.keepI hext)⟩, hext⟩
  · rcases hR.blk c k hk with h | ⟨L, C, T, h1, h2, h3, h5, h6⟩
    · exact .inl h
    · exact .inr ⟨L, C, T, h1, by rw [Lib.bytesWorld_at_old w e b _ (hR.disj c L h1).2]; exact h2, h3, h5, fun j x hx => by obtain ⟨y, g1, g2⟩ := h6 j x hx; exact ⟨y, g1, g2.ext hR hext⟩⟩
  · rintro (h | h)
    · exact (hR.disj c M hM).1 h
    · have := (hR.disj c M hM).2; omega
  · rw [Lib.bytesWorld_size]; have := (hR.disj c M hM).2; omega
  · rw [Lib.bytesWorld_size]
    rcases hk with h | rfl
    · have := hR.Ilt k h; omega
    · omega
theorem bytes_den (e : TypeId) (b : ByteArray) (hb : b.size ≤ maxLen) : Den φ (fun k => I k ∨ k = w.heap.size) (Lib.bytesWorld w e b) (.sl b.size (b.data.toList.map fun c => .v (.int .u8 (c.toNat : Int)))) (.slice (some ⟨w.heap.size, 0, none⟩) b.size (grownCap w b.size 0 e)) := by
  have key : ∀ (j : Nat) (x : AV), (b.data.toList.map fun c => AV.v (.int .u8 (c.toNat : Int)))[j]? = some x → j < b.size ∧ x = .v (.int .u8 ((b.data.toList.getD j 0).toNat : Int)) := fun j x hj => by
    rw [List.getElem?_map, Option.map_eq_some_iff] at hj
    obtain ⟨c, hc, rfl⟩ := hj
    obtain ⟨hlt, he⟩ := List.getElem?_eq_some_iff.1 hc
    refine ⟨by simpa using hlt, ?_⟩
    rw [List.getD_eq_getElem?_getD, hc]
    rfl
  refine .sl b.size _ _ ⟨w.heap.size, 0, none⟩ (fun j => .int .u8 ((b.data.toList.getD j 0).toNat : Int)) (grownCap_ge w b.size 0 e) (grownCap_le_maxLen w b.size 0 e hb) rfl (.inr rfl) (fun j x hj => ?_) (fun j x hj => ?_)
  · have := Lib.bytesWorld_cell w e b j (key j x hj).1
    simpa using this
  · rw [(key j x hj).2]; exact .v _

theorem bytesOf_spec : ∀ (new : List AV) (l : List UInt8), bytesOf new = some l → l.length = new.length ∧ ∀ j (hj : j < l.length), new[j]? = some (.v (.int .u8 ((l[j]).toNat : Int)))
  | [], l, h => by
    simp only [bytesOf, Option.some.injEq] at h
    subst h
    exact ⟨rfl, fun j hj => by simp at hj⟩
  | x :: r, l, h => by
    unfold bytesOf at h
    split at h
    · rename_i heq; cases heq
    · rename_i n r' heq
      cases heq
      split at h
      · rename_i hn
        simp only [Option.map_eq_some_iff] at h
        obtain ⟨l', hl', rfl⟩ := h
        obtain ⟨h1, h2⟩ := bytesOf_spec r l' hl'
        refine ⟨by simp [h1], fun j hj => ?_⟩
        cases j with
        | zero =>
          show some _ = some _
          congr 3
          show n = ((UInt8.ofNat n.toNat).toNat : Int)
          rw [UInt8.toNat_ofNat']
          omega
        | succ j => exact h2 j (by simpa using hj)
      · cases h
    · cases h
theorem eff_sound (hR : Rel lim φ I w H) {o : Oper} {ev : Operand → AV} {ρ : Operand → Value} (hD : ∀ x, Den φ I w (ev x) (ρ x)) {r : AV} (h : effV P lim o.op ev H = some (r, H')) :
    ∃ y φ' I' w', ((execOp ρ o).run P w = .ok (.value y) w' ∨ ((execOp ρ o).run P w = .ok .skip w' ∧ y = undef)) ∧ Den φ' I' w' r y ∧ Rel lim φ' I' w' H' ∧ Ext lim φ I w φ' I' w' := by
  unfold effV at h
  split at h
  · rename_i t ho
    split at h
    · rename_i ty ht
      split at h
      · rename_i z hz
        cases h
        obtain ⟨v, hv, hc, -⟩ := tyOf_zero ht hz w
        have hA := alloc_fresh (T := t) hR (DL.vs (φ := φ) (I := I) (w := w) z).ok
        refine ⟨_, _, I, _, .inl ?_, hA⟩
        simp [execOp, ho, Instr.alloc, hv, newVar, newRow, hc]
      · cases h
    · cases h
  · rename_i t x ho
    split at h
    · rename_i ty c ht hc
      cases h
      obtain ⟨hDL, -⟩ := cellsOf_sound hc (hD x)
      have hA := alloc_fresh (T := t) hR hDL.ok
      refine ⟨_, _, I, _, .inl ?_, hA⟩
      simp [execOp, ho, Instr.box, newVar, newRow]
    · cases h
  · rename_i t a x ho
    split at h
    · rename_i ty b o' c ht ha hc
      split at h
      · rename_i k hk
        split at h
        · rename_i hcond
          cases h
          have hDa := hD a
          rw [ha] at hDa
          obtain ⟨w', h1, h2, h3⟩ := store_sound hR ht hk hc hcond.1 hcond.2.1 hcond.2.2 hDa (hD x)
          exact ⟨undef, φ, I, w', .inr ⟨by simp [execOp, ho, h1], rfl⟩, .v _, h2, h3⟩
        · cases h
      · cases h
    · cases h
  · rename_i t n parts ho
    split at h
    · rename_i e hk
      split at h
      · rename_i te hte
        split at h
        · rename_i z hz
          split at h
          · rename_i hc
            split at h
            · rename_i c hf
              cases h
              obtain ⟨v, hv, hvc, -⟩ := tyOf_zero hte hz w
              have hmd := made_DL (φ := φ) (I := I) (w := w) v z hvc (by omega) n
              obtain ⟨rs, h1, h2⟩ := fill_sound (φ := φ) (I := I) (w := w) _ (parts.map fun (i, x) => (i, ρ x)).toList _ _ _ hf (by simp) (parts_rel hD parts) hmd
              have hrs : rs.size = n * te.size := by
                have hlen : ∀ (ps : List (Nat × AV)) (cs r : List AV), fillA (fun i => some (i * te.size, te.size)) cs ps = some r → r.length = cs.length := by
                  intro ps
                  induction ps with
                  | nil => intro cs r h; simp [fillA] at h; rw [h]
                  | cons p ps ih =>
                    intro cs r h
                    obtain ⟨i, x⟩ := p
                    simp only [fillA] at h
                    split at h
                    · rename_i o s c' hpl hcc
                      split at h
                      · rename_i hl
                        rw [ih _ _ h]
                        simp; omega
                      · cases h
                    · cases h
                rw [h2.1, hlen _ _ _ hf, flat_len]
                simp [hc.1]
              have hA := alloc_fresh (T := e) hR h2.ok
              refine ⟨_, _, I, _, .inl ?_, alloc_slice hR h2.ok (Nat.le_refl n) (by unfold maxLen; have : n ≤ n * te.size := Nat.le_mul_of_pos_right _ hc.2.1; omega) (by omega), hA.2⟩
              have hbig : ¬ (n * te.size > 2 ^ 24) := by omega
              rw [hc.1] at h1
              by_cases hn0 : n * te.size = 0
              · have h1' : Instr.fill (fun i => some (i * te.size, te.size)) #[] (parts.map fun (i, x) => (i, ρ x)).toList = some rs := by
                  rw [← h1, hn0]; simp [madeCells, Array.range_zero']
                simp only [execOp, ho, Instr.buildSlice, Sem.run_bind, run_underlying (tyk_slice hk), Result.andThen_ok, run_sizeOf hte, Sem.run_ite, if_neg hbig, if_pos hn0, Sem.run_pure]
                rw [hn0]
                simp only [Array.range_zero', Array.map_empty]
                simp only [Array.toList_map] at h1' ⊢
                simp [h1', newRow]
              · simp only [execOp, ho, Instr.buildSlice, Sem.run_bind, run_underlying (tyk_slice hk), Result.andThen_ok, run_sizeOf hte, Sem.run_ite, if_neg hbig, if_neg hn0, Sem.run_pure, hv]
                have : Array.map (fun x => v.cells[x % v.cells.size]!) (Array.range (n * te.size)) = madeCells v.cells (n * te.size) := rfl
                rw [this, h1]
                simp [newRow]
            · cases h
          · cases h
        · cases h
      · cases h
    · cases h
  · rename_i t l c ho
    split at h
    · rename_i e k n k' m hk hl hc
      split at h
      · rename_i te hte
        split at h
        · rename_i z hz
          split at h
          · rename_i hcond
            obtain ⟨hzl, hs, h0, hnm, hmx, hby⟩ := hcond
            cases h
            obtain ⟨v, hv, hvc, i, hi, hiz, his, hib⟩ := tyOf_zero hte hz w
            have hDl := hD l
            rw [hl] at hDl
            have el := den_v hDl
            have hDc := hD c
            rw [hc] at hDc
            have ec := den_v hDc
            have hr := run_make (P := P) w t e i v (tyk_slice hk) hi hiz k k' n m h0 hnm (by rw [hib]; omega) (by omega)
            have hmd := made_DL (φ := φ) (I := I) (w := w) v z hvc (by omega) m.toNat
            rw [hzl] at hmd
            have hA := alloc_fresh (T := e) hR hmd.ok
            refine ⟨_, _, I, _, .inl ?_, alloc_slice (c := m.toNat) hR hmd.ok (by omega) (by unfold maxLen; omega) (by rw [size_madeCells]; exact Nat.le_refl _), hA.2⟩
            rw [his] at hr
            simp [execOp, ho, el, ec, hr]
          · cases h
        · cases h
      · cases h
    · cases h
  · rename_i args argTypes ho
    split at h
    · rename_i x y t u hx ht
      have e1 : args = #[x, y] := by apply Array.ext'; simpa using hx
      have e2 : argTypes = #[t, u] := by apply Array.ext'; simpa using ht
      subst e1; subst e2
      split at h
      · subst_vars
        obtain ⟨z, φ', w', h1, h2, h3, h4⟩ := append_sound (ot := o.type) hR h (hD x) (hD y)
        exact ⟨z, φ', I, w', .inl (by simp [execOp, ho, resolve, invoke, builtin, h1]), h2, h3, h4⟩
      · cases h
    · cases h
  · rename_i s d x ho
    split at h
    · rename_i ty e b ht hk hx
      split at h
      · rename_i hke
        split at h
        · rename_i hb
          cases h
          have hDx := hD x
          rw [hx] at hDx
          have ex := den_v hDx
          obtain ⟨i, d', hi, hd', -⟩ := tyOf_spec ht
          have hrun := Lib.run_convert_string_bytes (P := P) w s d e b hd' (tyk_slice hk) (tyk_int hke)
          obtain ⟨h1, h2⟩ := bytes_rel hR e b
          exact ⟨_, φ, _, _, .inl (by simp [execOp, ho, ex, hrun]), bytes_den e b (by unfold maxLen; omega), h1, h2⟩
        · cases h
      · cases h
    · rename_i yv ty ht hk
      simp only [Option.map_eq_some_iff] at h
      obtain ⟨r', hb, he⟩ := h
      cases he
      unfold backV at hb
      split at hb
      · rename_i e m new hty hsrc
        split at hb
        · rename_i l hke hl
          split at hb
          · rename_i hm
            cases hb
            obtain ⟨i, d', hi, hd', hkk⟩ := tyOf_spec ht
            have hs := src_sound hR hsrc (by decide) (hD x)
            obtain ⟨p, c, hv, hp, news, n1, n2, n3⟩ := hs.val
            obtain ⟨a, rfl⟩ : ∃ a, p = some a := by
              cases p with
              | none => have := hp rfl; omega
              | some a => exact ⟨a, rfl⟩
            obtain ⟨hll, hlb⟩ := bytesOf_spec new l hl
            have hlm : l.length = m := by rw [hll, hs.len, Nat.mul_one]
            have hsu : P.underlying s = some (.slice e) := tyk_slice (by simp only [tk, ht, kOf, Option.map_some, hty])
            have hrun := run_convert_bytes_back (P := P) w s d e a c l hsu (tyk_int hke) (tyk_string hk) (fun j hj => by
              have hjn : j < new.length := by rw [← hll]; exact hj
              have hjv : j < news.length := by rw [n1, Nat.mul_one, ← hlm]; exact hj
              have hx1 := hlb j hj
              have hd1 := n2 j _ _ hx1 (List.getElem?_eq_getElem hjv)
              have hv1 := n3 a rfl j _ (List.getElem?_eq_getElem hjv)
              rw [hv1, den_v hd1])
            rw [hlm] at hrun
            exact ⟨_, φ, I, w, .inl (by simp [execOp, ho, hv, hrun]), .v _, hR, Ext.refl⟩
          · cases hb
        · cases hb
      · cases hb
    · cases h
  · cases h

/-! ### States -/
def EnvOK (φ : Phi) (I : Nat → Prop) (w : World) (e : Env) (a : Act) : Prop := ∀ t, Den φ I w (e.get t) (a.tmps.getD t undef)

theorem EnvOK.ext (hR : Rel lim φ I w H) (hE : Ext lim φ I w φ' I' w') {e : Env} {a : Act} (h : EnvOK φ I w e a) : EnvOK φ' I' w' e a := fun t => (h t).ext hR hE

theorem env_ev {e : Env} {a : Act} (h : EnvOK φ I w e a) (x : Operand) : Den φ I w (evO e x) (a.eval x) := by
  cases x with
  | tmp t => exact h t
  | const v => exact den_ofV v
  | global g => exact .any _
  | func f => exact .clo f [] #[] rfl (fun j x y hx => by simp at hx)

def keys (e : Env) : List Nat := e.map (·.1)

theorem set_spec (e : Env) (t : Nat) (y : AV) (s : Nat) : (e.set t y).get s = if s = t then y else e.get s := by simp only [Env.set, Env.get]

/-- What stands below the entries of a region. -/
def EnvW (loc e : Env) : Prop := ∃ d, e = d ++ loc

theorem EnvW.put {loc e : Env} (h : EnvW loc e) (t : Option Nat) (y : AV) : EnvW loc (e.put t y) := by
  cases t with
  | none => exact h
  | some t =>
    obtain ⟨d, rfl⟩ := h
    exact ⟨(t, y) :: d, rfl⟩

theorem put_ok {e : Env} {a : Act} (h : EnvOK φ I w e a) {t : Option Nat} {x : AV} {y : Value} (hd : Den φ I w x y) (ht : ∀ s, t = some s → s < a.tmps.size) : EnvOK φ I w (e.put t x) (a.put t y) := by
  cases t with
  | none => exact h
  | some t =>
    intro s
    have hlt := ht t rfl
    simp only [Env.put, Act.put, set_spec e t x s]
    by_cases hs : s = t
    · subst hs
      simp [hlt, hd]
    · rw [if_neg hs]
      have := h s
      simpa [Array.getElem?_setIfInBounds, Ne.symm hs] using this

theorem getD_append (d loc : Env) (t : Nat) : Env.get (d ++ loc) t = Env.getD d t (loc.get t) := by
  induction d with
  | nil => rfl
  | cons p d ih =>
    obtain ⟨k, x⟩ := p
    simp only [List.cons_append, Env.get, Env.getD, ih]

theorem trim_ok {loc e : Env} {a : Act} (hw : EnvW loc e) (h : EnvOK φ I w e a) : EnvOK φ I w (trim e loc) a ∧ keys (trim e loc) = keys loc := by
  obtain ⟨d, rfl⟩ := hw
  have ht : (d ++ loc).take ((d ++ loc).length - loc.length) = d := by
    rw [List.length_append, Nat.add_sub_cancel, List.take_left]
  refine ⟨fun t => ?_, by simp [trim, keys, Function.comp_def]⟩
  have key : ∀ l : Env, Env.get (l.map fun p => (p.1, Env.getD d p.1 p.2)) t = .any ∨ Env.get (l.map fun p => (p.1, Env.getD d p.1 p.2)) t = Env.getD d t (l.get t) := by
    intro l
    induction l with
    | nil => left; rfl
    | cons p l ih =>
      obtain ⟨k, x⟩ := p
      simp only [List.map_cons, Env.get]
      split
      · subst_vars; right; rfl
      · exact ih
  unfold trim
  rw [ht]
  rcases key loc with h1 | h1
  · rw [h1]; exact .any _
  · rw [h1, ← getD_append]; exact h t

/-! ### Calls -/
def CallPost (lim : Nat) (φ : Phi) (I : Nat → Prop) (w : World) (H' : Heap) (r : AV) (e : Ending) (w' : World) : Prop :=
  ∃ x φ' I', e = .returned x ∧ Den φ' I' w' r x ∧ Rel lim φ' I' w' H' ∧ Ext lim φ I w φ' I' w'

def Named (P : Program) (f : FuncId) : Prop := ∃ fn : Func, P.funcs[f]? = some fn ∧ (fn.name == "runtime.NumGoroutine") = false ∧ fn.body.isNone = false

/-- What a call comes to: by way of the function's text, or at once, where the model has an entry of its own that leaves the world as it is. -/
def CallW (P : Program) (f : FuncId) (cs : Array Value) (w : World) (R : Ending → World → Prop) : Prop :=
  (Named P f ∧ Calls P f cs w R) ∨ ∃ x, (∀ w', (callFunc f cs).run P w' = .ok (.value x) w') ∧ R (.returned x) w
theorem CallW.mono {P : Program} {f : FuncId} {cs : Array Value} {w : World} {R R' : Ending → World → Prop} (h : CallW P f cs w R) (hk : ∀ e w', R e w' → R' e w') : CallW P f cs w R' := by
  rcases h with ⟨hN, h⟩ | ⟨x, hx, h⟩
  · exact .inl ⟨hN, h.mono hk⟩
  · exact .inr ⟨x, hx, hk _ _ h⟩
theorem named_run {P : Program} {f : FuncId} (hN : Named P f) (cs : Array Value) (w' : World) : (callFunc f cs).run P w' = .ok (.enter f cs) w' := by
  obtain ⟨fn, h1, h2, h3⟩ := hN
  have h2' : fn.name ≠ "runtime.NumGoroutine" := by simpa using h2
  have h3' : fn.body ≠ none := by intro hh; rw [hh] at h3; cases h3
  simp [callFunc, h1, h2', h3']
def CallOK (P : Program) (call : CallF) : Prop := ∀ lim f args H r H', call lim f args H = some (r, H') → ∀ φ I w (cs : Array Value), Rel lim φ I w H → DL φ I w args cs → CallW P f cs w (CallPost lim φ I w H' r)

def PurePost (φ : Phi) (I : Nat → Prop) (w : World) (lim : Nat) (H : Heap) (r : AV) (e : Ending) (w' : World) : Prop :=
  ∃ x I', e = .returned x ∧ Den φ I' w' r x ∧ (∀ k, I k → I' k) ∧ Bel w.heap.size w w' ∧ Rel lim φ I' w' H

def PureOK (P : Program) (call : CallF) (pu : FuncId → Bool) : Prop := ∀ lim f args H r H', pu f = true → call lim f args H = some (r, H') → H' = H ∧ ∀ φ I w (cs : Array Value), Rel lim φ I w H → DL φ I w args cs → CallW P f cs w (PurePost φ I w lim H r)

/-- Worlds in which all that was there is as it was. -/
theorem Den.down {x : AV} {y : Value} (hI : ∀ k, I k → k < w.heap.size) (hb : Bel w.heap.size w w') (h : Den φ I w x y) : Den φ I w' x y :=
  h.mono (List.prefix_refl _) (fun _ h => h) fun k hk => hb.block k (hI k hk)

theorem Rel.down (hR : Rel lim φ I w H) (hb : Bel w.heap.size w w') : Rel lim φ I w' H where
  len := hR.len
  tab := hR.tab_to (fun _ h => h) fun k hk => hb.block k (hR.Ilt k hk)
  limle := hR.limle
  blk := fun b k hk => by
    rcases hR.blk b k hk with h | ⟨L, C, T, h1, h2, h3, h5⟩
    · exact .inl h
    · exact .inr ⟨L, C, T, h1, by rw [hb.block _ (hR.disj b L h1).2]; exact h2, h3, h5.1, fun j x hx => by obtain ⟨y, e1, e2⟩ := h5.2 j x hx; exact ⟨y, e1, e2.down hR.Ilt hb⟩⟩
  disj := fun b L h => ⟨(hR.disj b L h).1, Nat.lt_of_lt_of_le (hR.disj b L h).2 hb.size⟩
  inj := hR.inj
  sep := hR.sep
  Ilt := fun k hk => Nat.lt_of_lt_of_le (hR.Ilt k hk) hb.size

theorem callV_spec {o : Op} {ev : Operand → AV} {f : FuncId} {args : List AV} (h : callV o ev = some (f, args)) : ∃ fo xs ts l, o = .call { callee := .value fo, args := xs, argTypes := ts } ∧ ev fo = .clo f l ∧ args = xs.toList.map ev ++ l := by
  unfold callV at h
  split at h
  · rename_i fo xs ts
    split at h
    · rename_i g l hl
      cases h
      exact ⟨fo, xs, ts, l, rfl, hl, rfl⟩
    · cases h
  · cases h

theorem call_run {o : Oper} {ev : Operand → AV} {ρ : Operand → Value} (hD : ∀ x, Den φ I w (ev x) (ρ x)) {f : FuncId} {args : List AV} (h : callV o.op ev = some (f, args)) :
    ∃ cs : Array Value, DL φ I w args cs ∧ ∀ w', (execOp ρ o).run P w' = (callFunc f cs).run P w' := by
  obtain ⟨fo, xs, ts, l, ho, hl, rfl⟩ := callV_spec h
  have hf := hD fo
  rw [hl] at hf
  generalize hv : ρ fo = vf at hf
  cases hf with
  | clo _ _ cap hs hDD =>
    refine ⟨xs.map ρ ++ cap, ⟨by simp [hs], fun j x y hx hy => ?_⟩, fun w' => ?_⟩
    · rw [List.getElem?_append] at hx
      split at hx
      · rename_i hj
        rw [Array.getElem?_append_left (by simpa using hj)] at hy
        simp at hx hy
        obtain ⟨c, g1, rfl⟩ := hx
        obtain ⟨d, g2, rfl⟩ := hy
        rw [g1] at g2; cases g2
        exact hD _
      · rename_i hj
        rw [Array.getElem?_append_right (by simpa using hj)] at hy
        simp at hx hy
        exact hDD _ _ _ hx hy
    · simp [execOp, ho, resolve, hv, Deferred.ofValue, invoke]

theorem op_sound {call : CallF} (hcall : CallOK P call) (hR : Rel lim φ I w H) {o : Oper} {e : Env} {a : Act} (hE : EnvOK φ I w e a) {r : AV} (h : opV P call lim o.op e H = some (r, H'))
    {K : Act → World → Prop} {Q : Exit → Act → World → Prop} (hK : ∀ φ' I' w' y, Den φ' I' w' r y → Rel lim φ' I' w' H' → Ext lim φ I w φ' I' w' → K (a.put o.dst y) w') : o.wp P a w K Q := by
  have hD := env_ev hE
  unfold opV at h
  split at h
  · rename_i t ad hl
    simp only [Option.map_eq_some_iff] at h
    obtain ⟨x, hx, he⟩ := h
    cases he
    have ho : o.op = .load t ad := by
      unfold isLoad at hl
      split at hl
      · rename_i ho; cases hl; exact ho
      · cases hl
    obtain ⟨y, h1, h2⟩ := load_sound hR hx (hD ad)
    have hrun : (execOp a.eval o).run P w = .ok (.value y) w := by simp [execOp, ho, h1 w (fun _ _ => rfl)]
    unfold Oper.wp
    rw [hrun]
    exact hK φ I w y h2 hR Ext.refl
  · split at h
    · rename_i f args hc
      obtain ⟨cs, hDL, hrun⟩ := call_run hD hc
      unfold Oper.wp
      rw [hrun w]
      rcases hcall _ _ _ _ _ _ h φ I w cs hR hDL with ⟨hN, hC⟩ | ⟨y, hy, hC⟩
      · rw [named_run hN]
        refine hC.mono fun e' w' he => ?_
        obtain ⟨x, φ', I', rfl, h1, h2, h3⟩ := he
        exact hK φ' I' w' x h1 h2 h3
      · rw [hy w]
        obtain ⟨x, φ', I', he, h1, h2, h3⟩ := hC
        cases he
        exact hK φ' I' w y h1 h2 h3
    · split at h
      · rename_i x hp
        cases h
        obtain ⟨y, h1, h2⟩ := pop_sound hD hp
        unfold Oper.wp
        rw [h1 w]
        exact hK φ I w y h2 hR Ext.refl
      · obtain ⟨y, φ', I', w', h1, h2, h3, h4⟩ := eff_sound hR hD h
        unfold Oper.wp
        rcases h1 with h1 | ⟨h1, rfl⟩
        · rw [h1]; exact hK φ' I' w' y h2 h3 h4
        · rw [h1]; exact hK φ' I' w' undef h2 h3 h4

theorem wanted_sound {ops : Array Oper} {e : Env} {a : Act} (hE : EnvOK φ I w e a) {o : Oper} {b : Bool} (hs : ∀ (j : Nat) (o : Oper) (d : Nat), ops[j]? = some o → o.dst = some d → d < a.tmps.size) (h : wantedA ops e o = some b) : Region.wanted o (yielded ops a.tmps) = b := by
  unfold wantedA at h
  unfold Region.wanted
  split at h
  · rename_i hg; cases h; simp [hg]
  · rename_i j want hg
    simp only [hg]
    split at h
    · rename_i d hd
      have hDd := hE d
      have hlt : d < a.tmps.size := by
        cases hj : ops[j]? with
        | none => simp [hj] at hd
        | some o' => simp [hj] at hd; exact hs j o' d hj hd
      have hget : a.tmps[d]? = some (a.tmps.getD d undef) := by simp [hlt]
      unfold yielded
      rw [hd]
      simp only [Option.bind_some, hget]
      split at h
      · rename_i t ht
        rw [ht] at hDd
        rw [den_v hDd]
        cases h
        simp
      · rename_i x hx ht
        rw [ht] at hDd
        rw [den_v hDd]
        cases h
        cases x <;> first | rfl | (exact absurd rfl (hx _))
      · cases h
    · cases h

def dstOK (N : Nat) (ops : Array Oper) : Bool := ops.all fun o => match o.dst with | some d => d < N | none => true

theorem dstOK_spec {N : Nat} {ops : Array Oper} (h : dstOK N ops = true) : ∀ (j : Nat) (o : Oper) (d : Nat), ops[j]? = some o → o.dst = some d → d < N := by
  intro j o d hj hd
  simp only [dstOK, Array.all_eq_true] at h
  have hjl : j < ops.size := (Array.getElem?_eq_some_iff.1 hj).1
  have := h j hjl
  rw [(Array.getElem?_eq_some_iff.1 hj).2, hd] at this
  simpa using this

theorem act_put_size {a : Act} {t : Option Nat} {v : Value} : (a.put t v).tmps.size = a.tmps.size := by cases t <;> simp [Act.put]
theorem act_put_defers {a : Act} {t : Option Nat} {v : Value} : (a.put t v).defers = a.defers := by cases t <;> rfl

theorem runOps_sound {call : CallF} (hcall : CallOK P call) {ops : Array Oper} {N : Nat} {loc : Env} (hdst : dstOK N ops = true) {Q : Exit → Act → World → Prop} : ∀ (l : List Oper), (∀ o ∈ l, o ∈ ops.toList) → ∀ (e e' : Env) (H H' : Heap) (φ : Phi) (I : Nat → Prop) (w : World) (a : Act),
    runOps P call lim ops l e H = some (e', H') → N ≤ a.tmps.size → a.defers = [] → EnvOK φ I w e a → EnvW loc e → Rel lim φ I w H →
    (∀ φ' I' w' a', a'.tmps.size = a.tmps.size → a'.defers = [] → EnvOK φ' I' w' e' a' → EnvW loc e' → Rel lim φ' I' w' H' → Ext lim φ I w φ' I' w' → Q .normal a' w') → wpList P ops Q l a w
  | [], _, e, e', H, H', φ, I, w, a, h, hN, hdf, hE, hW, hR, hQ => by
    simp [runOps] at h
    obtain ⟨rfl, rfl⟩ := h
    exact hQ φ I w a rfl hdf hE hW hR Ext.refl
  | o :: l, hmem, e, e', H, H', φ, I, w, a, h, hN, hdf, hE, hW, hR, hQ => by
    have hds : ∀ s, o.dst = some s → s < a.tmps.size := fun s hs => by
      obtain ⟨j, hj, hj'⟩ := List.getElem_of_mem (hmem o (by simp))
      exact Nat.lt_of_lt_of_le (dstOK_spec hdst j o s (by rw [Array.getElem?_eq_getElem (by simpa using hj)]; simpa using hj') hs) hN
    have hall : ∀ (j : Nat) (o : Oper) (d : Nat), ops[j]? = some o → o.dst = some d → d < a.tmps.size := fun j o d h1 h2 => by have := dstOK_spec hdst j o d h1 h2; omega
    simp only [runOps] at h
    simp only [wpList]
    split at h
    · rename_i hw
      rw [wanted_sound hE hall hw, if_pos rfl]
      split at h
      · rename_i x H1 hop
        refine .inl (op_sound hcall hR hE hop fun φ' I' w' y hd hR' hX => ?_)
        exact runOps_sound hcall hdst l (fun o ho => hmem o (by simp [ho])) _ _ _ _ φ' I' w' _ h (by rw [act_put_size]; exact hN) (by rw [act_put_defers]; exact hdf) (put_ok (hE.ext hR hX) hd hds) (hW.put _ _) hR'
          (fun φ'' I'' w'' a' h1 h2 h3 h4 h5 h6 => hQ φ'' I'' w'' a' (by rw [h1, act_put_size]) h2 h3 h4 h5 (hX.trans h6))
      · cases h
    · rename_i hw
      rw [wanted_sound hE hall hw]
      simp only [Bool.false_eq_true, if_false]
      exact runOps_sound hcall hdst l (fun o ho => hmem o (by simp [ho])) _ _ _ _ φ I w _ h (by rw [act_put_size]; exact hN) (by rw [act_put_defers]; exact hdf) (put_ok hE (.v _) hds) (hW.put _ _) hR
        (fun φ'' I'' w'' a' h1 h2 h3 h4 h5 h6 => hQ φ'' I'' w'' a' (by rw [h1, act_put_size]) h2 h3 h4 h5 h6)
    · cases h

/-- The very same value in every world. -/
theorem exacts_same {r : AV} (h : exacts r = true) : ∃ x, ∀ φ I w y, Den φ I w r y → y = x := by
  have pick : ∀ l : List AV, l.all exact = true → ∃ cs : Array Value, ∀ φ I w (ds : Array Value), ds.size = l.length → (∀ (j : Nat) (x : AV) (y : Value), l[j]? = some x → ds[j]? = some y → Den φ I w x y) → ds = cs := by
    intro l hl
    refine ⟨(l.map fun x => match x with | .v v => v | _ => undef).toArray, fun φ I w ds hs hd => ?_⟩
    apply Array.ext
    · simp [hs]
    · intro j h1 h2
      have hj : j < l.length := by omega
      have hx := List.all_eq_true.1 hl l[j] (List.getElem_mem hj)
      have hden := hd j l[j] ds[j] (List.getElem?_eq_getElem hj) (Array.getElem?_eq_getElem h1)
      cases hlj : l[j] with
      | v v => rw [hlj] at hden; simp [hlj, den_v hden]
      | _ => rw [hlj] at hx; simp [exact] at hx
  unfold exacts at h
  split at h
  · rename_i x; exact ⟨x, fun φ I w y hy => den_v hy⟩
  · rename_i l
    obtain ⟨cs, hcs⟩ := pick l h
    refine ⟨.tuple cs, fun φ I w y hy => ?_⟩
    cases hy with
    | tup _ ds hs hd => rw [hcs φ I w ds hs hd]
  · rename_i l
    obtain ⟨cs, hcs⟩ := pick l h
    refine ⟨.agg cs, fun φ I w y hy => ?_⟩
    cases hy with
    | agg _ ds hs hd => rw [hcs φ I w ds hs hd]
  · cases h

theorem quiet_sound {call : CallF} {pu : FuncId → Bool} (hpure : PureOK P call pu) (hcall : CallOK P call) (hR : Rel lim φ I w H) {o : Oper} {e : Env} {a : Act} (hE : EnvOK φ I w e a) {r : AV} (h : quietV P call pu o.op e H = some r) :
    ∃ y, (∀ w', Bel w.heap.size w w' → o.quietAt P a (fun w' => Bel w.heap.size w w') w' y) ∧ Den φ I w r y := by
  have hD := env_ev hE
  unfold quietV at h
  split at h
  · rename_i t ad hl
    have ho : o.op = .load t ad := by
      unfold isLoad at hl
      split at hl
      · rename_i ho; cases hl; exact ho
      · cases hl
    obtain ⟨y, h1, h2⟩ := load_sound hR h (hD ad)
    refine ⟨y, fun w' hw' => ?_, h2⟩
    unfold Oper.quietAt
    have : (execOp a.eval o).run P w' = .ok (.value y) w' := by simp [execOp, ho, h1 w' hw'.block]
    rw [this]
    exact ⟨rfl, rfl⟩
  · split at h
    · rename_i f args hc
      split at h
      · rename_i hpf
        split at h
        · rename_i x H1 hx
          split at h
          · rename_i hex
            cases h
            obtain ⟨cs, hDL, hrun⟩ := call_run hD hc
            obtain ⟨-, hC⟩ := hpure _ _ _ _ _ _ hpf hx
            obtain ⟨v, hv⟩ := exacts_same hex
            have hRL : Rel H.length φ I w H := ⟨hR.len, Nat.le_refl _, hR.blk, hR.disj, hR.inj, fun b b' L L' hb hb' hL hL' => by
              have h1 := (List.getElem?_eq_some_iff.1 hL').1
              rw [hR.len] at h1; omega, hR.Ilt, hR.tab⟩
            refine ⟨v, fun w' hw' => ?_, ?_⟩
            · unfold Oper.quietAt
              rw [hrun w']
              have hDL' : DL φ I w' args cs := ⟨hDL.1, fun j x y hx hy => (hDL.2 j x y hx hy).down hR.Ilt hw'⟩
              rcases hC φ I w' cs (hRL.down hw') hDL' with ⟨hN, hC'⟩ | ⟨z, hz, hC'⟩
              · rw [named_run hN]
                refine ⟨rfl, ?_⟩
                refine hC'.mono fun e' w'' he => ?_
                obtain ⟨y, I', rfl, g1, g2, g3, g4⟩ := he
                exact ⟨by rw [hv _ _ _ _ g1], hw'.trans (g3.mono hw'.size)⟩
              · rw [hz w']
                obtain ⟨y, I', he, g1, g2, g3, g4⟩ := hC'
                cases he
                exact ⟨rfl, hv _ _ _ _ g1⟩
            · -- a value of one shape denotes itself
              unfold exacts at hex
              split at hex
              · rename_i x; have := hv φ I w x (.v x); rw [← this]; exact .v _
              · rename_i l
                have hsz : (l.map fun x => match x with | AV.v v => v | _ => undef).toArray.size = l.length := by simp
                have hden : Den φ I w (.tup l) (.tuple (l.map fun x => match x with | AV.v v => v | _ => undef).toArray) := .tup _ _ hsz fun j x y hx hy => by
                  simp at hy
                  obtain ⟨x', h1, h2⟩ := hy
                  rw [hx] at h1; cases h1
                  have := List.all_eq_true.1 hex x (List.mem_of_getElem? hx)
                  cases x <;> simp [exact] at this
                  simp at h2; subst h2; exact .v _
                rw [← hv _ _ _ _ hden]; exact hden
              · rename_i l
                have hsz : (l.map fun x => match x with | AV.v v => v | _ => undef).toArray.size = l.length := by simp
                have hden : Den φ I w (.agg l) (.agg (l.map fun x => match x with | AV.v v => v | _ => undef).toArray) := .agg _ _ hsz fun j x y hx hy => by
                  simp at hy
                  obtain ⟨x', h1, h2⟩ := hy
                  rw [hx] at h1; cases h1
                  have := List.all_eq_true.1 hex x (List.mem_of_getElem? hx)
                  cases x <;> simp [exact] at this
                  simp at h2; subst h2; exact .v _
                rw [← hv _ _ _ _ hden]; exact hden
              · cases hex
          · cases h
        · cases h
      · cases h
    · obtain ⟨y, h1, h2⟩ := pop_sound hD h
      refine ⟨y, fun w' hw' => ?_, h2⟩
      unfold Oper.quietAt
      rw [h1 w']
      exact ⟨rfl, rfl⟩

theorem runQuiet_sound {call : CallF} {pu : FuncId → Bool} (hpure : PureOK P call pu) (hcall : CallOK P call) {ops : Array Oper} {N : Nat} {loc : Env} (hdst : dstOK N ops = true) (hR : Rel lim φ I w H) {Q : Act → Prop} : ∀ (l : List Oper), (∀ o ∈ l, o ∈ ops.toList) → ∀ (e e' : Env) (a : Act),
    runQuiet P call pu ops l e H = some e' → N ≤ a.tmps.size → a.defers = [] → EnvOK φ I w e a → EnvW loc e →
    (∀ a', a'.tmps.size = a.tmps.size → a'.defers = [] → EnvOK φ I w e' a' → EnvW loc e' → Q a') → wpQuiet P ops (fun w' => Bel w.heap.size w w') Q l a
  | [], _, e, e', a, h, hN, hdf, hE, hW, hQ => by
    simp [runQuiet] at h
    subst h
    exact hQ a rfl hdf hE hW
  | o :: l, hmem, e, e', a, h, hN, hdf, hE, hW, hQ => by
    have hds : ∀ s, o.dst = some s → s < a.tmps.size := fun s hs => by
      obtain ⟨j, hj, hj'⟩ := List.getElem_of_mem (hmem o (by simp))
      exact Nat.lt_of_lt_of_le (dstOK_spec hdst j o s (by rw [Array.getElem?_eq_getElem (by simpa using hj)]; simpa using hj') hs) hN
    have hall : ∀ (j : Nat) (o : Oper) (d : Nat), ops[j]? = some o → o.dst = some d → d < a.tmps.size := fun j o d h1 h2 => by have := dstOK_spec hdst j o d h1 h2; omega
    simp only [runQuiet] at h
    simp only [wpQuiet]
    split at h
    · rename_i hw
      rw [wanted_sound hE hall hw, if_pos rfl]
      split at h
      · rename_i x hop
        obtain ⟨y, h1, h2⟩ := quiet_sound hpure hcall hR hE hop
        refine ⟨y, h1, ?_⟩
        exact runQuiet_sound hpure hcall hdst hR l (fun o ho => hmem o (by simp [ho])) _ _ _ h (by rw [act_put_size]; exact hN) (by rw [act_put_defers]; exact hdf) (put_ok hE h2 hds) (hW.put _ _)
          (fun a' h1 h2 h3 h4 => hQ a' (by rw [h1, act_put_size]) h2 h3 h4)
      · cases h
    · rename_i hw
      rw [wanted_sound hE hall hw]
      simp only [Bool.false_eq_true, if_false]
      exact runQuiet_sound hpure hcall hdst hR l (fun o ho => hmem o (by simp [ho])) _ _ _ h (by rw [act_put_size]; exact hN) (by rw [act_put_defers]; exact hdf) (put_ok hE (.v _) hds) (hW.put _ _)
        (fun a' h1 h2 h3 h4 => hQ a' (by rw [h1, act_put_size]) h2 h3 h4)
    · cases h

end
end Go.Am
end
