/-
  The abstract machine: the soundness of every operation but calls.
-/
import Derived.Test.YtcnleglfdnhagaaAmE
import Derived.Laws.MakeOwn
import Derived.Laws.NewFold
import Derived.Laws.Tables
set_option linter.unusedSectionVars false
namespace Go.Am
open Go
variable [Dn]
set_option linter.unusedSimpArgs false
set_option linter.unusedVariables false

section
variable {P : Program} {lim : Nat} {φ φ' φ'' : Phi} {I I' I'' : Nat → Prop} {w w' w'' : World} {H H' : Heap}

def DL (φ : Phi) (I : Nat → Prop) (w : World) (l : List AV) (cs : Array Value) : Prop := cs.size = l.length ∧ ∀ (j : Nat) (x : AV) (y : Value), l[j]? = some x → cs[j]? = some y → Den φ I w x y

theorem DL.ok {l : List AV} {cs : Array Value} (h : DL φ I w l cs) : CellsOK φ I w cs 0 l :=
  ⟨by rw [h.1]; omega, fun j x hx => by
    have hj : j < cs.size := by rw [h.1]; exact (List.getElem?_eq_some_iff.1 hx).1
    exact ⟨cs[j], by simp [hj], h.2 j x _ hx (by simp [hj])⟩⟩

theorem DL.vs (l : List Value) : DL φ I w (l.map .v) l.toArray :=
  ⟨by simp, fun j x y hx hy => by
    simp at hx hy
    obtain ⟨a, h1, rfl⟩ := hx
    rw [h1] at hy; cases hy
    exact .v _⟩

theorem storable_sound {x : AV} (h : storable x = true) {y : Value} (hd : Den φ I w x y) : y.oneCell' = true ∧ y.cells = #[y] := by
  cases hd <;> simp [storable] at h <;> first | exact ⟨rfl, rfl⟩ | skip
  cases y <;> simp [Value.oneCell'] at h ⊢ <;> rfl

theorem cellsOf_sound {x : AV} {c : List AV} (h : cellsOf x = some c) {y : Value} (hd : Den φ I w x y) : DL φ I w c y.cells ∧ ∀ u ∈ y.cells.toList, u.oneCell' = true := by
  unfold cellsOf at h
  split at h
  · split at h
    · rename_i l hall
      cases h
      cases hd with
      | agg _ cs hs hD =>
        refine ⟨⟨hs, hD⟩, fun u hu => ?_⟩
        obtain ⟨j, hj, rfl⟩ := List.getElem_of_mem hu
        have hj' : j < cs.size := by simpa [Value.cells] using hj
        have hjl : j < c.length := by omega
        have := hD j c[j] cs[j] (by simp [hjl]) (by simp [hj'])
        have hst := List.all_eq_true.1 hall c[j] (List.getElem_mem hjl)
        simpa [Value.cells] using (storable_sound hst this).1
    · cases h
  · split at h
    · rename_i hst
      cases h
      have := storable_sound hst hd
      rw [this.2]
      refine ⟨⟨rfl, fun j a b ha hb => ?_⟩, fun u hu => ?_⟩
      · cases j with
        | zero => simp at ha hb; subst ha; subst hb; exact hd
        | succ j => simp at ha
      · simp at hu; subst hu; exact this.1
    · cases h

theorem fold_set (off : Nat) : ∀ (vs : List Value) (i : Nat) (cells : Array Value),
    ((vs.zipIdx i).foldl (fun cs (x : Value × Nat) => cs.setIfInBounds (off + x.2) x.1) cells).size = cells.size ∧
    ∀ k, k < cells.size → ((vs.zipIdx i).foldl (fun cs (x : Value × Nat) => cs.setIfInBounds (off + x.2) x.1) cells)[k]? =
      if off + i ≤ k ∧ k < off + i + vs.length then vs[k - (off + i)]? else cells[k]?
  | [], i, cells => by
    refine ⟨rfl, fun k hk => ?_⟩
    rw [if_neg (by simp)]
    rfl
  | v :: vs, i, cells => by
    have ih := fold_set off vs (i + 1) (cells.setIfInBounds (off + i) v)
    simp only [List.zipIdx_cons, List.foldl_cons]
    refine ⟨by rw [ih.1]; simp, fun k hk => ?_⟩
    rw [ih.2 k (by simpa using hk)]
    by_cases h1 : k = off + i
    · subst h1
      rw [if_neg (by omega), if_pos (by simp)]
      simp [hk]
    · by_cases h2 : off + (i + 1) ≤ k ∧ k < off + (i + 1) + vs.length
      · rw [if_pos h2, if_pos (by simp; omega)]
        have : k - (off + i) = (k - (off + (i + 1))) + 1 := by omega
        rw [this]; rfl
      · rw [if_neg h2, if_neg (by simp; omega), Array.getElem?_setIfInBounds, if_neg (by omega)]

theorem fill_sound {place : Nat → Option (Nat × Nat)} : ∀ (parts : List (Nat × AV)) (vparts : List (Nat × Value)) (cells r : List AV) (cs : Array Value),
    fillA place cells parts = some r → vparts.length = parts.length → (∀ (j : Nat) (p : Nat × AV) (q : Nat × Value), parts[j]? = some p → vparts[j]? = some q → p.1 = q.1 ∧ Den φ I w p.2 q.2) →
    DL φ I w cells cs → ∃ rs, Instr.fill place cs vparts = some rs ∧ DL φ I w r rs
  | [], vparts, cells, r, cs, h, hl, _, hd => by
    cases vparts with
    | nil => simp [fillA] at h; subst h; exact ⟨cs, rfl, hd⟩
    | cons a b => simp at hl
  | (i, x) :: parts, vparts, cells, r, cs, h, hl, hp, hd => by
    cases vparts with
    | nil => simp at hl
    | cons q vparts =>
      obtain ⟨i', y⟩ := q
      have h0 := hp 0 (i, x) (i', y) rfl rfl
      simp only at h0
      obtain ⟨rfl, hxy⟩ := h0
      simp only [fillA] at h
      split at h
      · rename_i o s c hpl hc
        split at h
        · rename_i hlen
          obtain ⟨hcd, -⟩ := cellsOf_sound hc hxy
          have hsz : y.cells.size = s := by rw [hcd.1]; exact hlen.1
          have hf := fold_set o y.cells.toList 0 cs
          have hDL : DL φ I w (cells.take o ++ c ++ cells.drop (o + s)) ((y.cells.toList.zipIdx 0).foldl (fun cs (x : Value × Nat) => cs.setIfInBounds (o + x.2) x.1) cs) := by
            refine ⟨by rw [hf.1, hd.1]; simp; omega, fun j a b ha hb => ?_⟩
            have hjl : j < cs.size := by rw [← hf.1]; exact (Array.getElem?_eq_some_iff.1 hb).1
            rw [hf.2 j hjl] at hb
            simp only [Nat.add_zero, Array.length_toList, hsz] at hb
            rw [List.append_assoc, List.getElem?_append] at ha
            simp only [List.length_take] at ha
            split at ha
            · rename_i hj
              rw [List.getElem?_take, if_pos (by omega)] at ha
              rw [if_neg (by omega)] at hb
              exact hd.2 j a b ha hb
            · rename_i hj
              have hmin : min o cells.length = o := by omega
              rw [hmin] at ha hj
              rw [List.getElem?_append] at ha
              split at ha
              · rename_i hj2
                rw [if_pos (by omega)] at hb
                exact hcd.2 (j - o) a b ha (by simpa using hb)
              · rename_i hj2
                rw [if_neg (by omega)] at hb
                rw [List.getElem?_drop] at ha
                exact hd.2 j a b (by rw [← ha]; congr 1; omega) hb
          obtain ⟨rs, h1, h2⟩ := fill_sound parts vparts _ r _ h (by simpa using hl) (fun j p q hj hq => hp (j + 1) p q (by simpa using hj) (by simpa using hq)) hDL
          refine ⟨rs, ?_, h2⟩
          have hcond : ¬ (y.cells.size ≠ s ∨ o + y.cells.size > cs.size) := by rw [hsz, hd.1]; omega
          have hz : y.cells.zipIdx.foldl (fun cs (x : Value × Nat) => cs.setIfInBounds (o + x.2) x.1) cs = (y.cells.toList.zipIdx 0).foldl (fun cs (x : Value × Nat) => cs.setIfInBounds (o + x.2) x.1) cs := by
            rw [← Array.foldl_toList, Array.toList_zipIdx]
          simp only [Instr.fill, hpl]
          rw [if_neg (by simpa using hcond)]
          rw [← h1, ← hz]
        · cases h
      · cases h

theorem tyOf_zero {t : TypeId} {ty : Ty} (h : tyOf P t = some ty) {z : List Value} (hz : ty.zero = some z) (w : World) : ∃ v : Value, (zeroValue t).run P w = .ok v w ∧ v.cells = z.toArray ∧ ∃ i, P.info? t = some i ∧ i.zero = some v ∧ i.size = ty.size ∧ i.bytes = ty.bytes := by
  obtain ⟨i, d, hi, hd, rfl⟩ := tyOf_spec h
  simp only [Option.map_eq_some_iff] at hz
  obtain ⟨v, h1, h2⟩ := hz
  refine ⟨v, by simp [zeroValue, typeInfo, hi, h1], ?_, i, hi, h1, rfl, rfl⟩
  rw [← h2]

theorem parts_rel {ev : Operand → AV} {ρ : Operand → Value} (hD : ∀ x, Den φ I w (ev x) (ρ x)) (parts : Array (Nat × Operand)) :
    ∀ (j : Nat) (p : Nat × AV) (q : Nat × Value), (parts.toList.map fun (i, x) => (i, ev x))[j]? = some p → (parts.map fun (i, x) => (i, ρ x)).toList[j]? = some q → p.1 = q.1 ∧ Den φ I w p.2 q.2 := by
  intro j p q hp hq
  simp at hp hq
  obtain ⟨a, b, h1, rfl⟩ := hp
  obtain ⟨c, d, h2, rfl⟩ := hq
  rw [h1] at h2
  cases h2
  exact ⟨rfl, hD _⟩

theorem places_sound : ∀ (gs : List Field) (l : List (Nat × Nat)), places P (gs.map fun f => (f.offset, f.type)) = some l → gs.mapM (fun f => (P.info? f.type).map fun i => (f.offset, i.size)) = some l
  | [], l, h => by simp [places] at h; subst h; simp
  | g :: gs, l, h => by
    simp only [List.map_cons, places] at h
    split at h
    · rename_i te r ht hr
      cases h
      obtain ⟨i, d, hi, -, rfl⟩ := tyOf_spec ht
      have ih := places_sound gs r hr
      simp [List.mapM_cons, hi, ih]
    · cases h

theorem build_sound {ev : Operand → AV} {ρ : Operand → Value} (hD : ∀ x, Den φ I w (ev x) (ρ x)) {t : TypeId} {parts : Array (Nat × Operand)} {r : AV}
    (h : buildV P t (parts.toList.map fun (i, x) => (i, ev x)) = some r) : ∃ y, (∀ w', (Instr.build t (parts.map fun (i, x) => (i, ρ x))).run P w' = .ok y w') ∧ Den φ I w r y := by
  unfold buildV at h
  split at h
  · rename_i ty ht
    split at h
    · rename_i z fs hz hk
      obtain ⟨gs, hu, rfl⟩ := tyk_struct (P := P) (t := t) (by rw [tyk_of ht, hk])
      split at h
      · rename_i l hl
        simp only [Option.map_eq_some_iff] at h
        obtain ⟨c, hf, rfl⟩ := h
        obtain ⟨rs, h1, h2⟩ := fill_sound (φ := φ) (I := I) (w := w) _ (parts.map fun (i, x) => (i, ρ x)).toList _ _ _ hf (by simp) (parts_rel hD parts) (DL.vs z)
        obtain ⟨v, -, hv, i, hi, hiz, -⟩ := tyOf_zero ht hz w
        refine ⟨.agg rs, fun w' => ?_, .agg _ _ h2.1 h2.2⟩
        refine run_build w' t _ rs ?_
        simp only [Program.built, hi, hu, hiz, hv, places_sound _ _ hl]
        simpa using h1
      · cases h
    · rename_i z n e hz hk
      have hu := tyk_array (P := P) (t := t) (by rw [tyk_of ht, hk])
      split at h
      · rename_i te hte
        simp only [Option.map_eq_some_iff] at h
        obtain ⟨c, hf, rfl⟩ := h
        obtain ⟨rs, h1, h2⟩ := fill_sound (φ := φ) (I := I) (w := w) _ (parts.map fun (i, x) => (i, ρ x)).toList _ _ _ hf (by simp) (parts_rel hD parts) (DL.vs z)
        obtain ⟨v, -, hv, i, hi, hiz, -⟩ := tyOf_zero ht hz w
        obtain ⟨ie, de, hie, -, rfl⟩ := tyOf_spec hte
        refine ⟨.agg rs, fun w' => ?_, .agg _ _ h2.1 h2.2⟩
        refine run_build w' t _ rs ?_
        simp only [Program.built, hi, hu, hiz, hv, hie]
        exact h1
      · cases h
    · cases h
  · cases h


/-- The arguments of a builtin, denoted one by one. -/
theorem den_ofV (x : Value) : Den φ I w (ofV x) x := by
  unfold ofV
  split
  · rename_i cs
    exact .agg _ _ (by simp) fun j a b ha hb => by
      simp at ha
      obtain ⟨c, h1, rfl⟩ := ha
      rw [h1] at hb; cases hb; exact .v _
  · rename_i f fi ca
    split
    · rename_i h
      have h1 : fi = #[] := by simpa using h.1
      have h2 : ca = #[] := by simpa using h.2
      subst h1; subst h2
      exact .clo _ _ _ rfl (fun j a b ha => by simp at ha)
    · exact .v _
  · exact .v _

theorem pop_sound {o : Oper} {ev : Operand → AV} {ρ : Operand → Value} (hD : ∀ x, Den φ I w (ev x) (ρ x)) {r : AV} (h : popV P o.op ev = some r) :
    ∃ y, (∀ w', (execOp ρ o).run P w' = .ok (.value y) w') ∧ Den φ I w r y := by
  have lift : ∀ {s : Sem Value} (he : execOp ρ o = (do pure (.value (← s)) : Sem Next)), (∃ y, (∀ w', s.run P w' = .ok y w') ∧ Den φ I w r y) → ∃ y, (∀ w', (execOp ρ o).run P w' = .ok (.value y) w') ∧ Den φ I w r y := by
    intro s he ⟨y, h1, h2⟩
    exact ⟨y, fun w' => by rw [he]; simp [h1], h2⟩
  unfold popV at h
  split at h
  · rename_i x ho
    cases h
    exact ⟨ρ x, fun w' => by simp [execOp, ho], hD x⟩
  · rename_i x ho
    cases h
    exact ⟨ρ x, fun w' => by simp [execOp, ho], hD x⟩
  · rename_i c a b ho
    split at h
    · rename_i t ht
      have hc := hD c
      rw [ht] at hc
      have := den_v hc
      cases h
      cases t with
      | true => exact ⟨ρ a, fun w' => by simp [execOp, ho, this, asBool], hD a⟩
      | false => exact ⟨ρ b, fun w' => by simp [execOp, ho, this, asBool], hD b⟩
    · cases h
  · rename_i t parts ho
    exact lift (by simp only [execOp, ho]) (build_sound hD h)
  · rename_i x ho
    have hx := hD x
    split at h
    · rename_i b o' hb
      cases h
      rw [hb] at hx
      generalize hv : ρ x = vx at hx
      cases hx with
      | ptr _ _ L hL => exact ⟨_, fun w' => by simp [execOp, ho, hv], .ptr _ _ L hL⟩
    · rename_i l o' hb
      cases h
      rw [hb] at hx
      generalize hv : ρ x = vx at hx
      cases hx with
      | ele _ _ a Y ha hI hY hDD => exact ⟨_, fun w' => by simp [execOp, ho, hv], .ele _ _ a Y ha hI hY hDD⟩
    · rename_i f l hb
      cases h
      rw [hb] at hx
      generalize hv : ρ x = vx at hx
      cases hx with
      | clo _ _ cs hs hDD => exact ⟨_, fun w' => by simp [execOp, ho, hv], .clo _ _ cs hs hDD⟩
    · cases h
  · rename_i op t x y ty ho
    exact lift (by simp only [execOp, ho]) (bin_sound h (hD x) (hD y) x y)
  · rename_i op t x ho
    exact lift (by simp only [execOp, ho]) (un_sound h (hD x))
  · rename_i s d x ho
    exact lift (by simp only [execOp, ho]) (conv_sound h (hD x))
  · rename_i f first captured ho
    split at h
    · rename_i h0
      cases h
      have h1 : first = #[] := by simpa using h0
      subst h1
      refine ⟨.func (.func f) #[] (captured.map ρ), fun w' => by simp [execOp, ho, Instr.makeFunc], .clo _ _ _ (by simp) fun j a b ha hb => ?_⟩
      simp at ha hb
      obtain ⟨c, g1, rfl⟩ := ha
      obtain ⟨d, g2, rfl⟩ := hb
      rw [g1] at g2; cases g2
      exact hD _
    · cases h
  · rename_i t x lo hi ho
    exact lift (by simp only [execOp, ho, Option.map_none]) (slice_sound hD h)
  · rename_i s x f ho
    exact lift (by simp only [execOp, ho]) (fieldAddr_sound h (hD x))
  · rename_i s x f ho
    exact lift (by simp only [execOp, ho]) (field_sound h (hD x))
  · rename_i t x i ho
    exact lift (by simp only [execOp, ho]) (indexAddr_sound h (hD x) (hD i))
  · rename_i t x i ho
    exact lift (by simp only [execOp, ho]) (index_sound h (hD x) (hD i))
  · rename_i t i ho
    have hx := hD t
    split at h
    · rename_i l hl
      rw [hl] at hx
      generalize hv : ρ t = vt at hx
      cases hx with
      | tup _ cs hs hDD =>
        have hi : i < l.length := (List.getElem?_eq_some_iff.1 h).1
        have he : cs[i]? = some (cs[i]'(by omega)) := by simp [hs, hi]
        exact ⟨_, fun w' => by simp [execOp, ho, hv, Instr.extract, he], hDD i r _ h he⟩
    · cases h
  · rename_i args argTypes ho
    split at h
    · rename_i x t hx ht
      have e1 : args = #[x] := by apply Array.ext'; simpa using hx
      have e2 : argTypes = #[t] := by apply Array.ext'; simpa using ht
      subst e1; subst e2
      refine lift ?_ (len_sound (ot := o.type) h (hD x))
      simp [execOp, ho, resolve, invoke, builtin]
    · cases h
  · rename_i args argTypes ho
    split at h
    · rename_i x rest hx
      have e1 : args = (x :: rest).toArray := by apply Array.ext'; simpa using hx
      subst e1
      obtain ⟨y, h1, h2⟩ := foldA_sound (P := P) max2_sound _ _ _ h (ρ x) (rest.map ρ) (hD x) (by simp) (fun j a b ha hb => by
        simp at ha hb
        obtain ⟨c, g1, rfl⟩ := ha
        obtain ⟨d, g2, rfl⟩ := hb
        rw [g1] at g2; cases g2
        exact hD _)
      refine ⟨y, fun w' => ?_, h2⟩
      simp [execOp, ho, resolve, invoke, builtin, Builtin.max_, h1]
    · cases h
  · rename_i args argTypes ho
    split at h
    · rename_i x rest hx
      have e1 : args = (x :: rest).toArray := by apply Array.ext'; simpa using hx
      subst e1
      obtain ⟨y, h1, h2⟩ := foldA_sound (P := P) min2_sound _ _ _ h (ρ x) (rest.map ρ) (hD x) (by simp) (fun j a b ha hb => by
        simp at ha hb
        obtain ⟨c, g1, rfl⟩ := ha
        obtain ⟨d, g2, rfl⟩ := hb
        rw [g1] at g2; cases g2
        exact hD _)
      refine ⟨y, fun w' => ?_, h2⟩
      simp [execOp, ho, resolve, invoke, builtin, Builtin.min_, h1]
    · cases h
  · cases h

end
end Go.Am
