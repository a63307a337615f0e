/-
  The abstract machine: making slices, appending; all operations but calls together.
-/
import Derived.Test.YtcnleglfdnhagaaAmG
set_option linter.unusedSectionVars false
namespace Go.Am
open Go
variable [Dn]
set_option linter.unusedSimpArgs false
set_option linter.unusedVariables false

section
variable {P : Program} {lim : Nat} {φ φ' φ'' : Phi} {I I' I'' : Nat → Prop} {w w' w'' : World} {H H' : Heap}

theorem flat_rep {α : Type} (l : List α) (hl : 0 < l.length) : ∀ (m j : Nat) (x : α), (List.replicate m l).flatten[j]? = some x → l[j % l.length]? = some x ∧ j < m * l.length
  | 0, j, x, h => by simp at h
  | m + 1, j, x, h => by
    rw [List.replicate_succ, List.flatten_cons, List.getElem?_append] at h
    have e : (m + 1) * l.length = m * l.length + l.length := Nat.succ_mul _ _
    split at h
    · rename_i hj
      rw [Nat.mod_eq_of_lt hj]
      exact ⟨h, by omega⟩
    · rename_i hj
      obtain ⟨h1, h2⟩ := flat_rep l hl m (j - l.length) x h
      refine ⟨?_, by omega⟩
      rw [Nat.mod_eq_sub_mod (by omega)]
      exact h1
theorem flat_len {α : Type} (l : List α) (m : Nat) : (List.replicate m l).flatten.length = m * l.length := by
  induction m with
  | zero => simp
  | succ m ih => rw [List.replicate_succ, List.flatten_cons, List.length_append, ih, Nat.succ_mul]; omega

theorem made_DL (z : Value) (zl : List Value) (hz : z.cells = zl.toArray) (hp : 0 < zl.length) (m : Nat) : DL φ I w (List.replicate m (zl.map AV.v)).flatten (madeCells z.cells (m * zl.length)) := by
  refine ⟨by rw [size_madeCells, flat_len]; simp, fun j x y hx hy => ?_⟩
  obtain ⟨h1, h2⟩ := flat_rep (zl.map AV.v) (by simpa using hp) m j x hx
  simp only [List.length_map] at h1 h2
  have h3 : j % zl.length < zl.length := Nat.mod_lt _ hp
  simp only [madeCells, hz] at hy
  simp [h2] at hy
  simp [h3] at h1
  subst h1
  rw [List.getElem?_eq_getElem h3] at hy
  simp at hy
  subst hy
  exact .v _

/-- What is appended, as it lies in memory. -/
structure Src (φ : Phi) (I : Nat → Prop) (w : World) (s m : Nat) (new : List AV) (v : Value) : Prop where
  len : new.length = m * s
  val : ∃ p c, v = .slice p m c ∧ (p = none → m = 0) ∧ ∃ news : List Value, news.length = m * s ∧ (∀ (j : Nat) (x : AV) (y : Value), new[j]? = some x → news[j]? = some y → Den φ I w x y) ∧
    ∀ a, p = some a → ∀ (j : Nat) (u : Value), news[j]? = some u → w.cell? (a.add j) = some u

theorem exists_list {n : Nat} {p : Nat → Value → Prop} (h : ∀ j, j < n → ∃ y, p j y) : ∃ l : List Value, l.length = n ∧ ∀ (j : Nat) (y : Value), l[j]? = some y → p j y := by
  induction n with
  | zero => exact ⟨[], rfl, fun j y hy => by simp at hy⟩
  | succ n ih =>
    obtain ⟨l, h1, h2⟩ := ih fun j hj => h j (by omega)
    obtain ⟨y, hy⟩ := h n (by omega)
    refine ⟨l ++ [y], by simp [h1], fun j z hz => ?_⟩
    rw [List.getElem?_append] at hz
    split at hz
    · exact h2 j z hz
    · rename_i hj
      have : j - l.length = 0 := by
        have := (List.getElem?_eq_some_iff.1 hz).1
        simp at this; omega
      rw [this] at hz
      simp at hz
      subst hz
      have : j = n := by omega
      rw [this]; exact hy

theorem src_sound (hR : Rel lim φ I w H) {s m : Nat} {x : AV} {new : List AV} (h : srcCells H s x = some (m, new)) (hs : 0 < s) {vx : Value} (hx : Den φ I w x vx) : Src φ I w s m new vx := by
  unfold srcCells at h
  split at h
  · rename_i z b o m'
    split at h
    · rename_i k hk
      split at h
      · rename_i hl
        cases h
        refine ⟨by simp; omega, ?_⟩
        cases hx with
        | own0 _ _ _ hb => exact ⟨none, 0, rfl, fun _ => rfl, [], by simp, fun j x y hx hy => by simp at hy, fun a ha => by cases ha⟩
        | own _ _ _ _ c off L hL hn hc ho =>
          rcases hR.blk b k hk with ⟨h1, h2⟩ | ⟨L', C, T, h1, h2, h3, h5⟩
          · rw [hL] at h1; cases h1
          · rw [hL] at h1; cases h1
            by_cases hm : m = 0
            · subst hm
              exact ⟨_, c, rfl, (fun h => by cases h), [], by simp, fun j x y hx hy => by simp at hy, fun a ha j u hu => by simp at hu⟩
            · have ho' : off = L.base + o := by
                rcases ho with h0 | h0
                · omega
                · exact h0.1
              subst ho'
              obtain ⟨news, n1, n2⟩ := exists_list (n := m * s) (p := fun j y => C[L.base + o + j]? = some y ∧ ∀ x, k[o + j]? = some x → Den φ I w x y) (fun j hj => by
                obtain ⟨y, g1, g2⟩ := h5.2 (o + j) (k[o + j]'(by omega)) (List.getElem?_eq_getElem _)
                exact ⟨y, by rw [Nat.add_assoc]; exact g1, fun x hx => by rw [List.getElem?_eq_getElem (by omega)] at hx; cases hx; exact g2⟩)
              refine ⟨_, c, rfl, (fun h => by cases h), news, n1, fun j x y hx hy => ?_, fun a ha j u hu => ?_⟩
              · rw [List.getElem?_take] at hx
                split at hx
                · rw [List.getElem?_drop] at hx
                  exact (n2 j y hy).2 x hx
                · cases hx
              · cases ha
                rw [addr_add _ _ rfl]
                simp only
                rw [cell_of_row w L.k _ C T _ h2]
                exact (n2 j u hu).1
      · cases h
    · cases h
  · rename_i m' l
    split at h
    · rename_i hl
      cases h
      refine ⟨by simp; omega, ?_⟩
      cases hx with
      | sl0 _ p => exact ⟨p, 0, rfl, fun _ => rfl, [], by simp, fun j x y hx hy => by simp at hy, fun a ha j u hu => by simp at hu⟩
      | sl _ _ c a Y hn hc ha hI hY hD =>
        obtain ⟨news, n1, n2⟩ := exists_list (n := m * s) (p := fun j y => y = Y j) (fun j hj => ⟨_, rfl⟩)
        refine ⟨some a, c, rfl, (fun h => by cases h), news, n1, fun j x y hx hy => ?_, fun a' ha' j u hu => ?_⟩
        · rw [List.getElem?_take] at hx
          split at hx
          · rw [n2 j y hy]; exact hD j x hx
          · cases hx
        · cases ha'
          have hj : j < m * s := by rw [← n1]; exact (List.getElem?_eq_some_iff.1 hu).1
          rw [addr_add a j ha, n2 j u hu]
          exact hY j (l[j]'(by omega)) (List.getElem?_eq_getElem _)
    · cases h
  · cases h
    have := den_v hx
    subst this
    exact ⟨by simp, none, 0, rfl, fun _ => rfl, [], by simp, fun j x y hx hy => by simp at hy, fun a ha => by cases ha⟩
  · cases h

theorem run_append_zero (t ty e : TypeId) (te : Ty) (ht : P.underlying t = some (.slice e)) (hte : tyOf P e = some te) (b p : Option Addr) (n c c' : Nat) (hn : n ≤ c) (hs : ∀ a, b = some a → a = a) :
    (Builtin.append_ #[t, t] ty #[.slice b n c, .slice p 0 c']).run P w = .ok (.slice b n c) w := by
  have hn' : n + 0 ≤ c := by omega
  have hf : (Builtin.firstCells te.size 0 (.slice p 0 c')).run P w = .ok #[] w := by
    cases p with
    | none => simp [Builtin.firstCells]
    | some a => simp [Builtin.firstCells, loadCells, loadCellsFrom]
  cases b with
  | none => simp [Builtin.append_, run_underlying ht, run_sizeOf hte, Builtin.lenOf, hn, hf]
  | some a => simp [Builtin.append_, run_underlying ht, run_sizeOf hte, Builtin.lenOf, hn, hf, storeCells]

/-- Behind a slice that has room: the new cells are laid into its own block. -/
theorem run_append_in (t ty e : TypeId) (te : Ty) (ht : P.underlying t = some (.slice e)) (hte : tyOf P e = some te) (k off n c : Nat) (C : Array Value) (T : TypeId) (hk : w.heap[k]? = some (.cells C T (0, 0)))
    (a : Addr) (m c' : Nat) (news : List Value) (hl : news.length = m * te.size) (hnews : ∀ (j : Nat) (u : Value), news[j]? = some u → w.cell? (a.add j) = some u) (h1 : ∀ u ∈ news, u.oneCell' = true)
    (hroom : n + m ≤ c) (hfit : off + n * te.size + news.length ≤ C.size) :
    (Builtin.append_ #[t, t] ty #[.slice (some ⟨k, off, none⟩) n c, .slice (some a) m c']).run P w =
      .ok (.slice (some ⟨k, off, none⟩) (n + m) c) (w.setRow k (C.toList.take (off + n * te.size) ++ news ++ C.toList.drop (off + n * te.size + news.length)).toArray) := by
  have hf := run_firstCells_some (P := P) w te.size m a m c' news hl hnews
  have hst := run_storeCells_at P k (off + n * te.size) T news 0 C w hk (by simpa using hfit) h1
  simp only [Nat.add_zero] at hst
  have e := addr_add ⟨k, off, none⟩ (n * te.size) rfl
  simp [Builtin.append_, run_underlying ht, run_sizeOf hte, Builtin.lenOf, hroom, hf, e, hst]

theorem room_of {n m bytes : Nat} (h : (n + m) * bytes ≤ 140737488355328) : (n + m) * bytes ≤ 281474976710656 := by omega

theorem append_sound (hR : Rel lim φ I w H) {t ot : TypeId} {x y r : AV} (h : appendV P lim H t x y = some (r, H')) {vx vy : Value} (hx : Den φ I w x vx) (hy : Den φ I w y vy) :
    ∃ z φ' w', (Builtin.append_ #[t, t] ot #[vx, vy]).run P w = .ok z w' ∧ Den φ' I w' r z ∧ Rel lim φ' I w' H' ∧ Ext lim φ I w φ' I w' := by
  unfold appendV at h
  split at h
  · rename_i e hk
    have hu := tyk_slice hk
    split at h
    · rename_i te hte
      split at h
      · rename_i z m new hz hsrc
        split at h
        · rename_i hc0
          obtain ⟨hzl, hs, hst⟩ := hc0
          obtain ⟨zv, -, hzc, i, hi, hiz, hisz, hib⟩ := tyOf_zero hte hz w
          obtain ⟨hnl, p, c', rfl, hpm, news, hnews, hnd, hncell⟩ := src_sound hR hsrc hs hy
          have hone : ∀ u ∈ news, u.oneCell' = true := by
            intro u hu
            obtain ⟨j, hj, rfl⟩ := List.getElem_of_mem hu
            have hj' : j < new.length := by omega
            have hd := hnd j new[j] news[j] (List.getElem?_eq_getElem _) (List.getElem?_eq_getElem _)
            exact (storable_sound (List.all_eq_true.1 hst _ (List.getElem_mem hj')) hd).1
          have hNew : DL φ I w new news.toArray := ⟨by simp [hnews, hnl], fun j a b ha hb => hnd j a b ha (by simpa using hb)⟩
          split at h
          · rename_i z' b o n
            split at h
            · rename_i k hkb
              split at h
              · rename_i hc
                obtain ⟨hlim, rfl, hok, hby, hmx⟩ := hc
                cases h
                have hKill := kill_sound hR b
                cases hx with
                | own0 _ _ _ hb =>
                  -- a nil slice
                  rcases hR.blk b k hkb with ⟨h1, rfl⟩ | ⟨L', C, T, h1, h2, h3, h5⟩
                  · by_cases hm : m = 0
                    · subst hm
                      have hnew0 : new = [] := List.eq_nil_of_length_eq_zero (by simpa using hnl)
                      subst hnew0
                      have hn := nil_sound hKill
                      refine ⟨.slice none 0 0, φ ++ [none], w, run_append_zero t ot e te hu hte none p 0 0 c' (Nat.le_refl _) (fun _ _ => rfl), ?_, by simpa using hn.1, hn.2⟩
                      exact .own0 _ _ _ (by rw [← hR.len]; simp)
                    · cases p with
                      | none => exact absurd (hpm rfl) hm
                      | some a =>
                        have hr := run_append_nil (P := P) w t ot e i zv hu hi hiz a m c' news (by rw [hnews, hisz]) (hncell a rfl) (by omega) (by simp at hmx; omega) (by rw [hib]; have := hby; simp at this; omega)
                        have hA := alloc_sound (T := e) hKill (C := news.toArray ++ Builtin.zeroCells zv.cells (grownCap w m 0 e - m)) (cells := new)
                          ⟨by simp; omega, fun j x hx => by
                            have hj : j < news.length := by rw [hnews, ← hnl]; exact (List.getElem?_eq_some_iff.1 hx).1
                            refine ⟨news[j], ?_, hnd j x _ hx (List.getElem?_eq_getElem _)⟩
                            rw [Nat.zero_add, Array.getElem?_append_left (by simpa using hj)]
                            simp [hj]⟩ (w' := w.drew.alloc (.cells (news.toArray ++ Builtin.zeroCells zv.cells (grownCap w m 0 e - m)) e)) rfl rfl ⟨rfl, fun _ => Nat.le_succ _⟩ rfl
                        refine ⟨_, _, _, hr, ?_, by simpa using hA.1, hA.2⟩
                        have hge := grownCap_ge w m 0 e
                        have hle := grownCap_le_maxLen w m 0 e (by unfold maxLen; simp at hmx; omega)
                        have hD := Den.own (I := I) (w := w.drew.alloc (.cells (news.toArray ++ Builtin.zeroCells zv.cells (grownCap w m 0 e - m)) e)) te.size H.length 0 (0 + m) (grownCap w m 0 e) 0
                          ⟨w.heap.size, 0, (news.toArray ++ Builtin.zeroCells zv.cells (grownCap w m 0 e - m)).size⟩ (φ := φ ++ [some ⟨w.heap.size, 0, (news.toArray ++ Builtin.zeroCells zv.cells (grownCap w m 0 e - m)).size⟩])
                          (by rw [← hR.len]; simp) (by omega) hle (.inr ⟨rfl, by
                            simp only [Array.size_append, List.size_toArray, size_zeroCells, hnews, hzc, hzl, Nat.zero_add]
                            rw [← Nat.add_mul]
                            exact Nat.mul_le_mul_right _ (by omega)⟩)
                        simpa using hD
                  · rw [hb] at h1; cases h1
                | own _ _ _ _ c off L hL hn hc ho =>
                  rcases hR.blk b k hkb with ⟨h1, h2⟩ | ⟨L', C, T, h1, h2, h3, h5⟩
                  · rw [hL] at h1; cases h1
                  rw [hL] at h1; cases h1
                  by_cases hm : m = 0
                  · subst hm
                    have hnew0 : new = [] := List.eq_nil_of_length_eq_zero (by simpa using hnl)
                    subst hnew0
                    have hself : Wrote w w L.k C T := ⟨h2, fun _ _ => rfl, rfl, rfl, ⟨rfl, fun _ => Nat.le_refl _⟩, rfl⟩
                    by_cases hc0 : c = 0
                    · have hn0 : n = 0 := by omega
                      subst hn0; subst hc0
                      have hA := reid_sound hR hkb hL hlim hself h3 0 (k' := []) ⟨by simp, fun j x hx => by simp at hx⟩
                      refine ⟨_, _, w, run_append_zero t ot e te hu hte _ p 0 0 c' (Nat.le_refl _) (fun _ _ => rfl), ?_, by simpa using hA.1, hA.2⟩
                      exact .own _ _ _ _ 0 off ⟨L.k, 0, L.S⟩ (by rw [← hR.len]; simp) (Nat.le_refl _) (Nat.zero_le _) (.inl rfl)
                    · have ho' := ho.resolve_left hc0
                      obtain ⟨rfl, hfit⟩ := ho'
                      have hA := reid_sound hR hkb hL hlim hself h3 (L.base + o) (k' := (k.drop o).take (n * te.size)) ⟨by have := h5.1; simp; omega, fun j x hx => by
                        rw [List.getElem?_take] at hx
                        split at hx
                        · rw [List.getElem?_drop] at hx
                          obtain ⟨y, g1, g2⟩ := h5.2 _ _ hx
                          exact ⟨y, by rw [Nat.add_assoc]; exact g1, g2⟩
                        · cases hx⟩
                      refine ⟨_, _, w, run_append_zero t ot e te hu hte _ p n c c' hn (fun _ _ => rfl), ?_, by simpa using hA.1, hA.2⟩
                      exact .own _ _ _ _ c (L.base + o) ⟨L.k, L.base + o, L.S⟩ (by rw [← hR.len]; simp) hn hc (.inr ⟨rfl, hfit⟩)
                  · cases p with
                    | none => exact absurd (hpm rfl) hm
                    | some a =>
                      by_cases hroom : n + m ≤ c
                      · have ho' := ho.resolve_left (by omega)
                        obtain ⟨rfl, hfit⟩ := ho'
                        have hmul : (n + m) * te.size ≤ c * te.size := Nat.mul_le_mul_right _ hroom
                        have hmul2 : (n + m) * te.size = n * te.size + m * te.size := Nat.add_mul _ _ _
                        have hr := run_append_in (P := P) (w := w) t ot e te hu hte L.k (L.base + o) n c C T h2 a m c' news hnews (hncell a rfl) hone hroom (by omega)
                        have hw := wrote_setRow (C' := (C.toList.take (L.base + o + n * te.size) ++ news ++ C.toList.drop (L.base + o + n * te.size + news.length)).toArray) h2
                        have hsz : (C.toList.take (L.base + o + n * te.size) ++ news ++ C.toList.drop (L.base + o + n * te.size + news.length)).toArray.size = L.S := by simp; omega
                        have hA := reid_sound hR hkb hL hlim hw hsz (L.base + o) (k' := (k.drop o).take (n * te.size) ++ new) ⟨by rw [hsz]; simp; omega, fun j x hx => by
                          have get : ∀ i, (C.toList.take (L.base + o + n * te.size) ++ news ++ C.toList.drop (L.base + o + n * te.size + news.length)).toArray[L.base + o + i]? =
                              if i < n * te.size then C[L.base + o + i]? else if i - n * te.size < news.length then news[i - n * te.size]? else C[L.base + o + i]? := by
                            intro i
                            simp only [List.getElem?_toArray, List.append_assoc, List.getElem?_append, List.length_take, List.getElem?_take, List.getElem?_drop, Array.length_toList]
                            have e3 : min (L.base + o + n * te.size) C.size = L.base + o + n * te.size := by omega
                            rw [e3]
                            by_cases h1 : i < n * te.size
                            · rw [if_pos (by omega), if_pos h1, if_pos (by omega)]; simp
                            · rw [if_neg (by omega), if_neg h1]
                              rw [show L.base + o + i - (L.base + o + n * te.size) = i - n * te.size by omega]
                              by_cases h2 : i - n * te.size < news.length
                              · rw [if_pos h2, if_pos h2]
                              · rw [if_neg h2, if_neg h2]
                                rw [show L.base + o + n * te.size + news.length + (i - n * te.size - news.length) = L.base + o + i by omega]
                                simp
                          rw [get]
                          rw [List.getElem?_append] at hx
                          have hlen : ((k.drop o).take (n * te.size)).length = n * te.size := by simp; omega
                          rw [hlen] at hx
                          split at hx
                          · rename_i hj
                            rw [if_pos hj]
                            rw [List.getElem?_take, if_pos hj, List.getElem?_drop] at hx
                            obtain ⟨y, g1, g2⟩ := h5.2 _ _ hx
                            exact ⟨y, by rw [Nat.add_assoc]; exact g1, g2⟩
                          · rename_i hj
                            have hjn : j - n * te.size < news.length := by rw [hnews, ← hnl]; exact (List.getElem?_eq_some_iff.1 hx).1
                            rw [if_neg hj, if_pos hjn]
                            exact ⟨_, List.getElem?_eq_getElem hjn, hnd _ _ _ hx (List.getElem?_eq_getElem hjn)⟩⟩
                        refine ⟨_, _, _, hr, ?_, by simpa using hA.1, hA.2⟩
                        exact .own _ _ _ _ c (L.base + o) ⟨L.k, L.base + o, L.S⟩ (by rw [← hR.len]; simp) hroom hc (.inr ⟨rfl, hfit⟩)
                      · have hold : ∃ olds : List Value, olds.length = n * te.size ∧ (∀ (j : Nat) (u : Value), olds[j]? = some u → w.cell? ((⟨L.k, off, none⟩ : Addr).add j) = some u) ∧ (∀ (j : Nat) (x : AV) (y : Value), ((k.drop o).take (n * te.size))[j]? = some x → olds[j]? = some y → Den φ I w x y) := by
                          by_cases hn0 : n = 0
                          · subst hn0
                            exact ⟨[], by simp, fun j u hu => by simp at hu, fun j x y hx hy => by simp at hy⟩
                          · have ho' := ho.resolve_left (by omega)
                            obtain ⟨rfl, hfit⟩ := ho'
                            obtain ⟨olds, n1, n2⟩ := exists_list (n := n * te.size) (p := fun j y => C[L.base + o + j]? = some y ∧ ∀ x, k[o + j]? = some x → Den φ I w x y) (fun j hj => by
                              obtain ⟨y, g1, g2⟩ := h5.2 (o + j) (k[o + j]'(by omega)) (List.getElem?_eq_getElem _)
                              exact ⟨y, by rw [Nat.add_assoc]; exact g1, fun x hx => by rw [List.getElem?_eq_getElem (by omega)] at hx; cases hx; exact g2⟩)
                            refine ⟨olds, n1, fun j u hu => ?_, fun j x y hx hy => ?_⟩
                            · rw [addr_add _ _ rfl]
                              simp only
                              rw [cell_of_row w L.k _ C T _ h2]
                              exact (n2 j u hu).1
                            · rw [List.getElem?_take] at hx
                              split at hx
                              · rw [List.getElem?_drop] at hx
                                exact (n2 j y hy).2 x hx
                              · cases hx
                        obtain ⟨olds, o1, o2, o3⟩ := hold
                        have hr := run_append_grow (P := P) w t ot e i zv hu hi hiz ⟨L.k, off, none⟩ n c olds (by rw [o1, hisz]) o2 a m c' news (by rw [hnews, hisz]) (hncell a rfl) (by omega) (by omega)
                          (growslice_fits (by omega) (by rw [hib]; exact hby))
                        have hA := alloc_sound (T := e) hKill (C := olds.toArray ++ news.toArray ++ Builtin.zeroCells zv.cells (grownCap w (n + m) c e - (n + m))) (cells := (k.drop o).take (n * te.size) ++ new)
                          ⟨by simp; omega, fun j x hx => by
                            rw [Nat.zero_add]
                            rw [List.getElem?_append] at hx
                            have hlen : ((k.drop o).take (n * te.size)).length = n * te.size := by simp; omega
                            rw [hlen] at hx
                            split at hx
                            · rename_i hj
                              refine ⟨olds[j]'(by omega), ?_, o3 j x _ hx (List.getElem?_eq_getElem _)⟩
                              rw [Array.getElem?_append_left (by simp; omega), Array.getElem?_append_left (by simp; omega)]
                              simp
                            · rename_i hj
                              have hjn : j - n * te.size < news.length := by rw [hnews, ← hnl]; exact (List.getElem?_eq_some_iff.1 hx).1
                              refine ⟨news[j - n * te.size], ?_, hnd _ _ _ hx (List.getElem?_eq_getElem _)⟩
                              rw [Array.getElem?_append_left (by simp; omega), Array.getElem?_append_right (by simp; omega)]
                              simp [o1, hjn]⟩ (w' := w.drew.alloc (.cells (olds.toArray ++ news.toArray ++ Builtin.zeroCells zv.cells (grownCap w (n + m) c e - (n + m))) e)) rfl rfl ⟨rfl, fun _ => Nat.le_succ _⟩ rfl
                        refine ⟨_, _, _, hr, ?_, by simpa using hA.1, hA.2⟩
                        have hge := grownCap_ge w (n + m) c e
                        have hle := grownCap_le_maxLen w (n + m) c e (by unfold maxLen; omega)
                        exact Den.own (I := I) te.size H.length 0 (n + m) (grownCap w (n + m) c e) 0
                          ⟨w.heap.size, 0, (olds.toArray ++ news.toArray ++ Builtin.zeroCells zv.cells (grownCap w (n + m) c e - (n + m))).size⟩
                          (by rw [← hR.len]; simp) (by omega) hle (.inr ⟨rfl, by
                            simp only [Array.size_append, List.size_toArray, size_zeroCells, hnews, hzc, hzl, o1]
                            rw [← Nat.add_mul, ← Nat.add_mul]
                            simp only [Nat.zero_add]
                            exact Nat.mul_le_mul_right _ (by omega)⟩)
              · cases h
            · cases h
          · -- the literal nil
            have hvx := den_v hx
            subst hvx
            split at h
            · rename_i hc
              obtain ⟨hby, hmx⟩ := hc
              cases h
              by_cases hm : m = 0
              · subst hm
                have hnew0 : new = [] := List.eq_nil_of_length_eq_zero (by simpa using hnl)
                subst hnew0
                have hn := nil_sound hR
                refine ⟨.slice none 0 0, φ ++ [none], w, run_append_zero t ot e te hu hte none p 0 0 c' (Nat.le_refl _) (fun _ _ => rfl), ?_, hn.1, hn.2⟩
                exact .own0 _ _ _ (by rw [← hR.len]; simp)
              · cases p with
                | none => exact absurd (hpm rfl) hm
                | some a =>
                  have hr := run_append_nil (P := P) w t ot e i zv hu hi hiz a m c' news (by rw [hnews, hisz]) (hncell a rfl) (by omega) (by omega) (by rw [hib]; omega)
                  have hA := alloc_sound (T := e) hR (C := news.toArray ++ Builtin.zeroCells zv.cells (grownCap w m 0 e - m)) (cells := new)
                    ⟨by simp; omega, fun j x hx => by
                      have hj : j < news.length := by rw [hnews, ← hnl]; exact (List.getElem?_eq_some_iff.1 hx).1
                      refine ⟨news[j], ?_, hnd j x _ hx (List.getElem?_eq_getElem _)⟩
                      rw [Nat.zero_add, Array.getElem?_append_left (by simpa using hj)]
                      simp [hj]⟩ (w' := w.drew.alloc (.cells (news.toArray ++ Builtin.zeroCells zv.cells (grownCap w m 0 e - m)) e)) rfl rfl ⟨rfl, fun _ => Nat.le_succ _⟩ rfl
                  refine ⟨_, _, _, hr, ?_, hA.1, hA.2⟩
                  have hge := grownCap_ge w m 0 e
                  have hle := grownCap_le_maxLen w m 0 e (by unfold maxLen; omega)
                  exact Den.own (I := I) te.size H.length 0 m (grownCap w m 0 e) 0
                    ⟨w.heap.size, 0, (news.toArray ++ Builtin.zeroCells zv.cells (grownCap w m 0 e - m)).size⟩
                    (by rw [← hR.len]; simp) (by omega) hle (.inr ⟨rfl, by
                      simp only [Array.size_append, List.size_toArray, size_zeroCells, hnews, hzc, hzl, Nat.zero_add]
                      rw [← Nat.add_mul]
                      exact Nat.mul_le_mul_right _ (by omega)⟩)
            · cases h
          · cases h
        · cases h
      · cases h
    · cases h
  · cases h

end
end Go.Am
