/-
  reserve.narrow: two rows that grow side by side; sorting and compacting in memory of the call's own. Plain lemmas.
-/
import Derived.Test.YtkjgmpjnhfmecaaMe
set_option linter.unusedVariables false
set_option linter.unusedSimpArgs false
namespace Go.Proofs.Ytkjgmpjnhfmecaa
open Go Go.Am
def clr : AV → Heap → Heap
  | .own _ b _ _, H => hset H b none
  | _, H => H
theorem clr_len (o : AV) (H : Heap) : (clr o H).length = H.length := by
  unfold clr; split <;> simp [hset]
/-- Two rows of u numbers in blocks of their own, or none. -/
def Two (H : Heap) (x y : AV) (u : Nat) (F T : List Int) : Prop := F.length = u ∧ T.length = u ∧ ((u = 0 ∧ x = nilO ∧ y = nilO) ∨ (0 < u ∧ ∃ b c, x = .own 1 b 0 u ∧ y = .own 1 c 0 u ∧ 1 ≤ b ∧ 1 ≤ c ∧ b ≠ c ∧ hget H b = some (F.map AV.i) ∧ hget H c = some (T.map AV.i)))
theorem Two.mono {H H' : Heap} {x y : AV} {u : Nat} {F T : List Int} (h : Two H x y u F T) (hh : ∀ b k, hget H b = some k → hget H' b = some k) : Two H' x y u F T := by
  obtain ⟨h1, h2, h⟩ := h
  refine ⟨h1, h2, ?_⟩
  rcases h with h | ⟨h0, b, c, e1, e2, e3, e4, e5, e6, e7⟩
  · exact .inl h
  · exact .inr ⟨h0, b, c, e1, e2, e3, e4, e5, hh _ _ e6, hh _ _ e7⟩
theorem Two.new {H H' : Heap} {x y : AV} {u : Nat} {F T : List Int} {k : Blk} (h : Two H x y u F T) (hn : MNew H H' k) : Two H' x y u F T := h.mono fun b k hk => (hn.old b (hget_lt hk)).trans hk
theorem Two.wrote {H H' : Heap} {x y : AV} {u d : Nat} {F T : List Int} {k : Blk} {z : AV} {f g : List AV} (h : Two H x y u F T) (hn : MWrote H d H' k) (hd : hget H d = some f) (hF : ∀ b, hget H b = some (F.map AV.i) → b ≠ d) (hT : ∀ b, hget H b = some (T.map AV.i) → b ≠ d) : Two H' x y u F T := by
  obtain ⟨h1, h2, h⟩ := h
  refine ⟨h1, h2, ?_⟩
  rcases h with h | ⟨h0, b, c, e1, e2, e3, e4, e5, e6, e7⟩
  · exact .inl h
  · exact .inr ⟨h0, b, c, e1, e2, e3, e4, e5, (hn.old b (hF b e6)).trans e6, (hn.old c (hT c e7)).trans e7⟩
/-- The record that a round lays and fills stands behind both rows. -/
theorem Two.rec {H H1 H2 : Heap} {x y : AV} {u : Nat} {F T : List Int} {k k2 : Blk} (h : Two H x y u F T) (hn : MNew H H1 k) (hw : MWrote H1 H.length H2 k2) : Two H2 x y u F T := h.mono fun b k hk => by
  have hl := hget_lt hk
  exact (hw.old b (by omega)).trans ((hn.old b hl).trans hk)
theorem two_app {H HX X : Heap} {x y : AV} {u d : Nat} {F T : List Int} {v : Int} (h : Two H x y u F T) (hu : u ≤ 1000) (hX : HX = H ++ X) (hd : hget HX d = some [AV.i v]) :
    appendV Try.prog 0 HX 44 x (.own 1 d 0 1) = some (.own 1 HX.length 0 (u + 1), clr x H ++ X ++ [some ((F ++ [v]).map AV.i)]) := by
  obtain ⟨h1, h2, h⟩ := h
  rcases h with ⟨h0, rfl, rfl⟩ | ⟨h0, b, c, rfl, rfl, e3, e4, e5, e6, e7⟩
  · obtain rfl : F = [] := List.eq_nil_of_length_eq_zero (by omega)
    subst h0
    simp only [appendV, tk44, ty2, srcCells, hd]
    rw [if_pos (by simp)]
    simp only [List.length_cons, List.length_nil]
    rw [List.drop_zero, if_pos ⟨trivial, by decide, rfl⟩, if_pos ⟨by omega, by omega⟩]
    subst hX
    rfl
  · have e8 : hget HX b = some (F.map AV.i) := by rw [hX, hget_low _ _ _ (hget_lt e6)]; exact e6
    simp only [appendV, tk44, ty2, srcCells, hd, e8]
    rw [if_pos (by simp)]
    simp only [List.length_cons, List.length_nil]
    rw [List.drop_zero, if_pos ⟨trivial, by decide, rfl⟩]
    rw [if_pos ⟨by omega, trivial, by rw [List.length_map]; omega, by omega, by omega⟩, List.drop_zero, List.take_of_length_le (by rw [List.length_map]; omega)]
    simp only [clr]
    rw [hX, hset_low _ _ _ _ (hget_lt e6), List.map_append]
    rfl
theorem wr_app {R : List Nat} {e : Env} {d : Option Tmp} {ty : TypeId} {pos : String} {af : Array Edge} {g : Option (Nat × Bool)} {x y : Operand} {ts : Array TypeId} {v : AV} (hv : evO e x = v) (h : ∀ z b o n, v = .own z b o n → b ∉ R) :
    wrC R ⟨d, .call ⟨.builtin .append, #[x, y], ts⟩, ty, pos, af, g⟩ e = true := by
  simp only [wrC, wrV, hv]
  cases v <;> first | rfl | skip
  rename_i z b o n
  simpa using h z b o n rfl
theorem Two.wr {H : Heap} {x y : AV} {u r : Nat} {F T : List Int} (h : Two H x y u F T) (hr : ∀ b, hget H b = some (F.map AV.i) → b ≠ r) {z b o n : Nat} (hx : x = .own z b o n) : b ≠ r := by
  obtain ⟨h1, h2, h⟩ := h
  rcases h with ⟨h0, rfl, rfl⟩ | ⟨h0, b', c, rfl, rfl, e3, e4, e5, e6, e7⟩
  · cases hx
  · cases hx; exact hr _ e6
theorem Two.ltx {H : Heap} {x y : AV} {u : Nat} {F T : List Int} (h : Two H x y u F T) {z b o n : Nat} (hx : x = .own z b o n) : b < H.length := by
  obtain ⟨h1, h2, h⟩ := h
  rcases h with ⟨h0, rfl, rfl⟩ | ⟨h0, b', c, rfl, rfl, e3, e4, e5, e6, e7⟩
  · cases hx
  · cases hx; exact hget_lt e6
theorem Two.ge1 {H : Heap} {x y : AV} {u : Nat} {F T : List Int} (h : Two H x y u F T) {z b o n : Nat} (hx : x = .own z b o n) : 1 ≤ b := by
  obtain ⟨h1, h2, h⟩ := h
  rcases h with ⟨h0, rfl, rfl⟩ | ⟨h0, b', c, rfl, rfl, e3, e4, e5, e6, e7⟩
  · cases hx
  · cases hx; exact e3
theorem two_app' {H HX X : Heap} {x y : AV} {u d m : Nat} {F T : List Int} {v : Int} (h : Two H x y u F T) (hu : u ≤ 1000) (hX : HX = H ++ X) (hm : HX.length = m) (hd : hget HX d = some [AV.i v]) :
    appendV Try.prog 0 HX 44 x (.own 1 d 0 1) = some (.own 1 m 0 (u + 1), clr x H ++ X ++ [some ((F ++ [v]).map AV.i)]) := by
  subst hm
  exact two_app h hu hX hd
theorem bs44' (lim : Nat) (H : Heap) (m : Nat) (x : Operand) (ev : Operand → AV) (s : Int) (h : ev x = AV.i s) (hm : H.length = m) : effV Try.prog lim (.buildSlice 44 1 #[(0, x)]) ev H = some (.own 1 m 0 1, H ++ [some [AV.i s]]) := by
  subst hm
  exact bs44 lim H x ev s h
theorem rn_new0 {h : Nat} {p : List Nat} : rnB h p h = h + p.idxOf 0 := by
  rw [rnB, if_neg (by omega), show h - h = 0 by omega]
theorem ints_ren (f : Nat → Nat) (l : List Int) : (l.map AV.i).map (ren f 8) = l.map AV.i := by
  rw [List.map_map]; congr 1
theorem three_021 {n0 : Nat} {G : Heap} {live : List Nat} {e0 e1 : Env} {A B C : List Int} (hG : G.length = n0) (hl : ∀ t ∈ live, (ren (rnB n0 [0, 2, 1]) 8 (e1.get t)) = e0.get t) :
    SameUp n0 live [0, 1, 2] e0 (G ++ [some (A.map AV.i)] ++ [some (B.map AV.i)] ++ [some (C.map AV.i)]) e1 (G ++ [some (A.map AV.i), some (C.map AV.i)] ++ [some (B.map AV.i)]) ∧ lowEq n0 (G ++ [some (A.map AV.i)] ++ [some (B.map AV.i)] ++ [some (C.map AV.i)]) (G ++ [some (A.map AV.i), some (C.map AV.i)] ++ [some (B.map AV.i)]) := by
  subst hG
  refine ⟨⟨[0, 2, 1], by simp, by simp, by simp, by decide, by decide, by decide, hl, ?_⟩, fun b hb => ?_⟩
  · intro k hk
    simp only [List.mem_cons, List.not_mem_nil, or_false] at hk
    rcases hk with rfl | rfl | rfl
    · simp [hget]; exact fun _ _ => rfl
    · simp [hget]; exact fun _ _ => rfl
    · simp [hget]; exact fun _ _ => rfl
  · simp only [List.append_assoc]
    rw [hget_low _ _ _ hb, hget_low _ _ _ hb]
theorem three_120 {n0 : Nat} {G : Heap} {live : List Nat} {e0 e1 : Env} {A B C : List Int} (hG : G.length = n0) (hl : ∀ t ∈ live, (ren (rnB n0 [1, 2, 0]) 8 (e1.get t)) = e0.get t) :
    SameUp n0 live [0, 1, 2] e0 (G ++ [some (A.map AV.i)] ++ [some (B.map AV.i)] ++ [some (C.map AV.i)]) e1 (G ++ [some (C.map AV.i), some (A.map AV.i)] ++ [some (B.map AV.i)]) ∧ lowEq n0 (G ++ [some (A.map AV.i)] ++ [some (B.map AV.i)] ++ [some (C.map AV.i)]) (G ++ [some (C.map AV.i), some (A.map AV.i)] ++ [some (B.map AV.i)]) := by
  subst hG
  refine ⟨⟨[1, 2, 0], by simp, by simp, by simp, by decide, by decide, by decide, hl, ?_⟩, fun b hb => ?_⟩
  · intro k hk
    simp only [List.mem_cons, List.not_mem_nil, or_false] at hk
    rcases hk with rfl | rfl | rfl
    · simp [hget]; exact fun _ _ => rfl
    · simp [hget]; exact fun _ _ => rfl
    · simp [hget]; exact fun _ _ => rfl
  · simp only [List.append_assoc]
    rw [hget_low _ _ _ hb, hget_low _ _ _ hb]
theorem Two.ren {H : Heap} {x y : AV} {u : Nat} {F T : List Int} (h : Two H x y u F T) (p : List Nat) : ren (rnB H.length p) 8 y = y := by
  obtain ⟨h1, h2, h⟩ := h
  rcases h with ⟨h0, rfl, rfl⟩ | ⟨h0, b', c, rfl, rfl, e3, e4, e5, e6, e7⟩
  · rfl
  · have := hget_lt e7
    show AV.own 1 (rnB H.length p c) 0 u = _
    rw [rnB, if_pos this]
theorem rn_new {h i : Nat} {p : List Nat} : rnB h p (h + i) = h + p.idxOf i := by
  rw [rnB, if_neg (by omega), show h + i - h = i by omega]
theorem plain_ints (l : List Int) : plainK (l.map AV.i) = true := by
  unfold plainK
  rw [List.all_map]
  simp [Function.comp_def]
theorem keepP_low {l : List Nat} {n b : Nat} {H : Heap} {k : List Int} (hb : b < n) (h : hget H b = some (k.map AV.i)) : hget (keepP l n H) b = some (k.map AV.i) := by
  simp only [keepP, hget, List.getElem?_mapIdx] at h ⊢
  cases hx : H[b]? with
  | none => rw [hx] at h; cases h
  | some x =>
    rw [hx] at h
    simp only [Option.map_some, Option.join_some] at h ⊢
    subst h
    rw [if_pos hb]
    simp only [plain_ints, if_true]
theorem keepP_high {l : List Nat} {n i : Nat} {H : Heap} {k : Blk} (hi : i ∈ l) (h : hget H (n + i) = some k) : hget (keepP l n H) (n + i) = some k := by
  simp only [keepP, hget, List.getElem?_mapIdx] at h ⊢
  cases hx : H[n + i]? with
  | none => rw [hx] at h; cases h
  | some x =>
    rw [hx] at h
    simp only [Option.map_some, Option.join_some] at h ⊢
    rw [if_neg (by omega), if_pos (by rw [show n + i - n = i by omega]; exact hi)]
    exact h
theorem keep3 {G : Heap} {n0 : Nat} (hG : G.length = n0) (A B C : List Int) : ∃ HN, keepP [0, 1, 2] n0 (G ++ [some (A.map AV.i)] ++ [some (B.map AV.i)] ++ [some (C.map AV.i)]) = HN ∧ HN.length = n0 + 3 ∧ hget HN (n0 + 1) = some (B.map AV.i) ∧ hget HN (n0 + 2) = some (C.map AV.i) ∧ ∀ b (k : List Int), hget G b = some (k.map AV.i) → hget HN b = some (k.map AV.i) := by
  subst hG
  refine ⟨_, rfl, by simp [keepP], keepP_high (by decide) (by simp [hget]), keepP_high (by decide) (by simp [hget]), fun b k hb => ?_⟩
  have hl := hget_lt hb
  refine keepP_low hl ?_
  simp only [List.append_assoc]
  rw [hget_low _ _ _ hl]; exact hb
theorem clr_get {H : Heap} {x y : AV} {u b : Nat} {F T : List Int} {k : Blk} (h : Two H x y u F T) (hb : hget H b = some k) (hne : ∀ z o n, x ≠ .own z b o n) : hget (clr x H) b = some k := by
  obtain ⟨h1, h2, h⟩ := h
  rcases h with ⟨h0, rfl, rfl⟩ | ⟨h0, b', c, rfl, rfl, e3, e4, e5, e6, e7⟩
  · exact hb
  · have : b' ≠ b := fun e => hne 1 0 u (by rw [e])
    simp only [clr, hget, hset]
    rw [List.getElem?_set_ne this]; exact hb
/-- Behind both appends. -/
theorem two_next {H HN : Heap} {x y : AV} {u : Nat} {F T : List Int} {f t : Int} (h : Two H x y u F T) (hu : u ≤ 1000) (hl : HN.length = H.length + 3) (hA : hget HN (H.length + 1) = some ((F ++ [f]).map AV.i)) (hC : hget HN (H.length + 2) = some ([t].map AV.i))
    (hold : ∀ b (k : List Int), hget (clr x H) b = some (k.map AV.i) → hget HN b = some (k.map AV.i)) : ∃ b, (b = HN.length ∨ b < H.length ∧ 1 ≤ b) ∧ ∃ H', appendV Try.prog 0 HN 44 y (.own 1 (H.length + 2) 0 1) = some (.own 1 HN.length 0 (u + 1), H') ∧ MGrew HN b H' ((T ++ [t]).map AV.i) := by
  obtain ⟨h1, h2, hh⟩ := id h
  have hO : OutG 1 0 HN y u (T.map AV.i) := by
    rcases hh with ⟨h0, rfl, rfl⟩ | ⟨h0, b', c, rfl, rfl, e3, e4, e5, e6, e7⟩
    · exact .inl ⟨h0, rfl⟩
    · refine .inr ⟨h0, c, rfl, by omega, hold c T (clr_get h e7 fun z o n he => ?_)⟩
      cases he; exact e5 rfl
  obtain ⟨b, g1, g2, H', g3, g4⟩ := app44 (lim := 0) hO (by rw [List.length_map]; omega) hC rfl rfl (Nat.le_refl _) (Nat.zero_le _) (by omega)
  refine ⟨b, ?_, H', g3, by rw [List.map_append]; exact g4⟩
  rcases g2 with g2 | g2
  · exact .inl g2
  · rcases hh with ⟨h0, rfl, rfl⟩ | ⟨h0, b', c, rfl, rfl, e3, e4, e5, e6, e7⟩
    · cases g2
    · cases g2; exact .inr ⟨hget_lt e7, e4⟩
theorem two_done {H HN H' : Heap} {x y : AV} {u b : Nat} {F T : List Int} {f t : Int} (h : Two H x y u F T) (hl : HN.length = H.length + 3) (hA : hget HN (H.length + 1) = some ((F ++ [f]).map AV.i)) (hb : b = HN.length ∨ b < H.length ∧ 1 ≤ b) (hg : MGrew HN b H' ((T ++ [t]).map AV.i)) :
    Two H' (.own 1 (H.length + 1) 0 (u + 1)) (.own 1 HN.length 0 (u + 1)) (u + 1) (F ++ [f]) (T ++ [t]) :=
  ⟨by rw [List.length_append, h.1]; rfl, by rw [List.length_append, h.2.1]; rfl, .inr ⟨by omega, _, _, rfl, rfl, by omega, by omega, by omega, (hg.old _ (by omega) (by omega)).trans hA, hg.new⟩⟩
def fsJ (J : List Jb) : List Int := J.map Jb.f
def tsJ (J : List Jb) : List Int := J.map Jb.t
theorem fs_step {J : List Jb} {u : Nat} (h : u < J.length) : (fsJ J).take (u + 1) = (fsJ J).take u ++ [(gt J u).f] := by
  rw [List.take_add_one, fsJ, List.getElem?_map, List.getElem?_eq_getElem h, ← gt_eq _ _ h]; rfl
theorem ts_step {J : List Jb} {u : Nat} (h : u < J.length) : (tsJ J).take (u + 1) = (tsJ J).take u ++ [(gt J u).t] := by
  rw [List.take_add_one, tsJ, List.getElem?_map, List.getElem?_eq_getElem h, ← gt_eq _ _ h]; rfl
theorem two_0 (H : Heap) (J : List Jb) : Two H nilO nilO 0 ((fsJ J).take 0) ((tsJ J).take 0) := ⟨rfl, rfl, .inl ⟨rfl, rfl, rfl⟩⟩
theorem mem_fs {J : List Jb} {j : Nat} (h : j < J.length) : (gt J j).f ∈ fsJ J := by rw [gt_eq _ _ h]; exact List.mem_map.2 ⟨_, List.getElem_mem h, rfl⟩
theorem mem_ts {J : List Jb} {j : Nat} (h : j < J.length) : (gt J j).t ∈ tsJ J := by rw [gt_eq _ _ h]; exact List.mem_map.2 ⟨_, List.getElem_mem h, rfl⟩
theorem sort_eff {lim b n : Nat} {H : Heap} {Z : List Int} (hb : hget H b = some (Z.map AV.i)) (h1 : 1 ≤ n) (hn : Z.length = n) (h2 : n ≤ 100000) (hl : lim ≤ b) : sortV lim [.own 1 b 0 n] H = some (.tup [], hset H b (some ((srtL Z).map AV.i))) := by
  simp only [sortV, hb, rdI_map]
  rw [if_pos ⟨hl, h1, hn, h2⟩]
theorem compact_eff {lim b n : Nat} {H : Heap} {Z : List Int} (hb : hget H b = some (Z.map AV.i)) (h1 : 1 ≤ n) (hn : Z.length = n) (h2 : n ≤ 100000) (hl : lim ≤ b) : compactV lim [.own 1 b 0 n] H = some (.own 1 b 0 (Lib.compact Z).length, hset H b (some ((cmpL Z).map AV.i))) := by
  simp only [compactV, hb, rdI_map]
  rw [if_pos ⟨hl, h1, hn, h2⟩]
theorem cmp_at {Z : List Int} {i : Nat} (h : i < (Lib.compact Z).length) : ((cmpL Z).map AV.i)[i]? = some (AV.i (gt (Lib.compact Z) i)) := by
  rw [cmpL, List.map_append, List.getElem?_append_left (by rw [List.length_map]; exact h), List.getElem?_map, List.getElem?_eq_getElem h, ← gt_eq _ _ h]; rfl
theorem mem_cmpL {Z : List Int} {x : Int} (h : x ∈ Z) : x ∈ cmpL Z := List.mem_append.2 (.inl (mem_compact h))
theorem mem_gt {Z : List Int} {x : Int} (h : x ∈ Z) : ∃ i, i < Z.length ∧ gt Z i = x := by
  obtain ⟨i, hi, rfl⟩ := List.getElem_of_mem h
  exact ⟨i, hi, gt_eq _ _ hi⟩
theorem frz_int (H : Heap) (l : List Int) : frz H 0 8 (intsAV l) = intsAV l := by
  show AV.sl l.length ((l.map AV.i).map (frz H 0 7)) = _
  rw [frz_ints]
theorem frz_jb (H : Heap) (l : List Jb) : frz H 0 8 (jbsAV l) = jbsAV l := by
  show AV.sl l.length ((flatJ l).map (frz H 0 7)) = _
  rw [frzJ]
theorem frz_row {H : Heap} {base d b n : Nat} {D : List Int} (hb : hget H b = some (D.map AV.i)) (hl : ¬ b < base) (hn : n = D.length) : frz H base (d + 2) (.own 1 b 0 n) = intsAV D := by
  rw [frz_own' hl hb, frz_ints, hn]
theorem bld45 : buildV Try.prog 45 [] = some (.agg [AV.i 0, AV.i 0]) := by kernel_rfl
theorem st1_T {J : List Jb} {D : List Int} {day k : Int} (hk : nx J D day J.length = k) (h : ¬ k < 0) : D.set k.toNat day = st1 J D day := by rw [st1, hk, if_neg h]
theorem st1_F {J : List Jb} {D : List Int} {day k : Int} (hk : nx J D day J.length = k) (h : k < 0) : D = st1 J D day := by rw [st1, hk, if_pos h]
theorem dys_0 {J : List Jb} {cs D : List Int} {first : Int} (hl : D.length = J.length) (h : ∀ k, k < J.length → gt D k = -1) : D = dys J cs first 0 := by
  refine ext_gt (by rw [dys_len]; exact hl) fun k hk => ?_
  rw [h k (by omega), dys, gt_eq _ _ (by simp; omega), List.getElem_replicate]
theorem OutG.keepW {z lo n d : Nat} {H H' : Heap} {o : AV} {fl k : List AV} {m : Nat} (h : OutG z lo H o n fl) (hw : MWrote H d H' k) (hx : ∀ z b n, o = .own z b 0 n → b < m) (hd : m ≤ d) : OutG z lo H' o n fl := by
  rcases h with h | ⟨h0, b, rfl, h2, h3⟩
  · exact .inl h
  · exact .inr ⟨h0, b, rfl, h2, (hw.old b (by have := hx _ _ _ rfl; omega)).trans h3⟩
theorem OutG.rec {z lo n : Nat} {H H1 H2 : Heap} {o : AV} {fl k k2 : List AV} (h : OutG z lo H o n fl) (hn : MNew H H1 k) (hw : MWrote H1 H.length H2 k2) : OutG z lo H2 o n fl := h.mono fun b _ k hk => by
  have hl := hget_lt hk
  exact (hw.old b (by omega)).trans ((hn.old b hl).trans hk)
theorem OutG.own {z lo n : Nat} {H : Heap} {o : AV} {fl : List AV} (h : OutG z lo H o n fl) (h0 : 0 < n) : ∃ b, o = .own z b 0 n ∧ lo ≤ b ∧ hget H b = some fl := by
  rcases h with ⟨h1, _⟩ | ⟨_, h⟩
  · omega
  · exact h
theorem outP_any' {lo u : Nat} {H : Heap} {o : AV} {P : List Pd} (h : OutG 5 lo H o u (flatP P)) (hu : P.length = u) : ∃ x', frz H 0 8 o = x' ∧ AnyP x' P := by
  subst hu
  exact outP_any h
theorem bld39 (a b c d e : Int) : buildV Try.prog 39 [(0, .agg [AV.i a, AV.i b, AV.i c]), (1, AV.i d), (2, AV.i e)] = some (.agg [AV.i a, AV.i b, AV.i c, AV.i d, AV.i e]) := by kernel_rfl
/-- How many matches stand on a ground on a day or later. -/
def ctP (P : List Pd) (g d : Int) : Int := ct (fun j => (gt P j).g = g ∧ d ≤ (gt P j).d) P.length
theorem ctP_box (P : List Pd) (g d : Int) : 0 ≤ ctP P g d ∧ ctP P g d ≤ P.length := ct_nn _ _
theorem tk_dec {P : List Pd} {g d : Int} (h : tkB P g d = true) : ctP P g (d + 1) + 1 ≤ ctP P g d := by
  obtain ⟨i, h1, h2, h3⟩ := of_decide_eq_true h
  exact ct_more_le (k := i) (fun hh => by omega) ⟨h2, by omega⟩ h1 fun j hj hh => ⟨hh.1, by omega⟩
theorem pd_step {P : List Pd} {first : Int} {p : Pd} (h : ∀ i, i < P.length → first ≤ (gt P i).d ∧ (gt P i).d ≤ first + 60 * (i + 1)) (hp : first ≤ p.d ∧ p.d ≤ first + 60 * (P.length + 1)) : ∀ i, i < (P ++ [p]).length → first ≤ (gt (P ++ [p]) i).d ∧ (gt (P ++ [p]) i).d ≤ first + 60 * (i + 1) := fun i hi => by
  rw [List.length_append, List.length_cons, List.length_nil] at hi
  rw [gt_snoc]
  by_cases h1 : i < P.length
  · rw [if_pos h1]; exact h i h1
  · rw [if_neg h1, if_pos (by omega)]
    have : i = P.length := by omega
    subst this
    exact hp
def AnyI (x : AV) (l : List Int) : Prop := x = intsAV l ∨ (x = nilO ∧ l = [])
theorem AnyI.sl {x : AV} {l : List Int} (h : AnyI x l) (h0 : 0 < l.length) : x = intsAV l := by
  rcases h with h | ⟨_, h⟩
  · exact h
  · subst h; simp at h0
theorem AnyI.len {x : AV} {l : List Int} (h : AnyI x l) : lenV (tyOf Try.prog 22) x = some (AV.i (l.length : Nat)) := by
  rcases h with rfl | ⟨rfl, rfl⟩
  · simp only [lenV, ty22, kOf, Option.map_some]
  · simp only [lenV, ty22, kOf, Option.map_some]; rfl
theorem AnyI.st {x : AV} {l : List Int} (h : AnyI x l) : storable x = true := by
  rcases h with rfl | ⟨rfl, rfl⟩ <;> rfl
theorem gr_step {D : List Int} {u : Nat} {x y : Int} (h : ∀ i, i < u → 0 ≤ gt D i ∧ gt D i < 20) (hu : u < D.length) (hy : y = x) (hx : 0 ≤ x ∧ x < 20) : ∀ i, i < u + 1 → 0 ≤ gt (D.set u y) i ∧ gt (D.set u y) i < 20 := fun i hi => by
  subst hy
  rw [gt_set _ _ _ _ hu]
  by_cases e : u = i
  · rw [if_pos e]; exact hx
  · rw [if_neg e]; exact h i (by omega)
theorem gr_step2 {D : List Int} {u : Nat} {x y : Int} (h : ∀ i, i < u → 0 ≤ gt D i ∧ gt D i < 20) (hu : u < D.length) (hx : 0 ≤ x ∧ x < 20) : ∀ i, i < u + 1 → 0 ≤ gt ((D.set u y).set u x) i ∧ gt ((D.set u y).set u x) i < 20 := fun i hi => by
  rw [List.set_set]
  exact gr_step h hu rfl hx i hi
theorem tmod_box (x : Int) : 0 ≤ max 0 (x.tmod 20) ∧ max 0 (x.tmod 20) < 20 := by
  have := Int.tmod_lt_of_pos x (show (0 : Int) < 20 by decide)
  omega
/-- What a day's round comes to. -/
theorem dys_next {J : List Jb} {cs D : List Int} {first k : Int} {v : Nat} (h01 : gt cs v = 0 ∨ gt cs v = 1) (h : k = 0 ∧ D = dys J cs first v ∨ k = 1 ∧ D = st1 J (dys J cs first v) (first + v)) (hk : ¬ k < gt cs v) (hk2 : k = 1 → gt cs v = 1) : D = dys J cs first (v + 1) := by
  rw [dys]
  rcases h with ⟨h1, h2⟩ | ⟨h1, h2⟩
  · rw [if_pos (by omega)]; exact h2
  · rw [if_neg (by rw [hk2 h1]; decide)]; exact h2
theorem dys_brk {J : List Jb} {cs D : List Int} {first k n : Int} {v : Nat} (h01 : gt cs v = 0 ∨ gt cs v = 1) (h : k = 0 ∧ D = dys J cs first v ∨ k = 1 ∧ D = st1 J (dys J cs first v) (first + v)) (hk : k < gt cs v) (hn : nx J D (first + v) J.length = n) (hn0 : n < 0) : D = dys J cs first (v + 1) := by
  rw [dys]
  rcases h with ⟨h1, h2⟩ | ⟨h1, h2⟩
  · rw [if_neg (by omega)]
    subst h2
    exact st1_F hn hn0
  · omega
/-- All windows have been looked at in vain: that cannot be. -/
theorem row_in {J : List Jb} {cs : List Int} {first a : Int} {Z : List Int} (hZ : ∀ t, t ∈ tsJ J → t ∈ Z) (h : ∀ j, j < (Lib.compact Z).length → ¬ viol J cs first a (gt (Lib.compact Z) j)) : ∀ y, y < J.length → ¬ viol J cs first a (gt J y).t := fun y hy hv => by
  obtain ⟨j, hj, e⟩ := mem_gt (mem_compact (hZ _ (mem_ts hy)))
  rw [← e] at hv
  exact h j hj hv
theorem all_in {J : List Jb} {cs : List Int} {first : Int} (h : ∀ i, i < (Lib.compact (srtL (fsJ J))).length → ∀ y, y < J.length → ¬ viol J cs first (gt (Lib.compact (srtL (fsJ J))) i) (gt J y).t) (hv : ∃ x y, x < J.length ∧ y < J.length ∧ viol J cs first (gt J x).f (gt J y).t) : False := by
  obtain ⟨x, y, hx, hy, hv⟩ := hv
  obtain ⟨i, hi, e⟩ := mem_gt (mem_compact (mem_srtL.2 (mem_fs hx)))
  rw [← e] at hv
  exact h i hi y hy hv
end Go.Proofs.Ytkjgmpjnhfmecaa
