/-
  A new matching, in the machine's memory.
-/
import Derived.Test.YtcnleglfdnhagaaWC
set_option linter.unusedVariables false
set_option linter.unusedSimpArgs false
namespace Go.Proofs.Ytcnleglfdnhagaa
open Go Go.Am
def OutR (lo : Nat) (H : Heap) (o : AV) (rs : List Nat) (n : Nat) : Prop := (rs = [] ∧ o = nilI) ∨ rs ≠ [] ∧ ∃ b, o = .own 1 b 0 rs.length ∧ lo ≤ b ∧ hget H b = some (rs.map fun r => AV.own 1 r 0 n)
theorem owns_st (rs : List Nat) (n : Nat) : (rs.map fun r => AV.own 1 r 0 n).all storable = true := by
  induction rs with
  | nil => rfl
  | cons x r ih => rw [List.map_cons, List.all_cons, ih]; rfl
theorem outR_append {lim lo n r : Nat} {H : Heap} {o : AV} {rs : List Nat} {b' : Nat} (h : OutR lo H o rs n) (hc : hget H b' = some [.own 1 r 0 n]) (hl : lim ≤ lo) (hlo : lo ≤ H.length) (hw : rs.length ≤ 100000) :
    ∃ b, lo ≤ b ∧ (b = H.length ∨ hget H b = some (rs.map fun r => AV.own 1 r 0 n) ∧ rs ≠ []) ∧ ∃ H', appendV Try.prog lim H 59 o (.own 1 b' 0 1) = some (.own 1 H.length 0 (rs.length + 1), H') ∧ MGrew H b H' ((rs ++ [r]).map fun r => AV.own 1 r 0 n) := by
  rcases h with ⟨rfl, rfl⟩ | ⟨he, b, rfl, h2, h3⟩
  · refine ⟨H.length, hlo, .inl rfl, _, ?_, MGrew.ofNew _ (MNew.of _ _)⟩
    simp only [appendV, tk59, ty62, srcCells, hc]
    rw [if_pos (by simp)]
    simp only [List.length_cons, List.length_nil]
    rw [if_pos ⟨trivial, by decide, rfl⟩]
    rw [if_pos ⟨by omega, by omega⟩]
    rfl
  · refine ⟨b, h2, .inr ⟨h3, he⟩, _, ?_, MGrew.of _ _ _⟩
    simp only [appendV, tk59, ty62, srcCells, hc, h3]
    rw [if_pos (by simp)]
    simp only [List.length_cons, List.length_nil]
    rw [if_pos ⟨trivial, by decide, rfl⟩]
    simp only [List.drop_zero, List.length_map, Nat.mul_one]
    rw [if_pos ⟨by omega, trivial, by omega, by omega, by omega⟩]
    rw [List.take_of_length_le (by simp), List.map_append]
    rfl
theorem bs59 (lim : Nat) (H : Heap) (x : Operand) (ev : Operand → AV) (r n : Nat) (h : ev x = .own 1 r 0 n) :
    effV Try.prog lim (.buildSlice 59 1 #[(0, x)]) ev H = some (.own 1 H.length 0 1, H ++ [some [.own 1 r 0 n]]) := by
  simp only [effV, tk59, ty62]
  rw [if_pos ⟨rfl, by decide, by decide⟩]
  simp only [List.map_cons, List.map_nil, h]
  rfl
theorem ms25 (lim : Nat) (H : Heap) (n : Int) (x y : Operand) (ev : Operand → AV) (h0 : 0 ≤ n) (h1 : n ≤ 1000000) (hx : ev x = AV.i n) (hy : ev y = AV.i n) :
    effV Try.prog lim (.makeSlice 25 x y) ev H = some (.own 1 H.length 0 n.toNat, H ++ [some ((List.replicate n.toNat (0 : Int)).map AV.i)]) := by
  simp only [effV, tk25, ty3, hx, hy]
  rw [if_pos ⟨rfl, by decide, h0, Int.le_refl _, by omega, by omega⟩]
  have : ∀ k : Nat, (List.replicate k ([Value.int .i64 0].map AV.v)).flatten = (List.replicate k (0 : Int)).map AV.i := by
    intro k
    rw [List.map_replicate]
    induction k with
    | zero => rfl
    | succ k ih => rw [List.replicate_succ, List.flatten_cons, ih, List.replicate_succ]; rfl
  rw [this]
theorem outI_append2 {lim lo : Nat} {H : Heap} {o : AV} {w : List Int} {v : Int} {b' : Nat} (h : OutI lo H o w) (hc : hget H b' = some [AV.i v]) (hl : lim ≤ lo) (hlo : lo ≤ H.length) (hw : w.length ≤ 100000) (hn : w = [] → o = nilI) :
    ∃ b, lo ≤ b ∧ (b = H.length ∨ hget H b = some (w.map AV.i) ∧ w ≠ []) ∧ ∃ H', appendV Try.prog lim H 25 o (.own 1 b' 0 1) = some (.own 1 H.length 0 (w.length + 1), H') ∧ MGrew H b H' ((w ++ [v]).map AV.i) := by
  rcases h with ⟨rfl, rfl⟩ | ⟨b, rfl, h2, h3⟩
  · refine ⟨H.length, hlo, .inl rfl, _, ?_, MGrew.ofNew _ (MNew.of _ _)⟩
    simp only [appendV, tk25, ty3, srcCells, hc]
    rw [if_pos (by simp)]
    simp only [List.length_cons, List.length_nil]
    rw [if_pos ⟨trivial, by decide, rfl⟩]
    rw [if_pos ⟨by omega, by omega⟩]
    rfl
  · refine ⟨b, h2, .inr ⟨h3, fun e => by have := hn e; cases this⟩, _, ?_, MGrew.of _ _ _⟩
    simp only [appendV, tk25, ty3, srcCells, hc, h3]
    rw [if_pos (by simp)]
    simp only [List.length_cons, List.length_nil]
    rw [if_pos ⟨trivial, by decide, rfl⟩]
    simp only [List.drop_zero, List.length_map, Nat.mul_one]
    rw [if_pos ⟨by omega, trivial, by omega, by omega, by omega⟩]
    rw [List.take_of_length_le (by simp), List.map_append]
    rfl
theorem ne_rows {H : Heap} {a c n : Nat} {rs : List Nat} {row : List Bool} (h : hget H a = some (rs.map fun r => AV.own 1 r 0 n)) (he : rs ≠ []) (hc : hget H c = some (row.map bv)) : c ≠ a := fun e => by
  subst e
  rw [h] at hc
  cases rs with
  | nil => exact he rfl
  | cons r rs => cases row with
    | nil => simp at hc
    | cons x row => simp at hc
theorem ne_ints {H : Heap} {a c : Nat} {w : List Int} {row : List Bool} (h : hget H a = some (w.map AV.i)) (he : w ≠ []) (hc : hget H c = some (row.map bv)) : c ≠ a := fun e => by
  subst e
  rw [h] at hc
  cases w with
  | nil => exact he rfl
  | cons r rs => cases row with
    | nil => simp at hc
    | cons x row => simp at hc
theorem ne_io {H : Heap} {a c n : Nat} {rs : List Nat} {w : List Int} (h : hget H a = some (rs.map fun r => AV.own 1 r 0 n)) (he : rs ≠ []) (hc : hget H c = some (w.map AV.i)) : c ≠ a := fun e => by
  subst e
  rw [h] at hc
  cases rs with
  | nil => exact he rfl
  | cons r rs => cases w with
    | nil => simp at hc
    | cons x row => simp at hc
/-- A matching as it grows: m rows. -/
structure NmW (H H' : Heap) (n : Nat) (rows : Nat → List Bool) (m k : Nat) (oM oN : AV) (rs : List Nat) : Prop where
  st : hget H' (H.length + 1) = some [oM, oN, .own 1 H.length 0 n]
  hu : hget H' H.length = some ((List.replicate n (0 : Int)).map AV.i)
  rM : OutR (H.length + 2) H' oM rs n
  rN : OutI (H.length + 2) H' oN (List.replicate k 2)
  n0 : k = 0 → oN = nilI
  rl : rs.length = m
  rw : ∀ i, i < m → H.length + 2 ≤ gt rs i ∧ hget H' (gt rs i) = some ((rows i).map bv)
  old : ∀ c, c < H.length → hget H' c = hget H c
  len : H.length + 2 ≤ H'.length
theorem OutR.mono {lo n : Nat} {H H' : Heap} {o : AV} {rs : List Nat} (h : OutR lo H o rs n) (hh : ∀ b, lo ≤ b → b < H.length → hget H' b = hget H b) : OutR lo H' o rs n := by
  rcases h with h | ⟨he, b, h1, h2, h3⟩
  · exact .inl h
  · exact .inr ⟨he, b, h1, h2, (hh b h2 (hget_lt h3)).trans h3⟩
theorem NmW.grow {H H1 H2 : Heap} {n m k : Nat} {rows : Nat → List Bool} {oM oN : AV} {rs : List Nat} (w : NmW H H1 n rows m k oM oN rs) (hk : ∀ c, c < H1.length → hget H2 c = hget H1 c) (hl : H1.length ≤ H2.length) : NmW H H2 n rows m k oM oN rs := by
  have hlen := w.len
  exact ⟨(hk _ (by omega)).trans w.st, (hk _ (by omega)).trans w.hu, w.rM.mono fun b _ hb => hk b hb, w.rN.mono2 fun b _ hb => hk b hb, w.n0, w.rl, fun i hi => ⟨(w.rw i hi).1, (hk _ (hget_lt (w.rw i hi).2)).trans (w.rw i hi).2⟩, fun c hc => (hk c (by omega)).trans (w.old c hc), by omega⟩
theorem gt_app {rs : List Nat} {r i : Nat} : gt (rs ++ [r]) i = if i < rs.length then gt rs i else if i = rs.length then r else 0 := by
  simp only [gt, List.getD_eq_getElem?_getD, List.getElem?_append]
  split
  · rfl
  · by_cases h : i = rs.length
    · simp [h]
    · rw [if_neg h, List.getElem?_eq_none (by simp; omega)]; rfl
/-- A row is laid behind the others. -/
theorem nm_row {H H2 HB HD HE : Heap} {n m : Nat} {rows : Nat → List Bool} {oM oN : AV} {rs : List Nat} {r cb : Nat} {row : List Bool} (w : NmW H H2 n rows m m oM oN rs) (hr : H.length + 2 ≤ r) (hrow : hget H2 r = some (row.map bv)) (hro : rows m = row)
    (nB : MNew H2 HB [.own 1 r 0 n]) (hlo : H.length + 2 ≤ cb) (hcb : cb = HB.length ∨ hget HB cb = some (rs.map fun r => AV.own 1 r 0 n) ∧ rs ≠ []) (gD : MGrew HB cb HD ((rs ++ [r]).map fun r => AV.own 1 r 0 n))
    (wE : MWrote HD (H.length + 1) HE [.own 1 HB.length 0 (m + 1), oN, .own 1 H.length 0 n]) : NmW H HE n rows (m + 1) m (.own 1 HB.length 0 (m + 1)) oN (rs ++ [r]) := by
  have hlen := w.len
  have hB := nB.len
  have hD := gD.len
  have hE := wE.len
  have key : ∀ c, c ≠ H.length + 1 → c < H2.length → (hget H2 c ≠ some (rs.map fun r => AV.own 1 r 0 n) ∨ rs = []) → hget HE c = hget H2 c := fun c h1 h2 h3 => by
    rw [wE.old c h1, gD.old c ?_ (by omega), nB.old c h2]
    rcases hcb with h | ⟨h, he⟩
    · omega
    · intro e
      subst e
      rw [nB.old c h2] at h
      rcases h3 with h3 | h3
      · exact h3 h
      · exact he h3
  have keyR : ∀ c (x : List Bool), hget H2 c = some (x.map bv) → c ≠ H.length + 1 → hget HE c = some (x.map bv) := fun c x hx h1 => by
    rw [key c h1 (hget_lt hx) ?_]; · exact hx
    by_cases he : rs = []
    · exact .inr he
    · exact .inl fun h => ne_rows h he hx rfl
  have keyI : ∀ c (x : List Int), hget H2 c = some (x.map AV.i) → c ≠ H.length + 1 → hget HE c = some (x.map AV.i) := fun c x hx h1 => by
    rw [key c h1 (hget_lt hx) ?_]; · exact hx
    by_cases he : rs = []
    · exact .inr he
    · exact .inl fun h => ne_io h he hx rfl
  refine ⟨wE.new, keyI _ _ w.hu (by omega), .inr ⟨by simp, HB.length, by rw [List.length_append, w.rl]; rfl, by omega, (wE.old _ (by omega)).trans gD.new⟩, ?_, w.n0, by rw [List.length_append, w.rl]; rfl, fun i hi => ?_, fun c hc => ?_, by omega⟩
  · rcases w.rN with h | ⟨b, h1, h2, h3⟩
    · exact .inl h
    · exact .inr ⟨b, h1, h2, keyI _ _ h3 (by omega)⟩
  · rw [gt_app, w.rl]
    by_cases h : i < m
    · rw [if_pos h]; exact ⟨(w.rw i h).1, keyR _ _ (w.rw i h).2 (by have := (w.rw i h).1; omega)⟩
    · obtain rfl : i = m := by omega
      rw [if_neg h, if_pos rfl, hro]
      exact ⟨hr, keyR _ _ hrow (by omega)⟩
  · rw [wE.old c (by omega), gD.old c (by omega) (by omega), nB.old c (by omega)]; exact w.old c hc
/-- A need is laid behind the others. -/
theorem nm_need {H H2 HB HD HE : Heap} {n m : Nat} {rows : Nat → List Bool} {oM oN : AV} {rs : List Nat} {cb : Nat} (w : NmW H H2 n rows (m + 1) m oM oN rs)
    (nB : MNew H2 HB [AV.i 2]) (hlo : H.length + 2 ≤ cb) (hcb : cb = HB.length ∨ hget HB cb = some ((List.replicate m (2 : Int)).map AV.i) ∧ List.replicate m (2 : Int) ≠ []) (gD : MGrew HB cb HD ((List.replicate m (2 : Int) ++ [2]).map AV.i))
    (wE : MWrote HD (H.length + 1) HE [oM, .own 1 HB.length 0 (m + 1), .own 1 H.length 0 n]) : NmW H HE n rows (m + 1) (m + 1) oM (.own 1 HB.length 0 (m + 1)) rs := by
  have hlen := w.len
  have hB := nB.len
  have hD := gD.len
  have hE := wE.len
  have key : ∀ c, c ≠ H.length + 1 → c < H2.length → c ≠ cb → hget HE c = hget H2 c := fun c h1 h2 h3 => by
    rw [wE.old c h1, gD.old c h3 (by omega), nB.old c h2]
  refine ⟨wE.new, (key _ (by omega) (by omega) (by omega)).trans w.hu, ?_, .inr ⟨HB.length, by simp, by omega, ?_⟩, fun h => by omega, w.rl, fun i hi => ⟨(w.rw i hi).1, ?_⟩, fun c hc => (key c (by omega) (by omega) (by omega)).trans (w.old c hc), by omega⟩
  · rcases w.rM with h | ⟨he, b, h1, h2, h3⟩
    · exact .inl h
    · refine .inr ⟨he, b, h1, h2, (key b (by omega) (hget_lt h3) ?_).trans h3⟩
      rcases hcb with h | ⟨h, _⟩
      · have := hget_lt h3; omega
      · intro e; subst e
        rw [nB.old _ (hget_lt h3)] at h
        exact ne_io h3 he h rfl
  · rw [wE.old _ (by omega), gD.new, List.replicate_succ']
  · refine (key _ (by have := (w.rw i hi).1; omega) (hget_lt (w.rw i hi).2) ?_).trans (w.rw i hi).2
    rcases hcb with h | ⟨h, he⟩
    · have := hget_lt (w.rw i hi).2; omega
    · intro e
      rw [← e, nB.old _ (hget_lt (w.rw i hi).2)] at h
      exact ne_ints h he (w.rw i hi).2 rfl
theorem bld61 (b n : Nat) : buildV Try.prog 61 [(2, .own 1 b 0 n)] = some (.agg [nilI, nilI, .own 1 b 0 n]) := by
  simp only [buildV, ty61, places, ty25, ty59, ty3]
  rfl
attribute [go_sem] bld61
/-- A row as it is filled. -/
def rowU (f : Nat → Bool) (n u : Nat) : List Bool := (List.range n).map fun i => if i < u then f i else false
theorem rowU_len (f : Nat → Bool) (n u : Nat) : (rowU f n u).length = n := by simp [rowU]
theorem rowU_0 (f : Nat → Bool) (n : Nat) : rowU f n 0 = List.replicate n false := by
  apply List.ext_getElem
  · simp [rowU]
  · intro i h1 h2; simp [rowU]
theorem rowU_set (f : Nat → Bool) {n u : Nat} (h : u < n) : (rowU f n u).set u (f u) = rowU f n (u + 1) := by
  apply List.ext_getElem
  · simp [rowU]
  · intro i h1 h2
    have hi : i < n := by simpa [rowU] using h2
    rw [List.getElem_set]
    simp only [rowU, List.getElem_map, List.getElem_range]
    by_cases e : u = i
    · subst e; simp
    · rw [if_neg e]
      by_cases h3 : i < u
      · rw [if_pos h3, if_pos (by omega)]
      · rw [if_neg h3, if_neg (by omega)]
theorem rowU_n (us : List Um) (x : Du) : rowU (fun i => mayB x (gt us i)) us.length us.length = us.map (mayB x) := by
  apply List.ext_getElem
  · simp [rowU]
  · intro i h1 h2
    have hi : i < us.length := by simpa using h2
    simp only [rowU, List.getElem_map, List.getElem_range, if_pos hi, gt_eq _ _ hi]
def usU (n u : Nat) : List Int := List.replicate u (-1) ++ List.replicate (n - u) 0
theorem usU_set {n u : Nat} (h : u < n) : (usU n u).set u (-1) = usU n (u + 1) := by
  unfold usU
  rw [List.set_append_right _ _ (by simp), show u - (List.replicate u (-1 : Int)).length = 0 by simp, show n - u = (n - (u + 1)) + 1 by omega, List.replicate_succ, List.set_cons_zero, List.replicate_succ', List.append_assoc]
  rfl
theorem usU_len (n u : Nat) (h : u ≤ n) : (usU n u).length = n := by unfold usU; simp; omega
/-- A new matching. -/
def NewOK (H H' : Heap) (r : AV) (l : List Du) (us : List Um) : Prop := ∃ bm bn rs, r = .ptr (H.length + 1) 0 ∧ Sta H' (H.length + 1) bm bn H.length rs (l.map fun x => us.map (mayB x)) us.length (List.replicate l.length 2) ∧ hget H' H.length = some ((List.replicate us.length (-1 : Int)).map AV.i) ∧ (∀ c, c < H.length → hget H' c = hget H c) ∧ H.length + 2 ≤ H'.length
theorem new_ok {H H4 H5 : Heap} {l : List Du} {us : List Um} {oM oN : AV} {rs : List Nat} (W : NmW H H4 us.length (fun i => us.map (mayB (gt l i))) l.length l.length oM oN rs) (h1 : 0 < l.length) (h2 : hget H5 H.length = some ((usU us.length us.length).map AV.i)) (h3 : ∀ c, c ≠ H.length → hget H5 c = hget H4 c) (h4 : H5.length = H4.length) : NewOK H H5 (.ptr (H.length + 1) 0) l us := by
  have hrl := W.rl
  rcases W.rM with ⟨h, _⟩ | ⟨_, bm, e1, b1, b2⟩
  · rw [h] at hrl; simp at hrl; omega
  rcases W.rN with ⟨h, _⟩ | ⟨bn, e2, c1, c2⟩
  · have := congrArg List.length h
    rw [List.length_replicate, List.length_nil] at this
    omega
  subst e1; subst e2
  have hlen := W.len
  refine ⟨bm, bn, rs, rfl, ⟨?_, (h3 bm (by omega)).trans b2, by rw [List.length_map]; exact hrl, fun i hi => ?_, (h3 bn (by omega)).trans c2, by omega, by omega, by omega, fun i hi => ?_⟩, ?_, fun c hc => (h3 c (by omega)).trans (W.old c hc), by omega⟩
  · rw [h3 (H.length + 1) (by omega), W.st, hrl, List.length_map, List.length_replicate]
  · rw [List.length_map] at hi
    have e : gt (l.map fun x => us.map (mayB x)) i = us.map (mayB (gt l i)) := by
      rw [gt_eq _ _ (by simpa using hi), List.getElem_map, gt_eq _ _ hi]
    have hr := W.rw i hi
    have hr9 := hr.1
    rw [e]
    exact ⟨(h3 _ (by omega)).trans hr.2, by simp⟩
  · rw [List.length_map] at hi
    have := (W.rw i hi).1; omega
  · rw [h2]
    unfold usU
    simp
end Go.Proofs.Ytcnleglfdnhagaa
