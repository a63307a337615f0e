/-
  A copy of a matching, in the machine's memory.
-/
import Derived.Test.YtcnleglfdnhagaaWD
set_option linter.unusedVariables false
set_option linter.unusedSimpArgs false
namespace Go.Proofs.Ytcnleglfdnhagaa
open Go Go.Am
theorem wrC_append {R : List Nat} {d : Option Tmp} {ty : TypeId} {pos : String} {af : Array Edge} {g : Option (Nat × Bool)} {x y : Operand} {t : TypeId} {e : Env} (h : ∀ z b o n, evO e x = .own z b o n → b ∉ R) : wrC R ⟨d, .call ⟨.builtin .append, #[x, y], #[t, t]⟩, ty, pos, af, g⟩ e = true := by
  simp only [wrC, wrV]
  cases hx : evO e x with
  | own z b o n => simpa using h z b o n hx
  | _ => rfl
theorem stay_low {R : List Nat} {H H' : Heap} (h : ∀ c, c < H.length → hget H' c = hget H c) : stay R H H' := fun b _ k hk => (h b (hget_lt hk)).trans hk
theorem bld61b (b c n m : Nat) : buildV Try.prog 61 [(1, .own 1 b 0 n), (2, .own 1 c 0 m)] = some (.agg [nilI, .own 1 b 0 n, .own 1 c 0 m]) := by
  simp only [buildV, ty61, places, ty25, ty59, ty3]
  rfl
attribute [go_sem] bld61b
theorem outR_append3 {lim lo n r : Nat} {H : Heap} {o : AV} {rs : List Nat} {b' : Nat} (h : OutR lo H o rs n) (hc : hget H b' = some [.own 1 r 0 n]) (hl : lim ≤ lo) (hlo : lo ≤ H.length) (hw : rs.length ≤ 100000) :
    ∃ b, lo ≤ b ∧ (b = H.length ∨ hget H b = some (rs.map fun r => AV.own 1 r 0 n) ∧ rs ≠ []) ∧ (b = H.length ∨ o = .own 1 b 0 rs.length) ∧ ∃ H', appendV Try.prog lim H 59 o (.own 1 b' 0 1) = some (.own 1 H.length 0 (rs.length + 1), H') ∧ MGrew H b H' ((rs ++ [r]).map fun r => AV.own 1 r 0 n) := by
  rcases h with ⟨rfl, rfl⟩ | ⟨he, b, rfl, h2, h3⟩
  · refine ⟨H.length, hlo, .inl rfl, .inl rfl, _, ?_, MGrew.ofNew _ (MNew.of _ _)⟩
    simp only [appendV, tk59, ty62, srcCells, hc]
    rw [if_pos (by simp)]
    simp only [List.length_cons, List.length_nil]
    rw [if_pos ⟨trivial, by decide, rfl⟩]
    rw [if_pos ⟨by omega, by omega⟩]
    rfl
  · refine ⟨b, h2, .inr ⟨h3, he⟩, .inr rfl, _, ?_, MGrew.of _ _ _⟩
    simp only [appendV, tk59, ty62, srcCells, hc, h3]
    rw [if_pos (by simp)]
    simp only [List.length_cons, List.length_nil]
    rw [if_pos ⟨trivial, by decide, rfl⟩]
    simp only [List.drop_zero, List.length_map, Nat.mul_one]
    rw [if_pos ⟨by omega, trivial, by omega, by omega, by omega⟩]
    rw [List.take_of_length_le (by simp), List.map_append]
    rfl
/-- A copy as it grows: m rows. -/
structure CpW (H H' : Heap) (may : List (List Bool)) (need used : List Int) (b bn bu : Nat) (m : Nat) (oM : AV) (rs : List Nat) : Prop where
  st : hget H' b = some [oM, .own 1 bn 0 need.length, .own 1 bu 0 used.length]
  hn : hget H' bn = some (need.map AV.i)
  hu : hget H' bu = some (used.map AV.i)
  rM : OutR H.length H' oM rs used.length
  rl : rs.length = m
  rw : ∀ i, i < m → H.length ≤ gt rs i ∧ hget H' (gt rs i) = some ((gt may i).map bv)
  ap : ∀ i, i < m → gt rs i ≠ b ∧ gt rs i ≠ bn ∧ gt rs i ≠ bu
  oa : ∀ z c o n, oM = .own z c o n → c ≠ b ∧ c ≠ bn ∧ c ≠ bu
  dj : ∀ i j, i < m → j < m → i ≠ j → gt rs i ≠ gt rs j
  lb : H.length ≤ b ∧ H.length ≤ bn ∧ H.length ≤ bu
  ne : b ≠ bn ∧ b ≠ bu ∧ bn ≠ bu
  old : ∀ c, c < H.length → hget H' c = hget H c
  len : H.length ≤ H'.length
/-- A row is copied. -/
theorem cp_row {H H2 H3 HB HD HE : Heap} {may : List (List Bool)} {need used : List Int} {b bn bu m r cb : Nat} {oM : AV} {rs : List Nat} (w : CpW H H2 may need used b bn bu m oM rs) (h3 : ∀ c, c < H2.length → hget H3 c = hget H2 c) (l3 : H2.length ≤ H3.length) (hr : H2.length ≤ r) (hrow : hget H3 r = some ((gt may m).map bv))
    (nB : MNew H3 HB [.own 1 r 0 used.length]) (hlo : H.length ≤ cb) (hcb : cb = HB.length ∨ hget HB cb = some (rs.map fun r => AV.own 1 r 0 used.length) ∧ rs ≠ []) (hcb2 : cb ≠ b ∧ cb ≠ bn ∧ cb ≠ bu) (gD : MGrew HB cb HD ((rs ++ [r]).map fun r => AV.own 1 r 0 used.length))
    (wE : MWrote HD b HE [.own 1 HB.length 0 (m + 1), .own 1 bn 0 need.length, .own 1 bu 0 used.length]) : CpW H HE may need used b bn bu (m + 1) (.own 1 HB.length 0 (m + 1)) (rs ++ [r]) := by
  have hlen := w.len
  have hB := nB.len
  have hD := gD.len
  have hE := wE.len
  have hb2 := hget_lt w.st
  have hbn := hget_lt w.hn
  have hbu := hget_lt w.hu
  have hrl := hget_lt hrow
  obtain ⟨b1, b2, b3⟩ := w.lb
  have key : ∀ c, c ≠ b → c < H3.length → c ≠ cb → hget HE c = hget H3 c := fun c h1 h2 h => by
    rw [wE.old c h1, gD.old c h (by omega), nB.old c h2]
  have keyR : ∀ c (x : List Bool), hget H3 c = some (x.map bv) → c ≠ b → hget HE c = some (x.map bv) := fun c x hx h1 => by
    rw [key c h1 (hget_lt hx) ?_]; · exact hx
    rcases hcb with h | ⟨h, he⟩
    · have := hget_lt hx; omega
    · intro e; subst e
      rw [nB.old c (hget_lt hx)] at h
      exact ne_rows h he hx rfl
  refine ⟨wE.new, ?_, ?_, .inr ⟨by simp, HB.length, by rw [List.length_append, w.rl]; rfl, by omega, (wE.old _ (by omega)).trans gD.new⟩, by rw [List.length_append, w.rl]; rfl, fun i hi => ?_, fun i hi => ?_, fun z c o n h => ?_, fun i j hi hj hij => ?_, w.lb, w.ne, fun c hc => ?_, by omega⟩
  · rw [key bn (Ne.symm w.ne.1) (by omega) (Ne.symm hcb2.2.1), h3 bn hbn]; exact w.hn
  · rw [key bu (Ne.symm w.ne.2.1) (by omega) (Ne.symm hcb2.2.2), h3 bu hbu]; exact w.hu
  · rw [gt_app, w.rl]
    by_cases h : i < m
    · rw [if_pos h]
      have hw := w.rw i h
      exact ⟨hw.1, keyR _ _ ((h3 _ (hget_lt hw.2)).trans hw.2) (w.ap i h).1⟩
    · obtain rfl : i = m := by omega
      rw [if_neg h, if_pos rfl]
      exact ⟨by omega, keyR _ _ hrow (by omega)⟩
  · rw [gt_app, w.rl]
    by_cases h : i < m
    · rw [if_pos h]; exact w.ap i h
    · obtain rfl : i = m := by omega
      rw [if_neg h, if_pos rfl]
      exact ⟨by omega, by omega, by omega⟩
  · injection h with _ h2 _ _
    exact ⟨by omega, by omega, by omega⟩
  · rw [gt_app, gt_app, w.rl]
    by_cases h1 : i < m <;> by_cases h2 : j < m
    · rw [if_pos h1, if_pos h2]; exact w.dj i j h1 h2 hij
    · obtain rfl : j = m := by omega
      rw [if_pos h1, if_neg h2, if_pos rfl]
      have := hget_lt (w.rw i h1).2; omega
    · obtain rfl : i = m := by omega
      rw [if_pos h2, if_neg h1, if_pos rfl]
      have := hget_lt (w.rw j h2).2; omega
    · omega
  · rw [key c (by omega) (by omega) (by omega), h3 c (by omega)]; exact w.old c hc
/-- A copy. -/
def CopyOK (H H' : Heap) (r : AV) (may : List (List Bool)) (need used : List Int) : Prop := ∃ b bm bn bu rs, r = .ptr b 0 ∧ Sta H' b bm bn bu rs may used.length need ∧ hget H' bu = some (used.map AV.i) ∧ (∀ c, c < H.length → hget H' c = hget H c) ∧ H.length ≤ H'.length ∧
  (H.length ≤ b ∧ H.length ≤ bm ∧ H.length ≤ bn ∧ H.length ≤ bu ∧ ∀ i, i < may.length → H.length ≤ gt rs i) ∧ (∀ i j, i < may.length → j < may.length → i ≠ j → gt rs i ≠ gt rs j) ∧ ∀ i, i < may.length → gt rs i ≠ b ∧ gt rs i ≠ bm ∧ gt rs i ≠ bn
theorem copy_ok {H H' : Heap} {may : List (List Bool)} {need used : List Int} {b bn bu : Nat} {oM : AV} {rs : List Nat} (w : CpW H H' may need used b bn bu may.length oM rs) (h0 : 0 < may.length) (hl : ∀ i, i < may.length → (gt may i).length = used.length) : CopyOK H H' (.ptr b 0) may need used := by
  have hrl := w.rl
  rcases w.rM with ⟨h, _⟩ | ⟨he, bm, e1, b1, b2⟩
  · rw [h] at hrl; simp at hrl; omega
  have ho := w.oa _ _ _ _ e1
  subst e1
  refine ⟨b, bm, bn, bu, rs, rfl, ⟨by rw [w.st, hrl], b2, hrl, fun i hi => ⟨(w.rw i hi).2, hl i hi⟩, w.hn, Ne.symm w.ne.2.1, Ne.symm ho.2.2, Ne.symm w.ne.2.2, fun i hi => (w.ap i hi).2.2⟩, w.hu, w.old, w.len, ⟨w.lb.1, b1, w.lb.2.1, w.lb.2.2, fun i hi => (w.rw i hi).1⟩, w.dj, fun i hi => ⟨(w.ap i hi).1, ?_, (w.ap i hi).2.1⟩⟩
  exact ne_rows b2 he (w.rw i hi).2
end Go.Proofs.Ytcnleglfdnhagaa
