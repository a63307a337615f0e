/-
  Texts of TopSplit, part 10 of 15. Interruptions that follow one another at once, made one: nothing more and nothing less is lost. Plain proofs.
-/
import Derived.Test.YtaoondlakhocnaaKTopSplit8
import Derived.Test.YtaoondlakhocnaaKTopSplit5
import Derived.Test.YtaoondlakhocnaaKTopSplit7
section
set_option linter.unusedVariables false
namespace Go.Proofs.Ytaoondlakhocnaa
open Go Go.Am

def jst (o : List Stp) (x : Stp) : List Stp :=
  if 0 < o.length ∧ (gt o (o.length - 1)).a = x.b ∧ (gt o (o.length - 1)).w = x.w then o.set (o.length - 1) ⟨(gt o (o.length - 1)).b, x.a, (gt o (o.length - 1)).w⟩ else o ++ [x]
def jn (l : List Stp) : Nat → List Stp
  | 0 => []
  | u + 1 => jst (jn l u) (gt l u)
theorem gt_snoc (p : List Stp) (s : Stp) : gt (p ++ [s]) p.length = s := by simp [gt, List.getD_eq_getElem?_getD]
theorem jst_len (o : List Stp) (x : Stp) : o.length ≤ (jst o x).length ∧ (jst o x).length ≤ o.length + 1 := by
  unfold jst
  split
  · rw [List.length_set]; omega
  · simp
theorem jn_len (l : List Stp) : ∀ u, (jn l u).length ≤ u
  | 0 => Nat.le_refl _
  | u + 1 => by
    have h1 := jn_len l u
    have h2 := jst_len (jn l u) (gt l u)
    rw [jn]; omega
theorem jst_nil (x : Stp) : jst [] x = [x] := by unfold jst; rw [if_neg (by simp)]; rfl
theorem jst_snoc (p : List Stp) (s x : Stp) : jst (p ++ [s]) x = if s.a = x.b ∧ s.w = x.w then p ++ [⟨s.b, x.a, s.w⟩] else p ++ [s] ++ [x] := by
  have e : (p ++ [s]).length - 1 = p.length := by simp
  unfold jst
  rw [e, gt_snoc]
  by_cases h : s.a = x.b ∧ s.w = x.w
  · rw [if_pos ⟨by simp, h⟩, if_pos h]; simp
  · rw [if_neg (fun hh => h hh.2), if_neg h]
def dsum (l : List Stp) : Nat → Int
  | 0 => 0
  | u + 1 => dsum l u + ((gt l u).b - (gt l u).a)
theorem dsum_app {l : List Stp} {s : Stp} : ∀ n, n ≤ l.length → dsum (l ++ [s]) n = dsum l n
  | 0, _ => rfl
  | n + 1, h => by rw [dsum, dsum, dsum_app n (by omega), gt_app _ _ _ (by omega)]
def stopOK (rows : Tb) (balls : Int) (l : List Stp) (i : Nat) : Prop :=
  (gt l i).b ≤ balls ∧ 0 ≤ (gt l i).a ∧ 0 ≤ (gt l i).w ∧ (gt l i).w ≤ (gt rows 0).length ∧ (gt l i).a ≤ (gt l i).b ∧ (0 < i → (gt l i).b ≤ (gt l (i - 1)).a ∧ (gt l (i - 1)).w ≤ (gt l i).w)
theorem stopOK_app {rows : Tb} {balls : Int} {p : List Stp} {s : Stp} {i : Nat} (hi : i < p.length) : stopOK rows balls (p ++ [s]) i ↔ stopOK rows balls p i := by
  unfold stopOK
  rw [gt_app _ _ _ hi, gt_app _ _ _ (show i - 1 < p.length by omega)]
structure JI (rows : Tb) (per balls : Int) (l : List Stp) (u : Nat) : Prop where
  sh : u = 0 ∧ jn l u = [] ∨ ∃ p s, jn l u = p ++ [s] ∧ 0 < u ∧ s.a = (gt l (u - 1)).a ∧ s.w = (gt l (u - 1)).w
  stop : ∀ i, i < (jn l u).length → stopOK rows balls (jn l u) i
  sum : lsum rows per (jn l u) (jn l u).length = lsum rows per l u
  dif : dsum (jn l u) (jn l u).length = dsum l u
theorem lost_of {rows : Tb} {per balls : Int} {l : List Stp} (c : Chk rows per balls l) {s : Stp} (h : s.b ≤ balls ∧ 0 ≤ s.a ∧ 0 ≤ s.w ∧ s.w ≤ (gt rows 0).length ∧ s.a ≤ s.b) :
    (lostS rows per s).1 = (atS rows per s.b s.w).1 - (atS rows per s.a s.w).1 := by
  have h1 := c.per1
  have h2 := c.per8
  have h3 := c.b1
  have h4 := c.bmax
  rw [lostS, if_neg (fun hh => hh (at_err c.tab (by unfold atBad; omega))), if_neg (fun hh => hh (at_err c.tab (by unfold atBad; omega))), if_neg (by omega)]
theorem join_inv {rows : Tb} {per balls : Int} {l : List Stp} (c : Chk rows per balls l) : ∀ u, u ≤ l.length → JI rows per balls l u
  | 0, _ => ⟨.inl ⟨rfl, rfl⟩, fun i hi => by simp [jn] at hi, rfl, rfl⟩
  | u + 1, h => by
    obtain ⟨sh, st, sm, df⟩ := join_inv c u (by omega)
    have cu := c.stop u (by omega)
    have lu := c.lost0 (i := u) (by omega)
    rcases sh with ⟨hu, e⟩ | ⟨p, s, e, hu, ha, hw⟩
    · subst hu
      have e1 : jn l 1 = [gt l 0] := by rw [jn, e, jst_nil]
      refine ⟨.inr ⟨[], gt l 0, e1, by omega, rfl, rfl⟩, fun i hi => ?_, ?_, ?_⟩
      · rw [e1] at hi ⊢
        have : i = 0 := by simp at hi; omega
        subst this
        exact ⟨cu.1, cu.2.1, cu.2.2.1, cu.2.2.2.1, cu.2.2.2.2.1, fun h0 => by omega⟩
      · rw [e1]; rfl
      · rw [e1]; rfl
    · have cp := c.stop (u - 1) (by omega)
      have cuo := cu.2.2.2.2.2 hu
      rw [e] at st sm df
      have hpl : (p ++ [s]).length = p.length + 1 := by simp
      have ss := st p.length (by omega)
      unfold stopOK at ss
      rw [gt_snoc] at ss
      rw [hpl, lsum, gt_snoc] at sm
      rw [hpl, dsum, gt_snoc] at df
      rw [lsum_app _ (Nat.le_refl _)] at sm
      rw [dsum_app _ (Nat.le_refl _)] at df
      have ls := lost_of c (s := s) ⟨ss.1, ss.2.1, ss.2.2.1, ss.2.2.2.1, ss.2.2.2.2.1⟩
      by_cases hj : s.a = (gt l u).b ∧ s.w = (gt l u).w
      · have e1 : jn l (u + 1) = p ++ [⟨s.b, (gt l u).a, s.w⟩] := by rw [jn, e, jst_snoc, if_pos hj]
        have hpl2 : (p ++ [(⟨s.b, (gt l u).a, s.w⟩ : Stp)]).length = p.length + 1 := by simp
        have ln := lost_of c (s := ⟨s.b, (gt l u).a, s.w⟩) ⟨ss.1, cu.2.1, ss.2.2.1, ss.2.2.2.1, by show (gt l u).a ≤ s.b; omega⟩
        refine ⟨.inr ⟨p, _, e1, by omega, rfl, hj.2⟩, fun i hi => ?_, ?_, ?_⟩
        · rw [e1, hpl2] at hi
          rw [e1]
          by_cases hi2 : i < p.length
          · exact (stopOK_app hi2).2 ((stopOK_app hi2).1 (st i (by omega)))
          · have : i = p.length := by omega
            subst this
            unfold stopOK
            rw [gt_snoc]
            refine ⟨ss.1, cu.2.1, ss.2.2.1, ss.2.2.2.1, by show (gt l u).a ≤ s.b; omega, fun h0 => ?_⟩
            have := ss.2.2.2.2.2 h0
            rw [gt_app _ _ _ (by omega)] at this ⊢
            exact this
        · rw [e1, hpl2, lsum, gt_snoc, lsum_app _ (Nat.le_refl _), lsum, lu, ln]
          simp only []
          rw [← hj.1, ← hj.2]
          omega
        · rw [e1, hpl2, dsum, gt_snoc, dsum_app _ (Nat.le_refl _), dsum]
          simp only []
          omega
      · have e1 : jn l (u + 1) = p ++ [s] ++ [gt l u] := by rw [jn, e, jst_snoc, if_neg hj]
        have hpl2 : (p ++ [s] ++ [gt l u]).length = p.length + 1 + 1 := by simp
        refine ⟨.inr ⟨p ++ [s], _, e1, by omega, rfl, rfl⟩, fun i hi => ?_, ?_, ?_⟩
        · rw [e1, hpl2] at hi
          rw [e1]
          by_cases hi2 : i < (p ++ [s]).length
          · exact (stopOK_app hi2).2 (st i hi2)
          · have : i = (p ++ [s]).length := by omega
            subst this
            unfold stopOK
            rw [gt_snoc]
            refine ⟨cu.1, cu.2.1, cu.2.2.1, cu.2.2.2.1, cu.2.2.2.2.1, fun h0 => ?_⟩
            rw [gt_app _ _ _ (by omega), show (p ++ [s]).length - 1 = p.length by omega, gt_snoc]
            omega
        · rw [e1, hpl2, lsum, ← hpl, gt_snoc, lsum_app _ (Nat.le_refl _), hpl, lsum, gt_snoc, lsum_app _ (Nat.le_refl _), lsum]
          omega
        · rw [e1, hpl2, dsum, ← hpl, gt_snoc, dsum_app _ (Nat.le_refl _), hpl, dsum, gt_snoc, dsum_app _ (Nat.le_refl _), dsum]
          omega
theorem join_chk {rows : Tb} {per balls : Int} {l : List Stp} (c : Chk rows per balls l) : Chk rows per balls (jn l l.length) := by
  have J := join_inv c l.length (Nat.le_refl _)
  have := jn_len l l.length
  have := c.most
  exact ⟨c.tab, c.per1, c.per8, c.b1, c.bmax, by omega, fun i hi => J.stop i hi⟩
def bOut (n : Int) : Prop := n < 0 ∨ 2147483648 < n
instance (n : Int) : Decidable (bOut n) := by unfold bOut; infer_instance
open Classical in
noncomputable def ballsS (balls : Int) (l : List Stp) : Int :=
  if bOut balls ∨ 20 < l.length then 0 else if ∃ i, i < l.length ∧ (bOut (gt l i).b ∨ bOut (gt l i).a) then 0 else max (balls - dsum l l.length) 0
theorem balls_a {balls : Int} {l : List Stp} (h : bOut balls ∨ 20 < l.length) : ballsS balls l = 0 := by rw [ballsS, if_pos h]
theorem balls_b {balls : Int} {l : List Stp} {i : Nat} (hi : i < l.length) (h : bOut (gt l i).b ∨ bOut (gt l i).a) : ballsS balls l = 0 := by
  unfold ballsS
  split
  · rfl
  · rw [if_pos ⟨i, hi, h⟩]
theorem balls_c {balls : Int} {l : List Stp} (h : ¬ (bOut balls ∨ 20 < l.length)) (h2 : ∀ i, i < l.length → ¬ (bOut (gt l i).b ∨ bOut (gt l i).a)) : ballsS balls l = max (balls - dsum l l.length) 0 := by
  rw [ballsS, if_neg h, if_neg (fun ⟨i, hi, hh⟩ => h2 i hi hh)]
theorem dsum_rng {l : List Stp} : ∀ u, (∀ i, i < u → ¬ (bOut (gt l i).b ∨ bOut (gt l i).a)) → -(2147483648 * (u : Int)) ≤ dsum l u ∧ dsum l u ≤ 2147483648 * u
  | 0, _ => by rw [dsum]; omega
  | u + 1, h => by
    have ih := dsum_rng u fun i hi => h i (by omega)
    have := h u (by omega)
    unfold bOut at this
    rw [dsum]; omega
theorem join_balls {rows : Tb} {per balls : Int} {l : List Stp} (c : Chk rows per balls l) (hr : rows.length ≤ 1000) : ballsS balls (jn l l.length) = ballsS balls l := by
  have J := join_inv c l.length (Nat.le_refl _)
  have c2 := join_chk c
  have h1 := c.per1
  have h2 := c.per8
  have h3 := c.b1
  have h4 := c.bmax
  have h5 : ((rows.length : Int) - 1) * per ≤ 1000 * 8 := by
    by_cases h0 : 0 ≤ (rows.length : Int) - 1
    · exact Int.mul_le_mul (by omega) h2 (by omega) (by omega)
    · have : ((rows.length : Int) - 1) * per ≤ 0 := Int.mul_nonpos_of_nonpos_of_nonneg (by omega) (by omega)
      omega
  have key : ∀ m, Chk rows per balls m → ballsS balls m = max (balls - dsum m m.length) 0 := fun m cm => by
    refine balls_c (by have := cm.most; unfold bOut; omega) fun i hi => ?_
    have := cm.stop i hi
    unfold bOut; omega
  rw [key _ c2, key _ c, J.dif]
theorem left_of {rows : Tb} {per balls : Int} {l : List Stp} (c : Chk rows per balls l) : leftS rows per balls l = ((atS rows per balls 0).1 - lsum rows per l l.length, 0) := by
  have h := of_chk c
  rw [leftS, if_neg (fun hh => hh h)]
theorem join_left {rows : Tb} {per balls : Int} {l : List Stp} (c : Chk rows per balls l) : leftS rows per balls (jn l l.length) = leftS rows per balls l := by
  rw [left_of (join_chk c), left_of c, (join_inv c l.length (Nat.le_refl _)).sum]
/-- Interruptions as they are gathered: none yet, or a block. -/
def OutS (lo : Nat) (H : Heap) (o : AV) (w : List Stp) : Prop := (w = [] ∧ o = .v (.slice none 0 0)) ∨ (w ≠ [] ∧ ∃ b, o = .own 3 b 0 w.length ∧ lo ≤ b ∧ hget H b = some (flatS w))
theorem OutS.mono {lo : Nat} {H H' : Heap} {o : AV} {w : List Stp} (h : OutS lo H o w) (hh : ∀ b, lo ≤ b → ∀ k, hget H b = some k → hget H' b = some k) : OutS lo H' o w := by
  rcases h with h | ⟨h0, b, h1, h2, h3⟩
  · exact .inl h
  · exact .inr ⟨h0, b, h1, h2, hh b h2 _ h3⟩
theorem OutS.lt {lo b : Nat} {H : Heap} {o : AV} {w : List Stp} (h : OutS lo H o w) (ho : o = .own 3 b 0 w.length) : b < H.length := by
  rcases h with ⟨_, h⟩ | ⟨_, b', h1, _, h3⟩
  · rw [h] at ho; cases ho
  · rw [h1] at ho; cases ho; exact hget_lt h3
theorem OutS.len {lo : Nat} {H : Heap} {o : AV} {w : List Stp} (h : OutS lo H o w) : lenV (tyOf Try.prog 25) o = some (AV.i (w.length : Nat)) := by
  rcases h with ⟨rfl, rfl⟩ | ⟨h0, b, rfl, _⟩
  · simp only [lenV, ty25, kOf, Option.map_some]; rfl
  · simp only [lenV, ty25, kOf, Option.map_some]
theorem outS_append {lim lo hi : Nat} {H : Heap} {o : AV} {w : List Stp} {s : Stp} {b' : Nat} (h : OutS lo H o w) (hob : ∀ b, o = .own 3 b 0 w.length → b < hi) (hc : hget H b' = some (stC s)) (hl : lim ≤ lo) (hlo : lo ≤ H.length) (hw : w.length ≤ 100000) :
    ∃ b, lo ≤ b ∧ (b < hi ∨ b = H.length) ∧ ∃ H', appendV Try.prog lim H 25 o (.own 3 b' 0 1) = some (.own 3 H.length 0 (w.length + 1), H') ∧ MGrew H b H' (flatS (w ++ [s])) := by
  rcases h with ⟨rfl, rfl⟩ | ⟨h0, b, rfl, h2, h3⟩
  · refine ⟨H.length, hlo, .inr rfl, _, ?_, MGrew.ofNew _ (MNew.of _ _)⟩
    simp only [appendV, tk25, ty56, srcCells, hc]
    rw [if_pos (by simp)]
    simp only [List.length_cons, List.length_nil]
    rw [if_pos ⟨trivial, by decide, rfl⟩]
    rw [if_pos ⟨by omega, by omega⟩]
    rfl
  · refine ⟨b, h2, .inl (hob b rfl), _, ?_, MGrew.of _ _ _⟩
    have := app25s (lim := lim) h3 hc (by omega) (by omega)
    exact this
end Go.Proofs.Ytaoondlakhocnaa
end
section
set_option linter.unusedVariables false
namespace Go.Proofs.Ytaoondlakhocnaa
open Go Go.Am
theorem flatS_set1 : ∀ (l : List Stp) (u : Nat) (x : Int), u < l.length → setL (flatS l) (u * 3 + 1) [AV.i x] = flatS (l.set u ⟨(gt l u).b, x, (gt l u).w⟩)
  | [], u, x, h => by simp at h
  | s :: l, 0, x, _ => rfl
  | s :: l, u + 1, x, h => by
    have ih := flatS_set1 l u x (by simpa using h)
    have e : flatS (s :: l) = AV.i s.b :: AV.i s.a :: AV.i s.w :: flatS l := rfl
    have e2 : flatS ((s :: l).set (u + 1) ⟨(gt (s :: l) (u + 1)).b, x, (gt (s :: l) (u + 1)).w⟩) = AV.i s.b :: AV.i s.a :: AV.i s.w :: flatS (l.set u ⟨(gt l u).b, x, (gt l u).w⟩) := rfl
    rw [e, e2, ← ih, show (u + 1) * 3 + 1 = u * 3 + 1 + 1 + 1 + 1 by omega]
    rfl
abbrev nilS : AV := .v (.slice none 0 0)
theorem join_hit {lo b : Nat} {H' : Heap} {l : List Stp} {u : Nat} (h0 : jn l u ≠ []) (h : (gt (jn l u) ((jn l u).length - 1)).a = (gt l u).b) (hw : (gt (jn l u) ((jn l u).length - 1)).w = (gt l u).w) (hb : lo ≤ b)
    (q : hget H' b = some (flatS ((jn l u).set ((jn l u).length - 1) ⟨(gt (jn l u) ((jn l u).length - 1)).b, (gt l u).a, (gt (jn l u) ((jn l u).length - 1)).w⟩))) : OutS lo H' (.own 3 b 0 (jn l u).length) (jn l (u + 1)) := by
  have hp : 0 < (jn l u).length := Nat.pos_of_ne_zero fun hh => h0 (List.length_eq_zero_iff.1 hh)
  rw [jn, jst, if_pos ⟨hp, h, hw⟩]
  exact .inr ⟨fun hh => by have := congrArg List.length hh; simp at this; exact h0 this, b, by rw [List.length_set], hb, q⟩
theorem join_miss {lo b : Nat} {H H' : Heap} {l : List Stp} {u m : Nat} (g : MGrew H b H' (flatS (jn l u ++ [gt l u]))) (hlo : lo ≤ H.length) (hm : m = (jn l u).length + 1) (h : ¬ (0 < (jn l u).length ∧ (gt (jn l u) ((jn l u).length - 1)).a = (gt l u).b ∧ (gt (jn l u) ((jn l u).length - 1)).w = (gt l u).w)) : OutS lo H' (.own 3 H.length 0 m) (jn l (u + 1)) := by
  subst hm
  rw [jn, jst, if_neg h]
  exact .inr ⟨by simp, H.length, by simp, hlo, g.new⟩
def outT (w : List Stp) : AV := if w = [] then nilS else stopsAV w
theorem frz_flatS (H : Heap) (b d : Nat) (l : List Stp) : (flatS l).map (frz H b (d + 1)) = flatS l := by
  unfold flatS
  rw [List.map_flatten, List.map_map]
  congr 1
theorem frz_own3' {H : Heap} {base d z b o n : Nat} {k : Blk} (hb : ¬ b < base) (hk : hget H b = some k) : frz H base (d + 1) (.own z b o n) = .sl n ((k.drop o).map (frz H base d)) := by
  simp [frz, hb, hk]
theorem OutS.frz {H : Heap} {base d : Nat} {o : AV} {w : List Stp} (h : OutS base H o w) : Go.Am.frz H base (d + 2) o = outT w := by
  unfold outT
  rcases h with ⟨rfl, rfl⟩ | ⟨h0, b, rfl, h2, h3⟩
  · rfl
  · rw [frz_own3' (by omega) h3, List.drop_zero, frz_flatS, if_neg h0]
theorem jn_ne {l : List Stp} (h : l ≠ []) : jn l l.length ≠ [] := by
  cases l with
  | nil => exact absurd rfl h
  | cons s l =>
    intro hh
    have e : jn (s :: l) (l.length + 1) = jst (jn (s :: l) l.length) (gt (s :: l) l.length) := rfl
    rw [show (s :: l).length = l.length + 1 from rfl, e] at hh
    have := congrArg List.length hh
    unfold jst at this
    split at this
    · rename_i h1; rw [List.length_set] at this; simp at this; rw [this] at h1; simp at h1
    · simp at this
theorem same_H {H : Heap} {live : List Nat} {e0 e1 : Env} (hl : ∀ t ∈ live, ren (rnB H.length []) 8 (e1.get t) = e0.get t) : SameUp H.length live [] e0 H e1 H :=
  ⟨[], Nat.le_refl _, rfl, by simp, by simp, by simp, by simp, hl, by simp⟩
theorem outT_ne {w : List Stp} (h : w ≠ []) : outT w = stopsAV w := by rw [outT, if_neg h]
theorem bld_bOut (x : Int) : (decide (x < 0) || decide (2147483648 < x)) = decide (bOut x) := by
  unfold bOut
  by_cases h1 : x < 0 <;> by_cases h2 : 2147483648 < x <;> simp [h1, h2]
theorem all_step2 {p : Nat → Prop} {u : Nat} (h : ∀ i, i < u → p i) (hu : p u) : ∀ i, i < u + 1 → p i := fun i hi => by
  by_cases hiu : i = u
  · subst hiu; exact hu
  · exact h i (by omega)
theorem ne56 (s : Stp) : binV Try.prog .neq 56 (.agg (stC s)) (.agg (stC s)) = some (.v (.bool false)) := by
  have h2 : ∀ a : Int, scalEq (tyOf Try.prog 2) (AV.i a) (AV.i a) = some true := fun a => by simp only [scalEq, ty2, kOf, Option.map_some, if_true, beq_self_eq_true]
  have h3 : ∀ a : Int, scalEq (tyOf Try.prog 3) (AV.i a) (AV.i a) = some true := fun a => by simp only [scalEq, ty3, kOf, Option.map_some, if_true, beq_self_eq_true]
  have e : eqOk Try.prog 56 = true := eqOk56
  have q : aggEq Try.prog 56 (stC s) (stC s) = some true := by
    simp only [aggEq, e, tk56]
    simp [fieldsEq, h2, h3]
  simp only [binV, q]
  rfl
attribute [go_sem] ne56
end Go.Proofs.Ytaoondlakhocnaa
end
section
set_option linter.unusedVariables false
set_option linter.unusedSimpArgs false
namespace Go.Proofs.Ytaoondlakhocnaa
open Go Go.Am
def spl (l : List Stp) (i : Nat) (t : Int) : List Stp := l.take i ++ [⟨(gt l i).b, t, (gt l i).w⟩, ⟨t, (gt l i).a, (gt l i).w⟩] ++ l.drop (i + 1)
def splE (l : List Stp) (i t : Int) : Int :=
  if i < 0 ∨ (l.length : Int) ≤ i then 2 else if (gt l i.toNat).b ≤ t ∨ t ≤ (gt l i.toNat).a then 1 else if 20 ≤ l.length then 9 else 0
def splA (l : List Stp) (i t : Int) : AV := if splE l i t ≠ 0 then nilS else stopsAV (spl l i.toNat t)
theorem split_of {l : List Stp} {i t : Int} (h : splE l i t = 0) : 0 ≤ i ∧ i.toNat < l.length ∧ (gt l i.toNat).a < t ∧ t < (gt l i.toNat).b ∧ l.length < 20 := by
  unfold splE at h
  split at h
  · cases h
  split at h
  · cases h
  split at h
  · cases h
  omega
theorem splE_0 {l : List Stp} {i t : Int} (h1 : ¬ (i < 0 ∨ (l.length : Int) ≤ i)) (h2 : ¬ ((gt l i.toNat).b ≤ t ∨ t ≤ (gt l i.toNat).a)) (h3 : ¬ 20 ≤ l.length) : splE l i t = 0 := by
  rw [splE, if_neg h1, if_neg h2, if_neg h3]
theorem splA_0 {l : List Stp} {i t : Int} (h : splE l i t = 0) : splA l i t = stopsAV (spl l i.toNat t) := by rw [splA, if_neg (fun hh => hh h)]
theorem splA_n {l : List Stp} {i t : Int} (h : ¬ splE l i t = 0) : splA l i t = nilS := by rw [splA, if_pos h]
theorem spl_len {l : List Stp} {i : Nat} (t : Int) (hi : i < l.length) : (spl l i t).length = l.length + 1 := by
  simp [spl]; omega
theorem gt_spl {l : List Stp} {i : Nat} (t : Int) (hi : i < l.length) (k : Nat) :
    gt (spl l i t) k = if k < i then gt l k else if k = i then ⟨(gt l i).b, t, (gt l i).w⟩ else if k = i + 1 then ⟨t, (gt l i).a, (gt l i).w⟩ else gt l (k - 1) := by
  have e : (l.take i).length = i := by rw [List.length_take]; omega
  simp only [gt, List.getD_eq_getElem?_getD, spl, List.append_assoc, List.getElem?_append, e, List.length_cons, List.length_nil]
  by_cases h1 : k < i
  · rw [if_pos h1, if_pos h1, List.getElem?_take, if_pos h1]
  · rw [if_neg h1, if_neg h1]
    by_cases h2 : k = i
    · subst h2; simp
    · rw [if_neg h2]
      by_cases h3 : k = i + 1
      · subst h3; simp
      · rw [if_neg h3, if_neg (by omega), List.getElem?_drop, show i + 1 + (k - i - (0 + 1 + 1)) = k - 1 by omega]
theorem dsum_spl {l : List Stp} {i : Nat} (t : Int) (hi : i < l.length) : ∀ k, (k ≤ i → dsum (spl l i t) k = dsum l k) ∧ (i + 1 ≤ k → dsum (spl l i t) (k + 1) = dsum l k) := by
  have h1 : ∀ k, k ≤ i → dsum (spl l i t) k = dsum l k := fun k => by
    induction k with
    | zero => intro _; rfl
    | succ k ih => intro h; rw [dsum, dsum, ih (by omega), gt_spl t hi, if_pos (by omega)]
  have h2 : ∀ k, i + 1 ≤ k → dsum (spl l i t) (k + 1) = dsum l k := fun k => by
    induction k with
    | zero => intro h; omega
    | succ k ih =>
      intro h
      by_cases hk : k = i
      · subst hk
        rw [dsum, dsum, h1 k (Nat.le_refl _), gt_spl t hi, if_neg (by omega), if_pos rfl, gt_spl t hi, if_neg (by omega), if_neg (by omega), if_pos rfl, dsum]
        simp only []
        omega
      · rw [dsum, ih (by omega), gt_spl t hi, if_neg (by omega), if_neg (by omega), if_neg (by omega), dsum, show k + 1 - 1 = k from rfl]
  exact fun k => ⟨h1 k, h2 k⟩
theorem spl_balls {balls : Int} {l : List Stp} {i t : Int} (h : splE l i t = 0) : ballsS balls (spl l i.toNat t) = ballsS balls l := by
  obtain ⟨h0, h1, h2, h3, h4⟩ := split_of h
  have hl := spl_len t h1
  by_cases hb : bOut balls
  · rw [balls_a (.inl hb), balls_a (.inl hb)]
  · by_cases hx : ∃ k, k < l.length ∧ (bOut (gt l k).b ∨ bOut (gt l k).a)
    · obtain ⟨k, hk, ho⟩ := hx
      rw [balls_b hk ho]
      by_cases hki : k = i.toNat
      · subst hki
        rcases ho with ho | ho
        · exact balls_b (i := i.toNat) (by omega) (.inl (by rw [gt_spl t h1, if_neg (by omega), if_pos rfl]; exact ho))
        · exact balls_b (i := i.toNat + 1) (by omega) (.inr (by rw [gt_spl t h1, if_neg (by omega), if_neg (by omega), if_pos rfl]; exact ho))
      · by_cases hlt : k < i.toNat
        · exact balls_b (i := k) (by omega) (by rw [gt_spl t h1, if_pos hlt]; exact ho)
        · exact balls_b (i := k + 1) (by omega) (by rw [gt_spl t h1, if_neg (by omega), if_neg (by omega), if_neg (by omega), Nat.add_sub_cancel]; exact ho)
    · have hn : ∀ k, k < l.length → ¬ (bOut (gt l k).b ∨ bOut (gt l k).a) := fun k hk ho => hx ⟨k, hk, ho⟩
      have hi := hn i.toNat h1
      rw [balls_c (by rw [hl]; rintro (hh | hh); exact hb hh; omega) (fun k hk => ?_), balls_c (by rintro (hh | hh); exact hb hh; omega) hn, hl, (dsum_spl t h1 l.length).2 (by omega)]
      rw [hl] at hk
      rw [gt_spl t h1]
      split
      · exact hn k (by omega)
      split
      · simp only [bOut] at hi ⊢; omega
      split
      · simp only [bOut] at hi ⊢; omega
      · exact hn (k - 1) (by omega)
theorem spl_stop {rows : Tb} {per balls : Int} {l : List Stp} {i : Nat} {t : Int} (c : Chk rows per balls l) (hi : i < l.length) (h2 : (gt l i).a < t) (h3 : t < (gt l i).b) : ∀ k, k < (spl l i t).length → stopOK rows balls (spl l i t) k := by
  intro k hk
  rw [spl_len t hi] at hk
  have ci := c.stop i hi
  unfold stopOK
  rw [gt_spl t hi, gt_spl t hi]
  by_cases h1 : k < i
  · have ck := c.stop k (by omega)
    rw [if_pos h1, if_pos (by omega)]
    exact ck
  · rw [if_neg h1]
    by_cases hk2 : k = i
    · subst hk2
      rw [if_pos rfl]
      refine ⟨ci.1, by show 0 ≤ t; omega, ci.2.2.1, ci.2.2.2.1, by show t ≤ (gt l k).b; omega, fun h0 => ?_⟩
      rw [if_pos (by omega)]
      exact ci.2.2.2.2.2 h0
    · rw [if_neg hk2]
      by_cases hk3 : k = i + 1
      · subst hk3
        rw [if_pos rfl]
        refine ⟨by show t ≤ balls; omega, ci.2.1, ci.2.2.1, ci.2.2.2.1, by show (gt l i).a ≤ t; omega, fun h0 => ?_⟩
        rw [if_neg (by omega), if_pos (by omega)]
        exact ⟨Int.le_refl _, Int.le_refl _⟩
      · have ck := c.stop (k - 1) (by omega)
        rw [if_neg hk3]
        refine ⟨ck.1, ck.2.1, ck.2.2.1, ck.2.2.2.1, ck.2.2.2.2.1, fun h0 => ?_⟩
        have h5 := ck.2.2.2.2.2 (by omega)
        rw [if_neg (by omega), if_neg (by omega)]
        by_cases hk4 : k - 1 = i + 1
        · rw [if_pos hk4]
          rw [hk4, Nat.add_sub_cancel] at h5
          rw [hk4]
          exact h5
        · rw [if_neg hk4]
          exact h5
theorem spl_chk {rows : Tb} {per balls : Int} {l : List Stp} {i t : Int} (c : Chk rows per balls l) (h : splE l i t = 0) : Chk rows per balls (spl l i.toNat t) := by
  obtain ⟨h0, h1, h2, h3, h4⟩ := split_of h
  exact ⟨c.tab, c.per1, c.per8, c.b1, c.bmax, by rw [spl_len t h1]; omega, fun k hk => spl_stop c h1 h2 h3 k hk⟩
theorem lsum_spl {rows : Tb} {per balls : Int} {l : List Stp} {i : Nat} {t : Int} (c : Chk rows per balls l) (hi : i < l.length) (h2 : (gt l i).a < t) (h3 : t < (gt l i).b) : lsum rows per (spl l i t) (l.length + 1) = lsum rows per l l.length := by
  have ci := c.stop i hi
  have h1 : ∀ k, k ≤ i → lsum rows per (spl l i t) k = lsum rows per l k := fun k => by
    induction k with
    | zero => intro _; rfl
    | succ k ih => intro h; rw [lsum, lsum, ih (by omega), gt_spl t hi, if_pos (by omega)]
  have h4 : ∀ k, i + 1 ≤ k → lsum rows per (spl l i t) (k + 1) = lsum rows per l k := fun k => by
    induction k with
    | zero => intro h; omega
    | succ k ih =>
      intro h
      by_cases hk : k = i
      · subst hk
        rw [lsum, lsum, h1 k (Nat.le_refl _), gt_spl t hi, if_neg (by omega), if_pos rfl, gt_spl t hi, if_neg (by omega), if_neg (by omega), if_pos rfl, lsum]
        rw [lost_of c (s := ⟨t, (gt l k).a, (gt l k).w⟩) ⟨by show t ≤ balls; omega, ci.2.1, ci.2.2.1, ci.2.2.2.1, by show (gt l k).a ≤ t; omega⟩,
          lost_of c (s := ⟨(gt l k).b, t, (gt l k).w⟩) ⟨ci.1, by show 0 ≤ t; omega, ci.2.2.1, ci.2.2.2.1, by show t ≤ (gt l k).b; omega⟩,
          lost_of c (s := gt l k) ⟨ci.1, ci.2.1, ci.2.2.1, ci.2.2.2.1, ci.2.2.2.2.1⟩]
        simp only []
        omega
      · rw [lsum, ih (by omega), gt_spl t hi, if_neg (by omega), if_neg (by omega), if_neg (by omega), lsum, show k + 1 - 1 = k from rfl]
  exact h4 l.length (by omega)
theorem spl_left {rows : Tb} {per balls : Int} {l : List Stp} {i t : Int} (c : Chk rows per balls l) (h : splE l i t = 0) : leftS rows per balls (spl l i.toNat t) = leftS rows per balls l := by
  obtain ⟨h0, h1, h2, h3, h4⟩ := split_of h
  rw [left_of (spl_chk c h), left_of c, spl_len t h1, lsum_spl c h1 h2 h3]
/-! Memory -/
theorem flatS_cat (l m : List Stp) : flatS (l ++ m) = flatS l ++ flatS m := by
  unfold flatS; rw [List.map_append, List.flatten_append]
theorem flatS_take : ∀ (l : List Stp) (i : Nat), (flatS l).take (i * 3) = flatS (l.take i)
  | [], i => by simp [flatS]
  | s :: l, 0 => by simp [flatS]
  | s :: l, i + 1 => by
    have e : flatS (s :: l) = AV.i s.b :: AV.i s.a :: AV.i s.w :: flatS l := rfl
    rw [e, show (i + 1) * 3 = i * 3 + 1 + 1 + 1 by omega, List.take_succ_cons, List.take_succ_cons, List.take_succ_cons, flatS_take l i]
    rfl
theorem flatS_drop : ∀ (l : List Stp) (i : Nat), (flatS l).drop (i * 3) = flatS (l.drop i)
  | [], i => by simp [flatS]
  | s :: l, 0 => by simp
  | s :: l, i + 1 => by
    have e : flatS (s :: l) = AV.i s.b :: AV.i s.a :: AV.i s.w :: flatS l := rfl
    rw [e, show (i + 1) * 3 = i * 3 + 1 + 1 + 1 by omega, List.drop_succ_cons, List.drop_succ_cons, List.drop_succ_cons, flatS_drop l i]
    rfl
theorem spl_ins {l : List Stp} {i : Nat} (t : Int) (hi : i < l.length) : (l.set i ⟨(gt l i).b, t, (gt l i).w⟩).take (i + 1) ++ [⟨t, (gt l i).a, (gt l i).w⟩] ++ (l.set i ⟨(gt l i).b, t, (gt l i).w⟩).drop (i + 1) = spl l i t := by
  apply List.ext_getElem?
  intro k
  have e : (l.take i).length = i := by rw [List.length_take]; omega
  have e2 : ((l.set i ⟨(gt l i).b, t, (gt l i).w⟩).take (i + 1)).length = i + 1 := by rw [List.length_take, List.length_set]; omega
  simp only [spl, List.append_assoc, List.getElem?_append, e, e2, List.length_cons, List.length_nil, List.getElem?_take, List.getElem?_drop, List.getElem?_set]
  by_cases h1 : k < i
  · rw [if_pos (by omega), if_pos (by omega), if_neg (by omega), if_pos h1, if_pos h1]
  · by_cases h2 : k = i
    · subst h2; simp [hi]
    · rw [if_neg (by omega), if_neg h1]
      by_cases h3 : k = i + 1
      · subst h3; simp
      · rw [if_neg (by omega), if_neg (by omega), if_neg (by omega)]
        congr 1
theorem insV_ok {lim b b2 n : Nat} {H : Heap} {m : List Stp} {s : Stp} {i : Int} (hb : hget H b = some (flatS m)) (hb2 : hget H b2 = some (stC s)) (hlim : lim ≤ b) (hne : b ≠ b2) (h0 : 0 ≤ i) (hi : i ≤ m.length) (h1 : 1 ≤ m.length) (h2 : m.length ≤ 100000) (hn : n = m.length) :
    insV lim [.own 3 b 0 n, AV.i i, .own 3 b2 0 1] H = some (.own 3 H.length 0 (n + 1), hset H b none ++ [some (flatS (m.take i.toNat ++ [s] ++ m.drop i.toNat))]) := by
  subst hn
  simp only [insV, hb, hb2]
  rw [if_pos ⟨hlim, hne, h0, hi, h1, h2, flat_len m, rfl, flatS_st m, rfl⟩, flatS_cat, flatS_cat, flatS_take, flatS_drop]
  rfl
theorem nil25 (n : Nat) (l : List AV) (h : 0 < n) : binV Try.prog .eql 25 (.sl n l) (.v (.slice none 0 0)) = some (.v (.bool false)) := by
  simp only [binV, tk25, nilB]
  rw [if_pos h]
  rfl
theorem app25g {lim b n m : Nat} {H : Heap} {y : AV} {w u : List Stp} (hb : hget H b = some (flatS w)) (hy : srcCells H 3 y = some (m, flatS u)) (hl : lim ≤ b) (hn : n = w.length) (hm : n + m ≤ 100000) :
    ∃ H', appendV Try.prog lim H 25 (.own 3 b 0 n) y = some (.own 3 H.length 0 (n + m), H') ∧ MGrew H b H' (flatS (w ++ u)) := by
  subst hn
  refine ⟨_, ?_, MGrew.of _ _ _⟩
  simp only [appendV, tk25, ty56, hy, hb]
  rw [if_pos ⟨rfl, by decide, flatS_st u⟩, if_pos ⟨hl, trivial, by rw [flat_len]; omega, by omega, by omega⟩]
  rw [List.drop_zero, List.take_of_length_le (by rw [flat_len]; omega), flatS_cat]
theorem src_sl {H : Heap} {n : Nat} {l : List Stp} {k : Nat} (hn : n ≤ l.length) : srcCells H 3 (.sl n (flatS l)) = some (n, flatS (l.take n)) := by
  simp only [srcCells]
  rw [if_pos (by rw [flat_len]; omega), flatS_take]
theorem src_all {H : Heap} (l : List Stp) : srcCells H 3 (stopsAV l) = some (l.length, flatS l) := by
  rw [src_sl (k := 0) (Nat.le_refl _), List.take_of_length_le (Nat.le_refl _)]
theorem sl_hi {l : List Stp} {i : Int} (h0 : 0 ≤ i) (h1 : i ≤ l.length) : sliceV Try.prog 25 (stopsAV l) none (some (AV.i i)) = some (.sl i.toNat (flatS l)) := by
  simp only [sliceV, tk25, ty56, bound]
  rw [if_pos ⟨by omega, h0, h1⟩]
  simp
theorem sl_lo {l : List Stp} {i : Int} (h0 : 0 ≤ i) (h1 : i ≤ l.length) : sliceV Try.prog 25 (stopsAV l) (some (AV.i i)) none = some (stopsAV (l.drop i.toNat)) := by
  simp only [sliceV, tk25, ty56, bound]
  rw [if_pos ⟨h0, h1, by omega⟩, flatS_drop, stopsAV, List.length_drop]
  rfl
theorem bld56 (x y z : Int) : buildV Try.prog 56 [(0, AV.i x), (1, AV.i y), (2, AV.i z)] = some (.agg [AV.i x, AV.i y, AV.i z]) := by kernel_rfl
theorem bs25two (lim : Nat) (H : Heap) (x y : Operand) (ev : Operand → AV) (s t : Stp) (h : ev x = .agg (stC s)) (h2 : ev y = .agg (stC t)) :
    effV Try.prog lim (.buildSlice 25 2 #[(0, x), (1, y)]) ev H = some (.own 3 H.length 0 2, H ++ [some (flatS [s, t])]) := by
  simp only [effV, tk25, ty56]
  rw [if_pos ⟨rfl, by decide, by decide⟩]
  simp only [List.map_cons, List.map_nil, h, h2]
  rfl
end Go.Proofs.Ytaoondlakhocnaa
end
section
set_option linter.unusedVariables false
namespace Go.Proofs.Ytaoondlakhocnaa
open Go Go.Am

def revBad (a b c e f : Int) : Prop := a < 0 ∨ 10000 < a ∨ f < 0 ∨ 10000 < f ∨ e < 1 ∨ 80000 < e ∨ b < 1 ∨ e < b ∨ c < 0 ∨ e < c
instance (a b c e f : Int) : Decidable (revBad a b c e f) := by unfold revBad; infer_instance
def revV (a b c e f : Int) : Int := if c ≤ b then a * c / b + 1 else a + f * (c - b) / e + 1
def reviseS (a b c e f : Int) : Int × Int := if revBad a b c e f then (0, 2) else (revV a b c e f, 0)
theorem rev_ok0 {a b c e f : Int} (h : ¬ revBad a b c e f) : reviseS a b c e f = (revV a b c e f, 0) := by rw [reviseS, if_neg h]
theorem rev_of0 {a b c e f : Int} (h : (reviseS a b c e f).2 = 0) : ¬ revBad a b c e f := by
  intro hb
  rw [reviseS, if_pos hb] at h
  cases h
theorem rev_err {a b c e f : Int} (h : (reviseS a b c e f).2 ≠ 0) : reviseS a b c e f = (0, 2) := by
  by_cases hb : revBad a b c e f
  · rw [reviseS, if_pos hb]
  · rw [rev_ok0 hb] at h; exact absurd rfl h
theorem quo_box {x y : Int} (hx : 0 ≤ x) (hy : 0 ≤ y) : 0 ≤ x / y ∧ x / y ≤ x := ⟨Int.ediv_nonneg hx hy, Int.ediv_le_self _ hx⟩
theorem rev_box {a b c e f : Int} (h : ¬ revBad a b c e f) : 0 ≤ a * c ∧ a * c ≤ 10000 * 80000 ∧ (b < c → 0 ≤ f * (c - b) ∧ f * (c - b) ≤ 10000 * 80000) := by
  unfold revBad at h
  have h1 := mul_box (a := a) (b := c) (A := 10000) (B := 80000) (by omega) (by omega) (by omega) (by omega)
  refine ⟨h1.1, h1.2, fun hbc => ?_⟩
  exact mul_box (a := f) (b := c - b) (A := 10000) (B := 80000) (by omega) (by omega) (by omega) (by omega)
theorem rev_range {a b c e f : Int} : 0 ≤ (reviseS a b c e f).1 ∧ (reviseS a b c e f).1 ≤ 900000000 := by
  by_cases hb : revBad a b c e f
  · rw [reviseS, if_pos hb]; exact ⟨by simp, by simp⟩
  · rw [rev_ok0 hb]
    have h0 := rev_box hb
    unfold revBad at hb
    show 0 ≤ revV a b c e f ∧ revV a b c e f ≤ 900000000
    unfold revV
    split
    · have := quo_box (y := b) h0.1 (by omega)
      exact ⟨by omega, by omega⟩
    · have h1 := h0.2.2 (by omega)
      have := quo_box (y := e) h1.1 (by omega)
      exact ⟨by omega, by omega⟩
theorem quo_cap {a b c : Int} (ha : 0 ≤ a) (hb : 1 ≤ b) (hc : c ≤ b) : a * c / b ≤ a := by
  have h1 : a * c ≤ a * b := Int.mul_le_mul_of_nonneg_left hc ha
  have h2 := Int.ediv_le_ediv (c := b) (by omega) h1
  rwa [Int.mul_ediv_cancel _ (by omega)] at h2
theorem quo_mono {x x' y : Int} (h : x ≤ x') (hy : 1 ≤ y) : x / y ≤ x' / y := Int.ediv_le_ediv (by omega) h
theorem quo_anti {x y y' : Int} (hx : 0 ≤ x) (hy : 1 ≤ y) (h : y ≤ y') : x / y' ≤ x / y := by
  rw [Int.le_ediv_iff_mul_le (by omega)]
  have h1 : 0 ≤ x / y' := Int.ediv_nonneg hx (by omega)
  have h2 : x / y' * y ≤ x / y' * y' := Int.mul_le_mul_of_nonneg_left h h1
  have h3 : x / y' * y' ≤ x := Int.ediv_mul_le _ (by omega)
  omega
theorem rev_total {a a' b c e f : Int} (h : ¬ revBad a b c e f) (h' : ¬ revBad a' b c e f) (hle : a ≤ a') : revV a b c e f ≤ revV a' b c e f := by
  unfold revBad at h h'
  unfold revV
  split
  · have := quo_mono (y := b) (Int.mul_le_mul_of_nonneg_right hle (by omega : 0 ≤ c)) (by omega)
    omega
  · omega
theorem rev_second {a b c c' e f : Int} (h : ¬ revBad a b c e f) (h' : ¬ revBad a b c' e f) (hle : c ≤ c') : revV a b c e f ≤ revV a b c' e f := by
  have k' := rev_box h'
  unfold revBad at h h'
  unfold revV
  split
  · split
    · have := quo_mono (y := b) (Int.mul_le_mul_of_nonneg_left hle (by omega : 0 ≤ a)) (by omega)
      omega
    · have h1 := quo_cap (a := a) (b := b) (c := c) (by omega) (by omega) (by omega)
      have h2 := quo_box (y := e) (k'.2.2 (by omega)).1 (by omega)
      omega
  · rw [if_neg (by omega)]
    have := quo_mono (y := e) (Int.mul_le_mul_of_nonneg_left (by omega : c - b ≤ c' - b) (by omega : 0 ≤ f)) (by omega)
    omega
theorem rev_first {a b b' c e f : Int} (h : ¬ revBad a b c e f) (h' : ¬ revBad a b' c e f) (hle : b ≤ b') : revV a b' c e f ≤ revV a b c e f := by
  have k := rev_box h
  unfold revBad at h h'
  unfold revV
  by_cases h1 : c ≤ b
  · rw [if_pos h1, if_pos (by omega)]
    have := quo_anti (y := b) (y' := b') k.1 (by omega) hle
    omega
  · rw [if_neg h1]
    have h2 := quo_box (y := e) (k.2.2 (by omega)).1 (by omega)
    by_cases h3 : c ≤ b'
    · rw [if_pos h3]
      have := quo_cap (a := a) (b := b') (c := c) (by omega) (by omega) h3
      omega
    · rw [if_neg h3]
      have := quo_mono (y := e) (Int.mul_le_mul_of_nonneg_left (by omega : c - b' ≤ c - b) (by omega : 0 ≤ f)) (by omega)
      omega
theorem rev_same {a b c e f : Int} (h : ¬ revBad a b c e f) : ¬ revBad a b b e f ∧ revV a b b e f = a + 1 := by
  unfold revBad at h ⊢
  refine ⟨by omega, ?_⟩
  unfold revV
  rw [if_pos (Int.le_refl _), Int.mul_ediv_cancel _ (by omega)]
theorem rev_zero {a b c e f : Int} (h : ¬ revBad a b c e f) : ¬ revBad a b 0 e f ∧ revV a b 0 e f = 1 := by
  unfold revBad at h ⊢
  refine ⟨by omega, ?_⟩
  unfold revV
  rw [if_pos (by omega), Int.mul_zero, Int.zero_ediv]; rfl
def parS (a b c lf e f : Int) : Int × Int :=
  if (reviseS a b c e f).2 ≠ 0 then (0, (reviseS a b c e f).2) else if lf < 0 ∨ c < lf then (0, 2) else ((reviseS a b (c - lf) e f).1 - 1, 0)
theorem rev_less {a b c lf e f : Int} (h : (reviseS a b c e f).2 = 0) (h0 : 0 ≤ lf) (h1 : lf ≤ c) : (reviseS a b (c - lf) e f).2 = 0 := by
  have := rev_of0 h
  rw [rev_ok0 (by unfold revBad at this ⊢; omega)]
/-- What the levels are. -/
theorem par_zero {a b c e f : Int} (h : (reviseS a b c e f).2 = 0) : parS a b c 0 e f = ((reviseS a b c e f).1 - 1, 0) := by
  have hb := rev_of0 h
  unfold revBad at hb
  rw [parS, if_neg (fun hh => hh h), if_neg (by omega), Int.sub_zero]
theorem par_all {a b c e f : Int} (h : (reviseS a b c e f).2 = 0) : parS a b c c e f = (0, 0) := by
  have hb := rev_of0 h
  have hz := rev_zero hb
  unfold revBad at hb
  rw [parS, if_neg (fun hh => hh h), if_neg (by omega), Int.sub_self, rev_ok0 hz.1, hz.2]; rfl
theorem par_mono {a b c x y e f : Int} (h : (reviseS a b c e f).2 = 0) (hx : (parS a b c x e f).2 = 0) (hy : (parS a b c y e f).2 = 0) (hxy : x ≤ y) :
    (parS a b c y e f).1 ≤ (parS a b c x e f).1 ∧ (parS a b c x e f).1 ≤ (reviseS a b c e f).1 - 1 ∧ 0 ≤ (parS a b c y e f).1 := by
  have hb := rev_of0 h
  have key : ∀ z, (parS a b c z e f).2 = 0 → 0 ≤ z ∧ z ≤ c ∧ ¬ revBad a b (c - z) e f ∧ parS a b c z e f = (revV a b (c - z) e f - 1, 0) := by
    intro z hz
    by_cases hc : z < 0 ∨ c < z
    · rw [parS, if_neg (fun hh => hh h), if_pos hc] at hz; cases hz
    · have h2 : ¬ revBad a b (c - z) e f := by unfold revBad at hb ⊢; omega
      exact ⟨by omega, by omega, h2, by rw [parS, if_neg (fun hh => hh h), if_neg hc, rev_ok0 h2]⟩
  obtain ⟨x0, xc, xb, xe⟩ := key x hx
  obtain ⟨y0, yc, yb, ye⟩ := key y hy
  have hz := rev_zero hb
  rw [xe, ye, rev_ok0 hb]
  have m1 := rev_second yb xb (by omega)
  have m2 := rev_second xb hb (by omega)
  have m3 := rev_second hz.1 yb (by unfold revBad at yb; omega)
  rw [hz.2] at m3
  exact ⟨by show _ - 1 ≤ _ - 1; omega, by show _ - 1 ≤ _ - 1; omega, by show 0 ≤ _ - 1; omega⟩
end Go.Proofs.Ytaoondlakhocnaa
end
section
set_option linter.unusedSimpArgs false
set_option linter.unusedVariables false
set_option maxHeartbeats 40000000
set_option maxRecDepth 4000
namespace Go.Proofs.Ytaoondlakhocnaa
open Go Go.Am

abbrev lc_total_ok (a b : AV) : Env := [(0,a),(2,b)]
theorem total_ok (lim : Nat) (H : Heap) (n : Int) : ACall sig lim 51 [AV.i n] H fun r H' => r = .v (.bool (decide (0 ≤ n ∧ n ≤ 10000))) ∧ H' = H := by
 refine ACall_pure (fa := fa51) rfl rfl rfl rfl ?_
 have tr : ∀ a0 : AV, env0 fa51.keep [a0] = [(0,a0),(2,.any)] := fun a0 => rfl
 refine W_to (tr _) ?_; clear tr
 refine at_seq rfl ?_
 refine rg rfl ?_
 refine Rq ?_
 have tr : ∀ a b c : AV, let l := lc_total_ok a b; trim ((2,c)::l) l = [(0,a),(2,c)] := by intros; rfl
 refine R_nil (tr ..) ?_; clear tr
 refine then_n ?_
 refine at_seq rfl ?_
 refine rg rfl ?_
 refine Rq ?_
 refine Rq ?_
 refine Rq ?_
 refine Rp_split (fun h1 => ?_) (fun h1 => ?_)
 ·
  try simp only [decide_eq_true_eq, decide_eq_false_iff_not, Bool.not_eq_true', Bool.not_eq_false', beq_iff_eq, beq_eq_false_iff_ne, ne_eq] at h1
  refine Ry ?_
  refine Rq ?_
  refine Ry ?_
  refine Rq ?_
  refine Rq ?_
  refine Rq ?_
  have tr : ∀ a b c d e f g h i : AV, let l := lc_total_ok a b; trim ((2,i)::(8,h)::(7,g)::(6,f)::(5,e)::(4,d)::(3,c)::l) l = [(0,a),(2,i)] := by intros; rfl
  refine R_nil (tr ..) ?_; clear tr
  refine then_n ?_
  refine at_ret rfl ?_
  refine fpure ?_
  refine ⟨?_, rfl⟩
  congr 2
  first | (rw [decide_eq_decide]; omega) | (symm; rw [decide_eq_false_iff_not]; omega) | (symm; rw [decide_eq_true_eq]; omega)
 ·
  try simp only [decide_eq_true_eq, decide_eq_false_iff_not, Bool.not_eq_true', Bool.not_eq_false', beq_iff_eq, beq_eq_false_iff_ne, ne_eq] at h1
  refine Rn ?_
  refine Rn ?_
  refine Rq ?_
  refine Rq ?_
  have tr : ∀ a b c d e f g h i : AV, let l := lc_total_ok a b; trim ((2,i)::(8,h)::(7,g)::(6,f)::(5,e)::(4,d)::(3,c)::l) l = [(0,a),(2,i)] := by intros; rfl
  refine R_nil (tr ..) ?_; clear tr
  refine then_n ?_
  refine at_ret rfl ?_
  refine fpure ?_
  refine ⟨?_, rfl⟩
  congr 2
  first | (rw [decide_eq_decide]; omega) | (symm; rw [decide_eq_false_iff_not]; omega) | (symm; rw [decide_eq_true_eq]; omega)

abbrev lc_between_ok (a b c d : AV) : Env := [(0,a),(1,b),(2,c),(6,d)]
theorem between_ok (lim : Nat) (H : Heap) (n lo hi : Int) : ACall sig lim 52 [AV.i n, AV.i lo, AV.i hi] H fun r H' => r = .v (.bool (decide (lo ≤ n ∧ n ≤ hi))) ∧ H' = H := by
 refine ACall_pure (fa := fa52) rfl rfl rfl rfl ?_
 have tr : ∀ a0 a1 a2 : AV, env0 fa52.keep [a0, a1, a2] = [(0,a0),(1,a1),(2,a2),(6,.any)] := fun a0 a1 a2 => rfl
 refine W_to (tr _ _ _) ?_; clear tr
 refine at_seq rfl ?_
 refine rg rfl ?_
 refine Rq ?_
 have tr : ∀ a b c d e : AV, let l := lc_between_ok a b c d; trim ((6,e)::l) l = [(0,a),(1,b),(2,c),(6,e)] := by intros; rfl
 refine R_nil (tr ..) ?_; clear tr
 refine then_n ?_
 refine at_seq rfl ?_
 refine rg rfl ?_
 refine Rq ?_
 refine Rq ?_
 refine Rq ?_
 refine Rq ?_
 refine Rp_split (fun h1 => ?_) (fun h1 => ?_)
 ·
  try simp only [decide_eq_true_eq, decide_eq_false_iff_not, Bool.not_eq_true', Bool.not_eq_false', beq_iff_eq, beq_eq_false_iff_ne, ne_eq] at h1
  refine Ry ?_
  refine Rq ?_
  refine Ry ?_
  refine Rq ?_
  refine Ry ?_
  refine Rq ?_
  refine Rq ?_
  refine Rq ?_
  have tr : ∀ a b c d e f g h i j k m n : AV, let l := lc_between_ok a b c d; trim ((6,n)::(14,m)::(13,k)::(12,j)::(11,i)::(10,h)::(9,g)::(8,f)::(7,e)::l) l = [(0,a),(1,b),(2,c),(6,n)] := by intros; rfl
  refine R_nil (tr ..) ?_; clear tr
  refine then_n ?_
  refine at_ret rfl ?_
  refine fpure ?_
  refine ⟨?_, rfl⟩
  congr 2
  first | (rw [decide_eq_decide]; omega) | (symm; rw [decide_eq_false_iff_not]; omega) | (symm; rw [decide_eq_true_eq]; omega)
 ·
  try simp only [decide_eq_true_eq, decide_eq_false_iff_not, Bool.not_eq_true', Bool.not_eq_false', beq_iff_eq, beq_eq_false_iff_ne, ne_eq] at h1
  refine Rn ?_
  refine Rn ?_
  refine Rn ?_
  refine Rq ?_
  refine Rq ?_
  have tr : ∀ a b c d e f g h i j k m n : AV, let l := lc_between_ok a b c d; trim ((6,n)::(14,m)::(13,k)::(12,j)::(11,i)::(10,h)::(9,g)::(8,f)::(7,e)::l) l = [(0,a),(1,b),(2,c),(6,n)] := by intros; rfl
  refine R_nil (tr ..) ?_; clear tr
  refine then_n ?_
  refine at_ret rfl ?_
  refine fpure ?_
  refine ⟨?_, rfl⟩
  congr 2
  first | (rw [decide_eq_decide]; omega) | (symm; rw [decide_eq_false_iff_not]; omega) | (symm; rw [decide_eq_true_eq]; omega)

abbrev lc_rev_ok (a b c d e f g h i : AV) : Env := [(0,a),(1,b),(2,c),(3,d),(4,e),(10,f),(11,g),(45,h),(48,i)]
theorem rev_ok (lim : Nat) (H : Heap) (a b c e f : Int) :
    ACall sig lim 25 [AV.i a, AV.i b, AV.i c, AV.i e, AV.i f] H fun r H' => r = .tup [AV.i (reviseS a b c e f).1, AV.i (reviseS a b c e f).2] ∧ H' = H := by
 refine ACall_pure (fa := fa25) rfl rfl rfl rfl ?_
 have tr : ∀ a0 a1 a2 a3 a4 : AV, env0 fa25.keep [a0, a1, a2, a3, a4] = [(0,a0),(1,a1),(2,a2),(3,a3),(4,a4),(10,.any),(11,.any),(45,.any),(48,.any)] := fun a0 a1 a2 a3 a4 => rfl
 refine W_to (tr _ _ _ _ _) ?_; clear tr
 refine at_seq rfl ?_
 refine rg rfl ?_
 refine Rq ?_
 refine Rq ?_
 have tr : ∀ a b c d e f g h i j k : AV, let l := lc_rev_ok a b c d e f g h i; trim ((11,k)::(10,j)::l) l = [(0,a),(1,b),(2,c),(3,d),(4,e),(10,j),(11,k),(45,h),(48,i)] := by intros; rfl
 refine R_nil (tr ..) ?_; clear tr
 refine then_n ?_
 refine at_seq rfl ?_
 refine at_seq rfl ?_
 refine rg rfl ?_
 refine Rq ?_
 refine Rcall ?_
 refine ACall_eq (total_ok _ _ _) ?_
 refine Rq ?_
 refine Rq ?_
 refine Rp_split (fun h1 => ?_) (fun h1 => ?_)
 ·
  try simp only [decide_eq_true_eq, decide_eq_false_iff_not, Bool.not_eq_true', Bool.not_eq_false', beq_iff_eq, beq_eq_false_iff_ne, ne_eq] at h1
  refine Rn ?_
  refine Rn ?_
  refine Rn ?_
  refine Rq ?_
  refine Rq ?_
  refine Rn ?_
  refine Rn ?_
  refine Rq ?_
  refine Rq ?_
  refine Rn ?_
  refine Rn ?_
  refine Rq ?_
  refine Rq ?_
  refine Rn ?_
  refine Rn ?_
  refine Rq ?_
  refine Rq ?_
  refine Rn ?_
  refine Rn ?_
  refine Rn ?_
  refine Rq ?_
  refine Rq ?_
  refine Rn ?_
  refine Rn ?_
  refine Rq ?_
  refine Rq ?_
  refine Rn ?_
  refine Rn ?_
  refine Rn ?_
  refine Rq ?_
  have tr : ∀ a b c d e f g h i j k m n o p q r s t u v w x y z A B C D E F G H I J K L M N O P Q R : AV, let l := lc_rev_ok a b c d e f g h i; trim ((45,R)::(44,Q)::(43,P)::(42,O)::(41,N)::(40,M)::(39,L)::(38,K)::(37,J)::(36,I)::(35,H)::(34,G)::(33,F)::(32,E)::(31,D)::(30,C)::(29,B)::(28,A)::(27,z)::(26,y)::(25,x)::(24,w)::(23,v)::(22,u)::(21,t)::(20,s)::(19,r)::(18,q)::(17,p)::(16,o)::(15,n)::(14,m)::(13,k)::(12,j)::l) l = [(0,a),(1,b),(2,c),(3,d),(4,e),(10,f),(11,g),(45,R),(48,i)] := by intros; rfl
  refine R_nil (tr ..) ?_; clear tr
  refine then_n ?_
  refine cdt ?_
  refine at_seq rfl ?_
  refine rg rfl ?_
  refine Rq ?_
  refine Rq ?_
  have tr : ∀ a b c d e f g h i j k : AV, let l := lc_rev_ok a b c d e f g h i; trim ((11,k)::(10,j)::l) l = [(0,a),(1,b),(2,c),(3,d),(4,e),(10,j),(11,k),(45,h),(48,i)] := by intros; rfl
  refine R_nil (tr ..) ?_; clear tr
  refine then_n ?_
  refine at_ret rfl ?_
  refine then_r ?_
  refine fpure ?_
  refine ⟨?_, rfl⟩
  first | (rw [reviseS, if_pos (by unfold revBad; omega)]) | (rw [rev_ok0 hnb, revV, if_pos (by omega)]) | (rw [rev_ok0 hnb, revV, if_neg (by omega)])
 ·
  try simp only [decide_eq_true_eq, decide_eq_false_iff_not, Bool.not_eq_true', Bool.not_eq_false', beq_iff_eq, beq_eq_false_iff_ne, ne_eq] at h1
  refine Ry ?_
  refine Rq ?_
  refine Ry ?_
  refine Rcall ?_
  refine ACall_eq (total_ok _ _ _) ?_
  refine Ry ?_
  refine Rq ?_
  refine Rq ?_
  refine Rq ?_
  refine Rp_split (fun h2 => ?_) (fun h2 => ?_)
  ·
   try simp only [decide_eq_true_eq, decide_eq_false_iff_not, Bool.not_eq_true', Bool.not_eq_false', beq_iff_eq, beq_eq_false_iff_ne, ne_eq] at h2
   refine Rn ?_
   refine Rn ?_
   refine Rq ?_
   refine Rq ?_
   refine Rn ?_
   refine Rn ?_
   refine Rq ?_
   refine Rq ?_
   refine Rn ?_
   refine Rn ?_
   refine Rq ?_
   refine Rq ?_
   refine Rn ?_
   refine Rn ?_
   refine Rn ?_
   refine Rq ?_
   refine Rq ?_
   refine Rn ?_
   refine Rn ?_
   refine Rq ?_
   refine Rq ?_
   refine Rn ?_
   refine Rn ?_
   refine Rn ?_
   refine Rq ?_
   have tr : ∀ a b c d e f g h i j k m n o p q r s t u v w x y z A B C D E F G H I J K L M N O P Q R : AV, let l := lc_rev_ok a b c d e f g h i; trim ((45,R)::(44,Q)::(43,P)::(42,O)::(41,N)::(40,M)::(39,L)::(38,K)::(37,J)::(36,I)::(35,H)::(34,G)::(33,F)::(32,E)::(31,D)::(30,C)::(29,B)::(28,A)::(27,z)::(26,y)::(25,x)::(24,w)::(23,v)::(22,u)::(21,t)::(20,s)::(19,r)::(18,q)::(17,p)::(16,o)::(15,n)::(14,m)::(13,k)::(12,j)::l) l = [(0,a),(1,b),(2,c),(3,d),(4,e),(10,f),(11,g),(45,R),(48,i)] := by intros; rfl
   refine R_nil (tr ..) ?_; clear tr
   refine then_n ?_
   refine cdt ?_
   refine at_seq rfl ?_
   refine rg rfl ?_
   refine Rq ?_
   refine Rq ?_
   have tr : ∀ a b c d e f g h i j k : AV, let l := lc_rev_ok a b c d e f g h i; trim ((11,k)::(10,j)::l) l = [(0,a),(1,b),(2,c),(3,d),(4,e),(10,j),(11,k),(45,h),(48,i)] := by intros; rfl
   refine R_nil (tr ..) ?_; clear tr
   refine then_n ?_
   refine at_ret rfl ?_
   refine then_r ?_
   refine fpure ?_
   refine ⟨?_, rfl⟩
   first | (rw [reviseS, if_pos (by unfold revBad; omega)]) | (rw [rev_ok0 hnb, revV, if_pos (by omega)]) | (rw [rev_ok0 hnb, revV, if_neg (by omega)])
  ·
   try simp only [decide_eq_true_eq, decide_eq_false_iff_not, Bool.not_eq_true', Bool.not_eq_false', beq_iff_eq, beq_eq_false_iff_ne, ne_eq] at h2
   refine Ry ?_
   refine Rq ?_
   refine Ry ?_
   refine Rq ?_
   refine Rq ?_
   refine Rq ?_
   refine Rp_split (fun h3 => ?_) (fun h3 => ?_)
   ·
    try simp only [decide_eq_true_eq, decide_eq_false_iff_not, Bool.not_eq_true', Bool.not_eq_false', beq_iff_eq, beq_eq_false_iff_ne, ne_eq] at h3
    refine Rn ?_
    refine Rn ?_
    refine Rq ?_
    refine Rq ?_
    refine Rn ?_
    refine Rn ?_
    refine Rq ?_
    refine Rq ?_
    refine Rn ?_
    refine Rn ?_
    refine Rn ?_
    refine Rq ?_
    refine Rq ?_
    refine Rn ?_
    refine Rn ?_
    refine Rq ?_
    refine Rq ?_
    refine Rn ?_
    refine Rn ?_
    refine Rn ?_
    refine Rq ?_
    have tr : ∀ a b c d e f g h i j k m n o p q r s t u v w x y z A B C D E F G H I J K L M N O P Q R : AV, let l := lc_rev_ok a b c d e f g h i; trim ((45,R)::(44,Q)::(43,P)::(42,O)::(41,N)::(40,M)::(39,L)::(38,K)::(37,J)::(36,I)::(35,H)::(34,G)::(33,F)::(32,E)::(31,D)::(30,C)::(29,B)::(28,A)::(27,z)::(26,y)::(25,x)::(24,w)::(23,v)::(22,u)::(21,t)::(20,s)::(19,r)::(18,q)::(17,p)::(16,o)::(15,n)::(14,m)::(13,k)::(12,j)::l) l = [(0,a),(1,b),(2,c),(3,d),(4,e),(10,f),(11,g),(45,R),(48,i)] := by intros; rfl
    refine R_nil (tr ..) ?_; clear tr
    refine then_n ?_
    refine cdt ?_
    refine at_seq rfl ?_
    refine rg rfl ?_
    refine Rq ?_
    refine Rq ?_
    have tr : ∀ a b c d e f g h i j k : AV, let l := lc_rev_ok a b c d e f g h i; trim ((11,k)::(10,j)::l) l = [(0,a),(1,b),(2,c),(3,d),(4,e),(10,j),(11,k),(45,h),(48,i)] := by intros; rfl
    refine R_nil (tr ..) ?_; clear tr
    refine then_n ?_
    refine at_ret rfl ?_
    refine then_r ?_
    refine fpure ?_
    refine ⟨?_, rfl⟩
    first | (rw [reviseS, if_pos (by unfold revBad; omega)]) | (rw [rev_ok0 hnb, revV, if_pos (by omega)]) | (rw [rev_ok0 hnb, revV, if_neg (by omega)])
   ·
    try simp only [decide_eq_true_eq, decide_eq_false_iff_not, Bool.not_eq_true', Bool.not_eq_false', beq_iff_eq, beq_eq_false_iff_ne, ne_eq] at h3
    refine Ry ?_
    refine Rq ?_
    refine Ry ?_
    refine Rq ?_
    refine Rq ?_
    refine Rq ?_
    refine Rp_split (fun h4 => ?_) (fun h4 => ?_)
    ·
     try simp only [decide_eq_true_eq, decide_eq_false_iff_not, Bool.not_eq_true', Bool.not_eq_false', beq_iff_eq, beq_eq_false_iff_ne, ne_eq] at h4
     refine Rn ?_
     refine Rn ?_
     refine Rq ?_
     refine Rq ?_
     refine Rn ?_
     refine Rn ?_
     refine Rn ?_
     refine Rq ?_
     refine Rq ?_
     refine Rn ?_
     refine Rn ?_
     refine Rq ?_
     refine Rq ?_
     refine Rn ?_
     refine Rn ?_
     refine Rn ?_
     refine Rq ?_
     have tr : ∀ a b c d e f g h i j k m n o p q r s t u v w x y z A B C D E F G H I J K L M N O P Q R : AV, let l := lc_rev_ok a b c d e f g h i; trim ((45,R)::(44,Q)::(43,P)::(42,O)::(41,N)::(40,M)::(39,L)::(38,K)::(37,J)::(36,I)::(35,H)::(34,G)::(33,F)::(32,E)::(31,D)::(30,C)::(29,B)::(28,A)::(27,z)::(26,y)::(25,x)::(24,w)::(23,v)::(22,u)::(21,t)::(20,s)::(19,r)::(18,q)::(17,p)::(16,o)::(15,n)::(14,m)::(13,k)::(12,j)::l) l = [(0,a),(1,b),(2,c),(3,d),(4,e),(10,f),(11,g),(45,R),(48,i)] := by intros; rfl
     refine R_nil (tr ..) ?_; clear tr
     refine then_n ?_
     refine cdt ?_
     refine at_seq rfl ?_
     refine rg rfl ?_
     refine Rq ?_
     refine Rq ?_
     have tr : ∀ a b c d e f g h i j k : AV, let l := lc_rev_ok a b c d e f g h i; trim ((11,k)::(10,j)::l) l = [(0,a),(1,b),(2,c),(3,d),(4,e),(10,j),(11,k),(45,h),(48,i)] := by intros; rfl
     refine R_nil (tr ..) ?_; clear tr
     refine then_n ?_
     refine at_ret rfl ?_
     refine then_r ?_
     refine fpure ?_
     refine ⟨?_, rfl⟩
     first | (rw [reviseS, if_pos (by unfold revBad; omega)]) | (rw [rev_ok0 hnb, revV, if_pos (by omega)]) | (rw [rev_ok0 hnb, revV, if_neg (by omega)])
    ·
     try simp only [decide_eq_true_eq, decide_eq_false_iff_not, Bool.not_eq_true', Bool.not_eq_false', beq_iff_eq, beq_eq_false_iff_ne, ne_eq] at h4
     refine Ry ?_
     refine Rq ?_
     refine Ry ?_
     refine Rq ?_
     refine Rq ?_
     refine Rq ?_
     refine Rp_split (fun h5 => ?_) (fun h5 => ?_)
     ·
      try simp only [decide_eq_true_eq, decide_eq_false_iff_not, Bool.not_eq_true', Bool.not_eq_false', beq_iff_eq, beq_eq_false_iff_ne, ne_eq] at h5
      refine Rn ?_
      refine Rn ?_
      refine Rn ?_
      refine Rq ?_
      refine Rq ?_
      refine Rn ?_
      refine Rn ?_
      refine Rq ?_
      refine Rq ?_
      refine Rn ?_
      refine Rn ?_
      refine Rn ?_
      refine Rq ?_
      have tr : ∀ a b c d e f g h i j k m n o p q r s t u v w x y z A B C D E F G H I J K L M N O P Q R : AV, let l := lc_rev_ok a b c d e f g h i; trim ((45,R)::(44,Q)::(43,P)::(42,O)::(41,N)::(40,M)::(39,L)::(38,K)::(37,J)::(36,I)::(35,H)::(34,G)::(33,F)::(32,E)::(31,D)::(30,C)::(29,B)::(28,A)::(27,z)::(26,y)::(25,x)::(24,w)::(23,v)::(22,u)::(21,t)::(20,s)::(19,r)::(18,q)::(17,p)::(16,o)::(15,n)::(14,m)::(13,k)::(12,j)::l) l = [(0,a),(1,b),(2,c),(3,d),(4,e),(10,f),(11,g),(45,R),(48,i)] := by intros; rfl
      refine R_nil (tr ..) ?_; clear tr
      refine then_n ?_
      refine cdt ?_
      refine at_seq rfl ?_
      refine rg rfl ?_
      refine Rq ?_
      refine Rq ?_
      have tr : ∀ a b c d e f g h i j k : AV, let l := lc_rev_ok a b c d e f g h i; trim ((11,k)::(10,j)::l) l = [(0,a),(1,b),(2,c),(3,d),(4,e),(10,j),(11,k),(45,h),(48,i)] := by intros; rfl
      refine R_nil (tr ..) ?_; clear tr
      refine then_n ?_
      refine at_ret rfl ?_
      refine then_r ?_
      refine fpure ?_
      refine ⟨?_, rfl⟩
      first | (rw [reviseS, if_pos (by unfold revBad; omega)]) | (rw [rev_ok0 hnb, revV, if_pos (by omega)]) | (rw [rev_ok0 hnb, revV, if_neg (by omega)])
     ·
      try simp only [decide_eq_true_eq, decide_eq_false_iff_not, Bool.not_eq_true', Bool.not_eq_false', beq_iff_eq, beq_eq_false_iff_ne, ne_eq] at h5
      refine Ry ?_
      refine Rq ?_
      refine Ry ?_
      refine Rq ?_
      refine Ry ?_
      refine Rq ?_
      refine Rq ?_
      refine Rq ?_
      refine Rp_split (fun h6 => ?_) (fun h6 => ?_)
      ·
       try simp only [decide_eq_true_eq, decide_eq_false_iff_not, Bool.not_eq_true', Bool.not_eq_false', beq_iff_eq, beq_eq_false_iff_ne, ne_eq] at h6
       refine Rn ?_
       refine Rn ?_
       refine Rq ?_
       refine Rq ?_
       refine Rn ?_
       refine Rn ?_
       refine Rn ?_
       refine Rq ?_
       have tr : ∀ a b c d e f g h i j k m n o p q r s t u v w x y z A B C D E F G H I J K L M N O P Q R : AV, let l := lc_rev_ok a b c d e f g h i; trim ((45,R)::(44,Q)::(43,P)::(42,O)::(41,N)::(40,M)::(39,L)::(38,K)::(37,J)::(36,I)::(35,H)::(34,G)::(33,F)::(32,E)::(31,D)::(30,C)::(29,B)::(28,A)::(27,z)::(26,y)::(25,x)::(24,w)::(23,v)::(22,u)::(21,t)::(20,s)::(19,r)::(18,q)::(17,p)::(16,o)::(15,n)::(14,m)::(13,k)::(12,j)::l) l = [(0,a),(1,b),(2,c),(3,d),(4,e),(10,f),(11,g),(45,R),(48,i)] := by intros; rfl
       refine R_nil (tr ..) ?_; clear tr
       refine then_n ?_
       refine cdt ?_
       refine at_seq rfl ?_
       refine rg rfl ?_
       refine Rq ?_
       refine Rq ?_
       have tr : ∀ a b c d e f g h i j k : AV, let l := lc_rev_ok a b c d e f g h i; trim ((11,k)::(10,j)::l) l = [(0,a),(1,b),(2,c),(3,d),(4,e),(10,j),(11,k),(45,h),(48,i)] := by intros; rfl
       refine R_nil (tr ..) ?_; clear tr
       refine then_n ?_
       refine at_ret rfl ?_
       refine then_r ?_
       refine fpure ?_
       refine ⟨?_, rfl⟩
       first | (rw [reviseS, if_pos (by unfold revBad; omega)]) | (rw [rev_ok0 hnb, revV, if_pos (by omega)]) | (rw [rev_ok0 hnb, revV, if_neg (by omega)])
      ·
       try simp only [decide_eq_true_eq, decide_eq_false_iff_not, Bool.not_eq_true', Bool.not_eq_false', beq_iff_eq, beq_eq_false_iff_ne, ne_eq] at h6
       refine Ry ?_
       refine Rq ?_
       refine Ry ?_
       refine Rq ?_
       refine Rq ?_
       refine Rq ?_
       refine Rp_split (fun h7 => ?_) (fun h7 => ?_)
       ·
        try simp only [decide_eq_true_eq, decide_eq_false_iff_not, Bool.not_eq_true', Bool.not_eq_false', beq_iff_eq, beq_eq_false_iff_ne, ne_eq] at h7
        refine Rn ?_
        refine Rn ?_
        refine Rn ?_
        refine Rq ?_
        have tr : ∀ a b c d e f g h i j k m n o p q r s t u v w x y z A B C D E F G H I J K L M N O P Q R : AV, let l := lc_rev_ok a b c d e f g h i; trim ((45,R)::(44,Q)::(43,P)::(42,O)::(41,N)::(40,M)::(39,L)::(38,K)::(37,J)::(36,I)::(35,H)::(34,G)::(33,F)::(32,E)::(31,D)::(30,C)::(29,B)::(28,A)::(27,z)::(26,y)::(25,x)::(24,w)::(23,v)::(22,u)::(21,t)::(20,s)::(19,r)::(18,q)::(17,p)::(16,o)::(15,n)::(14,m)::(13,k)::(12,j)::l) l = [(0,a),(1,b),(2,c),(3,d),(4,e),(10,f),(11,g),(45,R),(48,i)] := by intros; rfl
        refine R_nil (tr ..) ?_; clear tr
        refine then_n ?_
        refine cdt ?_
        refine at_seq rfl ?_
        refine rg rfl ?_
        refine Rq ?_
        refine Rq ?_
        have tr : ∀ a b c d e f g h i j k : AV, let l := lc_rev_ok a b c d e f g h i; trim ((11,k)::(10,j)::l) l = [(0,a),(1,b),(2,c),(3,d),(4,e),(10,j),(11,k),(45,h),(48,i)] := by intros; rfl
        refine R_nil (tr ..) ?_; clear tr
        refine then_n ?_
        refine at_ret rfl ?_
        refine then_r ?_
        refine fpure ?_
        refine ⟨?_, rfl⟩
        first | (rw [reviseS, if_pos (by unfold revBad; omega)]) | (rw [rev_ok0 hnb, revV, if_pos (by omega)]) | (rw [rev_ok0 hnb, revV, if_neg (by omega)])
       ·
        try simp only [decide_eq_true_eq, decide_eq_false_iff_not, Bool.not_eq_true', Bool.not_eq_false', beq_iff_eq, beq_eq_false_iff_ne, ne_eq] at h7
        refine Ry ?_
        refine Rq ?_
        refine Ry ?_
        refine Rq ?_
        refine Ry ?_
        refine Rq ?_
        refine Rq ?_
        have tr : ∀ a b c d e f g h i j k m n o p q r s t u v w x y z A B C D E F G H I J K L M N O P Q R : AV, let l := lc_rev_ok a b c d e f g h i; trim ((45,R)::(44,Q)::(43,P)::(42,O)::(41,N)::(40,M)::(39,L)::(38,K)::(37,J)::(36,I)::(35,H)::(34,G)::(33,F)::(32,E)::(31,D)::(30,C)::(29,B)::(28,A)::(27,z)::(26,y)::(25,x)::(24,w)::(23,v)::(22,u)::(21,t)::(20,s)::(19,r)::(18,q)::(17,p)::(16,o)::(15,n)::(14,m)::(13,k)::(12,j)::l) l = [(0,a),(1,b),(2,c),(3,d),(4,e),(10,f),(11,g),(45,R),(48,i)] := by intros; rfl
        refine R_nil (tr ..) ?_; clear tr
        refine then_n ?_
        refine cdd (fun h8 => ?_) (fun h8 => ?_)
        ·
         try simp only [decide_eq_true_eq, decide_eq_false_iff_not, Bool.not_eq_true', Bool.not_eq_false', beq_iff_eq, beq_eq_false_iff_ne, ne_eq] at h8
         refine at_seq rfl ?_
         refine rg rfl ?_
         refine Rq ?_
         refine Rq ?_
         have tr : ∀ a b c d e f g h i j k : AV, let l := lc_rev_ok a b c d e f g h i; trim ((11,k)::(10,j)::l) l = [(0,a),(1,b),(2,c),(3,d),(4,e),(10,j),(11,k),(45,h),(48,i)] := by intros; rfl
         refine R_nil (tr ..) ?_; clear tr
         refine then_n ?_
         refine at_ret rfl ?_
         refine then_r ?_
         refine fpure ?_
         refine ⟨?_, rfl⟩
         first | (rw [reviseS, if_pos (by unfold revBad; omega)]) | (rw [rev_ok0 hnb, revV, if_pos (by omega)]) | (rw [rev_ok0 hnb, revV, if_neg (by omega)])
        ·
         try simp only [decide_eq_true_eq, decide_eq_false_iff_not, Bool.not_eq_true', Bool.not_eq_false', beq_iff_eq, beq_eq_false_iff_ne, ne_eq] at h8
         refine at_skip rfl ?_
         refine then_n ?_
         refine at_seq rfl ?_
         refine at_seq rfl ?_
         refine rg rfl ?_
         refine Rq ?_
         refine Rq ?_
         refine Rq ?_
         have tr : ∀ a b c d e f g h i j k m : AV, let l := lc_rev_ok a b c d e f g h i; trim ((48,m)::(47,k)::(46,j)::l) l = [(0,a),(1,b),(2,c),(3,d),(4,e),(10,f),(11,g),(45,h),(48,m)] := by intros; rfl
         refine R_nil (tr ..) ?_; clear tr
         refine then_n ?_
         refine cdd (fun h9 => ?_) (fun h9 => ?_)
         ·
          try simp only [decide_eq_true_eq, decide_eq_false_iff_not, Bool.not_eq_true', Bool.not_eq_false', beq_iff_eq, beq_eq_false_iff_ne, ne_eq] at h9
          refine at_seq rfl ?_
          refine rg rfl ?_
          have hnb : ¬ revBad a b c e f := by unfold revBad; omega
          have k := rev_box hnb
          have k1 := quo_box (y := b) k.1 (by omega)
          refine Rq ?_
          refine Rq ?_
          refine Rq ?_
          refine Rq ?_
          refine Rq ?_
          refine Rq ?_
          refine Rq ?_
          refine Rq ?_
          have tr : ∀ a b c d e f g h i j k m n o p q r : AV, let l := lc_rev_ok a b c d e f g h i; trim ((11,r)::(10,q)::(54,p)::(53,o)::(52,n)::(51,m)::(50,k)::(49,j)::l) l = [(0,a),(1,b),(2,c),(3,d),(4,e),(10,q),(11,r),(45,h),(48,i)] := by intros; rfl
          refine R_nil (tr ..) ?_; clear tr
          refine then_n ?_
          refine at_ret rfl ?_
          refine then_r ?_
          refine fpure ?_
          refine ⟨?_, rfl⟩
          first | (rw [reviseS, if_pos (by unfold revBad; omega)]) | (rw [rev_ok0 hnb, revV, if_pos (by omega)]) | (rw [rev_ok0 hnb, revV, if_neg (by omega)])
         ·
          try simp only [decide_eq_true_eq, decide_eq_false_iff_not, Bool.not_eq_true', Bool.not_eq_false', beq_iff_eq, beq_eq_false_iff_ne, ne_eq] at h9
          refine at_skip rfl ?_
          refine then_n ?_
          refine at_seq rfl ?_
          refine rg rfl ?_
          have hnb : ¬ revBad a b c e f := by unfold revBad; omega
          have k := rev_box hnb
          have k2 := k.2.2 (by omega)
          have k1 := quo_box (y := e) k2.1 (by omega)
          refine Rq ?_
          refine Rq ?_
          refine Rq ?_
          refine Rq ?_
          refine Rq ?_
          refine Rq ?_
          refine Rq ?_
          refine Rq ?_
          refine Rq ?_
          refine Rq ?_
          refine Rq ?_
          refine Rq ?_
          have tr : ∀ a b c d e f g h i j k m n o p q r s t u v : AV, let l := lc_rev_ok a b c d e f g h i; trim ((11,v)::(10,u)::(64,t)::(63,s)::(62,r)::(61,q)::(60,p)::(59,o)::(58,n)::(57,m)::(56,k)::(55,j)::l) l = [(0,a),(1,b),(2,c),(3,d),(4,e),(10,u),(11,v),(45,h),(48,i)] := by intros; rfl
          refine R_nil (tr ..) ?_; clear tr
          refine then_n ?_
          refine at_ret rfl ?_
          refine fpure ?_
          refine ⟨?_, rfl⟩
          first | (rw [reviseS, if_pos (by unfold revBad; omega)]) | (rw [rev_ok0 hnb, revV, if_pos (by omega)]) | (rw [rev_ok0 hnb, revV, if_neg (by omega)])

abbrev lc_rrev_ok (a b c d e f g h i : AV) : Env := [(0,a),(1,b),(2,c),(3,d),(4,e),(10,f),(11,g),(36,h),(39,i)]
theorem rrev_ok (lim : Nat) (H : Heap) (a b c e f : Int) :
    ACall sig lim 26 [AV.i a, AV.i b, AV.i c, AV.i e, AV.i f] H fun r H' => r = .tup [AV.i (reviseS a b c e f).1, AV.i (reviseS a b c e f).2] ∧ H' = H := by
 refine ACall_pure (fa := fa26) rfl rfl rfl rfl ?_
 have tr : ∀ a0 a1 a2 a3 a4 : AV, env0 fa26.keep [a0, a1, a2, a3, a4] = [(0,a0),(1,a1),(2,a2),(3,a3),(4,a4),(10,.any),(11,.any),(36,.any),(39,.any)] := fun a0 a1 a2 a3 a4 => rfl
 refine W_to (tr _ _ _ _ _) ?_; clear tr
 refine at_seq rfl ?_
 refine rg rfl ?_
 refine Rq ?_
 refine Rq ?_
 have tr : ∀ a b c d e f g h i j k : AV, let l := lc_rrev_ok a b c d e f g h i; trim ((11,k)::(10,j)::l) l = [(0,a),(1,b),(2,c),(3,d),(4,e),(10,j),(11,k),(36,h),(39,i)] := by intros; rfl
 refine R_nil (tr ..) ?_; clear tr
 refine then_n ?_
 refine at_seq rfl ?_
 refine at_seq rfl ?_
 refine rg rfl ?_
 refine Rq ?_
 refine Rcall ?_
 refine ACall_eq (between_ok _ _ _ _ _) ?_
 refine Rq ?_
 refine Rq ?_
 refine Rp_split (fun h1 => ?_) (fun h1 => ?_)
 ·
  try simp only [decide_eq_true_eq, decide_eq_false_iff_not, Bool.not_eq_true', Bool.not_eq_false', beq_iff_eq, beq_eq_false_iff_ne, ne_eq] at h1
  refine Rn ?_
  refine Rn ?_
  refine Rn ?_
  refine Rq ?_
  refine Rq ?_
  refine Rn ?_
  refine Rn ?_
  refine Rn ?_
  refine Rq ?_
  refine Rq ?_
  refine Rn ?_
  refine Rn ?_
  refine Rn ?_
  refine Rn ?_
  refine Rq ?_
  refine Rq ?_
  refine Rn ?_
  refine Rn ?_
  refine Rn ?_
  refine Rn ?_
  refine Rq ?_
  have tr : ∀ a b c d e f g h i j k m n o p q r s t u v w x y z A B C D E F G H I : AV, let l := lc_rrev_ok a b c d e f g h i; trim ((36,I)::(35,H)::(34,G)::(33,F)::(32,E)::(31,D)::(30,C)::(29,B)::(28,A)::(27,z)::(26,y)::(25,x)::(24,w)::(23,v)::(22,u)::(21,t)::(20,s)::(19,r)::(18,q)::(17,p)::(16,o)::(15,n)::(14,m)::(13,k)::(12,j)::l) l = [(0,a),(1,b),(2,c),(3,d),(4,e),(10,f),(11,g),(36,I),(39,i)] := by intros; rfl
  refine R_nil (tr ..) ?_; clear tr
  refine then_n ?_
  refine cdt ?_
  refine at_seq rfl ?_
  refine rg rfl ?_
  refine Rq ?_
  refine Rq ?_
  have tr : ∀ a b c d e f g h i j k : AV, let l := lc_rrev_ok a b c d e f g h i; trim ((11,k)::(10,j)::l) l = [(0,a),(1,b),(2,c),(3,d),(4,e),(10,j),(11,k),(36,h),(39,i)] := by intros; rfl
  refine R_nil (tr ..) ?_; clear tr
  refine then_n ?_
  refine at_ret rfl ?_
  refine then_r ?_
  refine fpure ?_
  refine ⟨?_, rfl⟩
  first | (rw [reviseS, if_pos (by unfold revBad; omega)]) | (rw [rev_ok0 hnb, revV, if_pos (by omega)]) | (rw [rev_ok0 hnb, revV, if_neg (by omega)])
 ·
  try simp only [decide_eq_true_eq, decide_eq_false_iff_not, Bool.not_eq_true', Bool.not_eq_false', beq_iff_eq, beq_eq_false_iff_ne, ne_eq] at h1
  refine Ry ?_
  refine Rq ?_
  refine Ry ?_
  refine Rcall ?_
  refine ACall_eq (between_ok _ _ _ _ _) ?_
  refine Ry ?_
  refine Rq ?_
  refine Rq ?_
  refine Rq ?_
  refine Rp_split (fun h2 => ?_) (fun h2 => ?_)
  ·
   try simp only [decide_eq_true_eq, decide_eq_false_iff_not, Bool.not_eq_true', Bool.not_eq_false', beq_iff_eq, beq_eq_false_iff_ne, ne_eq] at h2
   refine Rn ?_
   refine Rn ?_
   refine Rn ?_
   refine Rq ?_
   refine Rq ?_
   refine Rn ?_
   refine Rn ?_
   refine Rn ?_
   refine Rn ?_
   refine Rq ?_
   refine Rq ?_
   refine Rn ?_
   refine Rn ?_
   refine Rn ?_
   refine Rn ?_
   refine Rq ?_
   have tr : ∀ a b c d e f g h i j k m n o p q r s t u v w x y z A B C D E F G H I : AV, let l := lc_rrev_ok a b c d e f g h i; trim ((36,I)::(35,H)::(34,G)::(33,F)::(32,E)::(31,D)::(30,C)::(29,B)::(28,A)::(27,z)::(26,y)::(25,x)::(24,w)::(23,v)::(22,u)::(21,t)::(20,s)::(19,r)::(18,q)::(17,p)::(16,o)::(15,n)::(14,m)::(13,k)::(12,j)::l) l = [(0,a),(1,b),(2,c),(3,d),(4,e),(10,f),(11,g),(36,I),(39,i)] := by intros; rfl
   refine R_nil (tr ..) ?_; clear tr
   refine then_n ?_
   refine cdt ?_
   refine at_seq rfl ?_
   refine rg rfl ?_
   refine Rq ?_
   refine Rq ?_
   have tr : ∀ a b c d e f g h i j k : AV, let l := lc_rrev_ok a b c d e f g h i; trim ((11,k)::(10,j)::l) l = [(0,a),(1,b),(2,c),(3,d),(4,e),(10,j),(11,k),(36,h),(39,i)] := by intros; rfl
   refine R_nil (tr ..) ?_; clear tr
   refine then_n ?_
   refine at_ret rfl ?_
   refine then_r ?_
   refine fpure ?_
   refine ⟨?_, rfl⟩
   first | (rw [reviseS, if_pos (by unfold revBad; omega)]) | (rw [rev_ok0 hnb, revV, if_pos (by omega)]) | (rw [rev_ok0 hnb, revV, if_neg (by omega)])
  ·
   try simp only [decide_eq_true_eq, decide_eq_false_iff_not, Bool.not_eq_true', Bool.not_eq_false', beq_iff_eq, beq_eq_false_iff_ne, ne_eq] at h2
   refine Ry ?_
   refine Rq ?_
   refine Ry ?_
   refine Rcall ?_
   refine ACall_eq (between_ok _ _ _ _ _) ?_
   refine Ry ?_
   refine Rq ?_
   refine Rq ?_
   refine Rq ?_
   refine Rp_split (fun h3 => ?_) (fun h3 => ?_)
   ·
    try simp only [decide_eq_true_eq, decide_eq_false_iff_not, Bool.not_eq_true', Bool.not_eq_false', beq_iff_eq, beq_eq_false_iff_ne, ne_eq] at h3
    refine Rn ?_
    refine Rn ?_
    refine Rn ?_
    refine Rn ?_
    refine Rq ?_
    refine Rq ?_
    refine Rn ?_
    refine Rn ?_
    refine Rn ?_
    refine Rn ?_
    refine Rq ?_
    have tr : ∀ a b c d e f g h i j k m n o p q r s t u v w x y z A B C D E F G H I : AV, let l := lc_rrev_ok a b c d e f g h i; trim ((36,I)::(35,H)::(34,G)::(33,F)::(32,E)::(31,D)::(30,C)::(29,B)::(28,A)::(27,z)::(26,y)::(25,x)::(24,w)::(23,v)::(22,u)::(21,t)::(20,s)::(19,r)::(18,q)::(17,p)::(16,o)::(15,n)::(14,m)::(13,k)::(12,j)::l) l = [(0,a),(1,b),(2,c),(3,d),(4,e),(10,f),(11,g),(36,I),(39,i)] := by intros; rfl
    refine R_nil (tr ..) ?_; clear tr
    refine then_n ?_
    refine cdt ?_
    refine at_seq rfl ?_
    refine rg rfl ?_
    refine Rq ?_
    refine Rq ?_
    have tr : ∀ a b c d e f g h i j k : AV, let l := lc_rrev_ok a b c d e f g h i; trim ((11,k)::(10,j)::l) l = [(0,a),(1,b),(2,c),(3,d),(4,e),(10,j),(11,k),(36,h),(39,i)] := by intros; rfl
    refine R_nil (tr ..) ?_; clear tr
    refine then_n ?_
    refine at_ret rfl ?_
    refine then_r ?_
    refine fpure ?_
    refine ⟨?_, rfl⟩
    first | (rw [reviseS, if_pos (by unfold revBad; omega)]) | (rw [rev_ok0 hnb, revV, if_pos (by omega)]) | (rw [rev_ok0 hnb, revV, if_neg (by omega)])
   ·
    try simp only [decide_eq_true_eq, decide_eq_false_iff_not, Bool.not_eq_true', Bool.not_eq_false', beq_iff_eq, beq_eq_false_iff_ne, ne_eq] at h3
    refine Ry ?_
    refine Rq ?_
    refine Ry ?_
    refine Rq ?_
    refine Ry ?_
    refine Rcall ?_
    refine ACall_eq (between_ok _ _ _ _ _) ?_
    refine Ry ?_
    refine Rq ?_
    refine Rq ?_
    refine Rq ?_
    refine Rp_split (fun h4 => ?_) (fun h4 => ?_)
    ·
     try simp only [decide_eq_true_eq, decide_eq_false_iff_not, Bool.not_eq_true', Bool.not_eq_false', beq_iff_eq, beq_eq_false_iff_ne, ne_eq] at h4
     refine Rn ?_
     refine Rn ?_
     refine Rn ?_
     refine Rn ?_
     refine Rq ?_
     have tr : ∀ a b c d e f g h i j k m n o p q r s t u v w x y z A B C D E F G H I : AV, let l := lc_rrev_ok a b c d e f g h i; trim ((36,I)::(35,H)::(34,G)::(33,F)::(32,E)::(31,D)::(30,C)::(29,B)::(28,A)::(27,z)::(26,y)::(25,x)::(24,w)::(23,v)::(22,u)::(21,t)::(20,s)::(19,r)::(18,q)::(17,p)::(16,o)::(15,n)::(14,m)::(13,k)::(12,j)::l) l = [(0,a),(1,b),(2,c),(3,d),(4,e),(10,f),(11,g),(36,I),(39,i)] := by intros; rfl
     refine R_nil (tr ..) ?_; clear tr
     refine then_n ?_
     refine cdt ?_
     refine at_seq rfl ?_
     refine rg rfl ?_
     refine Rq ?_
     refine Rq ?_
     have tr : ∀ a b c d e f g h i j k : AV, let l := lc_rrev_ok a b c d e f g h i; trim ((11,k)::(10,j)::l) l = [(0,a),(1,b),(2,c),(3,d),(4,e),(10,j),(11,k),(36,h),(39,i)] := by intros; rfl
     refine R_nil (tr ..) ?_; clear tr
     refine then_n ?_
     refine at_ret rfl ?_
     refine then_r ?_
     refine fpure ?_
     refine ⟨?_, rfl⟩
     first | (rw [reviseS, if_pos (by unfold revBad; omega)]) | (rw [rev_ok0 hnb, revV, if_pos (by omega)]) | (rw [rev_ok0 hnb, revV, if_neg (by omega)])
    ·
     try simp only [decide_eq_true_eq, decide_eq_false_iff_not, Bool.not_eq_true', Bool.not_eq_false', beq_iff_eq, beq_eq_false_iff_ne, ne_eq] at h4
     refine Ry ?_
     refine Rq ?_
     refine Ry ?_
     refine Rq ?_
     refine Ry ?_
     refine Rcall ?_
     refine ACall_eq (between_ok _ _ _ _ _) ?_
     refine Ry ?_
     refine Rq ?_
     refine Rq ?_
     have tr : ∀ a b c d e f g h i j k m n o p q r s t u v w x y z A B C D E F G H I : AV, let l := lc_rrev_ok a b c d e f g h i; trim ((36,I)::(35,H)::(34,G)::(33,F)::(32,E)::(31,D)::(30,C)::(29,B)::(28,A)::(27,z)::(26,y)::(25,x)::(24,w)::(23,v)::(22,u)::(21,t)::(20,s)::(19,r)::(18,q)::(17,p)::(16,o)::(15,n)::(14,m)::(13,k)::(12,j)::l) l = [(0,a),(1,b),(2,c),(3,d),(4,e),(10,f),(11,g),(36,I),(39,i)] := by intros; rfl
     refine R_nil (tr ..) ?_; clear tr
     refine then_n ?_
     refine cdd (fun h5 => ?_) (fun h5 => ?_)
     ·
      try simp only [decide_eq_true_eq, decide_eq_false_iff_not, Bool.not_eq_true', Bool.not_eq_false', beq_iff_eq, beq_eq_false_iff_ne, ne_eq] at h5
      refine at_seq rfl ?_
      refine rg rfl ?_
      refine Rq ?_
      refine Rq ?_
      have tr : ∀ a b c d e f g h i j k : AV, let l := lc_rrev_ok a b c d e f g h i; trim ((11,k)::(10,j)::l) l = [(0,a),(1,b),(2,c),(3,d),(4,e),(10,j),(11,k),(36,h),(39,i)] := by intros; rfl
      refine R_nil (tr ..) ?_; clear tr
      refine then_n ?_
      refine at_ret rfl ?_
      refine then_r ?_
      refine fpure ?_
      refine ⟨?_, rfl⟩
      first | (rw [reviseS, if_pos (by unfold revBad; omega)]) | (rw [rev_ok0 hnb, revV, if_pos (by omega)]) | (rw [rev_ok0 hnb, revV, if_neg (by omega)])
     ·
      try simp only [decide_eq_true_eq, decide_eq_false_iff_not, Bool.not_eq_true', Bool.not_eq_false', beq_iff_eq, beq_eq_false_iff_ne, ne_eq] at h5
      refine at_skip rfl ?_
      refine then_n ?_
      refine at_seq rfl ?_
      refine at_seq rfl ?_
      refine rg rfl ?_
      refine Rq ?_
      refine Rq ?_
      refine Rq ?_
      have tr : ∀ a b c d e f g h i j k m : AV, let l := lc_rrev_ok a b c d e f g h i; trim ((39,m)::(38,k)::(37,j)::l) l = [(0,a),(1,b),(2,c),(3,d),(4,e),(10,f),(11,g),(36,h),(39,m)] := by intros; rfl
      refine R_nil (tr ..) ?_; clear tr
      refine then_n ?_
      refine cdd (fun h6 => ?_) (fun h6 => ?_)
      ·
       try simp only [decide_eq_true_eq, decide_eq_false_iff_not, Bool.not_eq_true', Bool.not_eq_false', beq_iff_eq, beq_eq_false_iff_ne, ne_eq] at h6
       refine at_seq rfl ?_
       refine rg rfl ?_
       have hnb : ¬ revBad a b c e f := by unfold revBad; omega
       have k := rev_box hnb
       have k1 := quo_box (y := b) k.1 (by omega)
       refine Rq ?_
       refine Rq ?_
       refine Rq ?_
       refine Rq ?_
       refine Rq ?_
       refine Rq ?_
       refine Rq ?_
       refine Rq ?_
       have tr : ∀ a b c d e f g h i j k m n o p q r : AV, let l := lc_rrev_ok a b c d e f g h i; trim ((11,r)::(10,q)::(45,p)::(44,o)::(43,n)::(42,m)::(41,k)::(40,j)::l) l = [(0,a),(1,b),(2,c),(3,d),(4,e),(10,q),(11,r),(36,h),(39,i)] := by intros; rfl
       refine R_nil (tr ..) ?_; clear tr
       refine then_n ?_
       refine at_ret rfl ?_
       refine then_r ?_
       refine fpure ?_
       refine ⟨?_, rfl⟩
       first | (rw [reviseS, if_pos (by unfold revBad; omega)]) | (rw [rev_ok0 hnb, revV, if_pos (by omega)]) | (rw [rev_ok0 hnb, revV, if_neg (by omega)])
      ·
       try simp only [decide_eq_true_eq, decide_eq_false_iff_not, Bool.not_eq_true', Bool.not_eq_false', beq_iff_eq, beq_eq_false_iff_ne, ne_eq] at h6
       refine at_skip rfl ?_
       refine then_n ?_
       refine at_seq rfl ?_
       refine rg rfl ?_
       have hnb : ¬ revBad a b c e f := by unfold revBad; omega
       have k := rev_box hnb
       have k2 := k.2.2 (by omega)
       have k1 := quo_box (y := e) k2.1 (by omega)
       refine Rq ?_
       refine Rq ?_
       refine Rq ?_
       refine Rq ?_
       refine Rq ?_
       refine Rq ?_
       refine Rq ?_
       refine Rq ?_
       refine Rq ?_
       refine Rq ?_
       refine Rq ?_
       refine Rq ?_
       have tr : ∀ a b c d e f g h i j k m n o p q r s t u v : AV, let l := lc_rrev_ok a b c d e f g h i; trim ((11,v)::(10,u)::(55,t)::(54,s)::(53,r)::(52,q)::(51,p)::(50,o)::(49,n)::(48,m)::(47,k)::(46,j)::l) l = [(0,a),(1,b),(2,c),(3,d),(4,e),(10,u),(11,v),(36,h),(39,i)] := by intros; rfl
       refine R_nil (tr ..) ?_; clear tr
       refine then_n ?_
       refine at_ret rfl ?_
       refine fpure ?_
       refine ⟨?_, rfl⟩
       first | (rw [reviseS, if_pos (by unfold revBad; omega)]) | (rw [rev_ok0 hnb, revV, if_pos (by omega)]) | (rw [rev_ok0 hnb, revV, if_neg (by omega)])

abbrev lc_par_ok (a b c d e f g h i j k m n o : AV) : Env := [(0,a),(1,b),(2,c),(3,d),(4,e),(5,f),(12,g),(13,h),(15,i),(16,j),(17,k),(28,m),(36,n),(49,o)]
theorem par_ok (lim : Nat) (H : Heap) (a b c lf e f : Int) :
    ACall sig lim 27 [AV.i a, AV.i b, AV.i c, AV.i lf, AV.i e, AV.i f] H fun r H' => r = .tup [AV.i (parS a b c lf e f).1, AV.i (parS a b c lf e f).2] ∧ H' = H := by
 refine ACall_pure (fa := fa27) rfl rfl rfl rfl ?_
 have tr : ∀ a0 a1 a2 a3 a4 a5 : AV, env0 fa27.keep [a0, a1, a2, a3, a4, a5] = [(0,a0),(1,a1),(2,a2),(3,a3),(4,a4),(5,a5),(12,.any),(13,.any),(15,.any),(16,.any),(17,.any),(28,.any),(36,.any),(49,.any)] := fun a0 a1 a2 a3 a4 a5 => rfl
 refine W_to (tr _ _ _ _ _ _) ?_; clear tr
 refine at_seq rfl ?_
 refine rg rfl ?_
 refine Rq ?_
 refine Rq ?_
 have tr : ∀ a b c d e f g h i j k m n o p q : AV, let l := lc_par_ok a b c d e f g h i j k m n o; trim ((13,q)::(12,p)::l) l = [(0,a),(1,b),(2,c),(3,d),(4,e),(5,f),(12,p),(13,q),(15,i),(16,j),(17,k),(28,m),(36,n),(49,o)] := by intros; rfl
 refine R_nil (tr ..) ?_; clear tr
 refine then_n ?_
 refine at_seq rfl ?_
 refine at_seq rfl ?_
 refine rg rfl ?_
 refine Rq ?_
 refine Rq ?_
 refine Rq ?_
 refine Rq ?_
 refine Rq ?_
 refine Rcall ?_
 refine ACall_eq (rev_ok _ _ a b c e f) ?_
 refine Rq ?_
 refine Rq ?_
 refine Rq ?_
 refine Rq ?_
 refine Rq ?_
 have tr : ∀ a b c d e f g h i j k m n o p q r s t u v w x y z : AV, let l := lc_par_ok a b c d e f g h i j k m n o; trim ((15,z)::(14,y)::(26,x)::(25,w)::(18,v)::(24,u)::(23,t)::(22,s)::(21,r)::(20,q)::(19,p)::l) l = [(0,a),(1,b),(2,c),(3,d),(4,e),(5,f),(12,g),(13,h),(15,z),(16,j),(17,k),(28,m),(36,n),(49,o)] := by intros; rfl
 refine R_nil (tr ..) ?_; clear tr
 refine then_n ?_
 refine at_seq rfl ?_
 refine rg rfl ?_
 refine Rq ?_
 refine Rq ?_
 have tr : ∀ a b c d e f g h i j k m n o p q : AV, let l := lc_par_ok a b c d e f g h i j k m n o; trim ((28,q)::(27,p)::l) l = [(0,a),(1,b),(2,c),(3,d),(4,e),(5,f),(12,g),(13,h),(15,i),(16,j),(17,k),(28,q),(36,n),(49,o)] := by intros; rfl
 refine R_nil (tr ..) ?_; clear tr
 refine then_n ?_
 refine cdd (fun h1 => ?_) (fun h1 => ?_)
 ·
  try simp only [decide_eq_true_eq, decide_eq_false_iff_not, Bool.not_eq_true', Bool.not_eq_false', beq_iff_eq, beq_eq_false_iff_ne, ne_eq] at h1
  refine at_seq rfl ?_
  refine rg rfl ?_
  refine Rq ?_
  refine Rq ?_
  refine Rq ?_
  have tr : ∀ a b c d e f g h i j k m n o p q r : AV, let l := lc_par_ok a b c d e f g h i j k m n o; trim ((13,r)::(12,q)::(29,p)::l) l = [(0,a),(1,b),(2,c),(3,d),(4,e),(5,f),(12,q),(13,r),(15,i),(16,j),(17,k),(28,m),(36,n),(49,o)] := by intros; rfl
  refine R_nil (tr ..) ?_; clear tr
  refine then_n ?_
  refine at_ret rfl ?_
  refine then_r ?_
  first | (exfalso; omega) | (refine fpure ?_; refine ⟨?_, rfl⟩; first | (rw [parS, if_pos (by assumption)]; done) | (rw [parS, if_neg (by omega), if_pos (by omega)]; done) | (rw [h2, parS, if_neg (by omega), if_neg (by omega)]; done) | (rw [parS, if_neg (by omega), if_neg (by omega)]; done))
 ·
  try simp only [decide_eq_true_eq, decide_eq_false_iff_not, Bool.not_eq_true', Bool.not_eq_false', beq_iff_eq, beq_eq_false_iff_ne, ne_eq] at h1
  refine at_skip rfl ?_
  refine then_n ?_
  refine at_seq rfl ?_
  refine at_seq rfl ?_
  refine rg rfl ?_
  refine Rq ?_
  refine Rq ?_
  refine Rq ?_
  refine Rp_split (fun h2 => ?_) (fun h2 => ?_)
  ·
   try simp only [decide_eq_true_eq, decide_eq_false_iff_not, Bool.not_eq_true', Bool.not_eq_false', beq_iff_eq, beq_eq_false_iff_ne, ne_eq] at h2
   refine Rn ?_
   refine Rn ?_
   refine Rn ?_
   refine Rq ?_
   have tr : ∀ a b c d e f g h i j k m n o p q r s t u v : AV, let l := lc_par_ok a b c d e f g h i j k m n o; trim ((36,v)::(35,u)::(34,t)::(33,s)::(32,r)::(31,q)::(30,p)::l) l = [(0,a),(1,b),(2,c),(3,d),(4,e),(5,f),(12,g),(13,h),(15,i),(16,j),(17,k),(28,m),(36,v),(49,o)] := by intros; rfl
   refine R_nil (tr ..) ?_; clear tr
   refine then_n ?_
   refine cdt ?_
   refine at_seq rfl ?_
   refine rg rfl ?_
   refine Rq ?_
   refine Rq ?_
   have tr : ∀ a b c d e f g h i j k m n o p q : AV, let l := lc_par_ok a b c d e f g h i j k m n o; trim ((13,q)::(12,p)::l) l = [(0,a),(1,b),(2,c),(3,d),(4,e),(5,f),(12,p),(13,q),(15,i),(16,j),(17,k),(28,m),(36,n),(49,o)] := by intros; rfl
   refine R_nil (tr ..) ?_; clear tr
   refine then_n ?_
   refine at_ret rfl ?_
   refine then_r ?_
   first | (exfalso; omega) | (refine fpure ?_; refine ⟨?_, rfl⟩; first | (rw [parS, if_pos (by assumption)]; done) | (rw [parS, if_neg (by omega), if_pos (by omega)]; done) | (rw [h2, parS, if_neg (by omega), if_neg (by omega)]; done) | (rw [parS, if_neg (by omega), if_neg (by omega)]; done))
  ·
   try simp only [decide_eq_true_eq, decide_eq_false_iff_not, Bool.not_eq_true', Bool.not_eq_false', beq_iff_eq, beq_eq_false_iff_ne, ne_eq] at h2
   refine Ry ?_
   refine Rq ?_
   refine Ry ?_
   refine Rq ?_
   refine Ry ?_
   refine Rq ?_
   refine Rq ?_
   have tr : ∀ a b c d e f g h i j k m n o p q r s t u v : AV, let l := lc_par_ok a b c d e f g h i j k m n o; trim ((36,v)::(35,u)::(34,t)::(33,s)::(32,r)::(31,q)::(30,p)::l) l = [(0,a),(1,b),(2,c),(3,d),(4,e),(5,f),(12,g),(13,h),(15,i),(16,j),(17,k),(28,m),(36,v),(49,o)] := by intros; rfl
   refine R_nil (tr ..) ?_; clear tr
   refine then_n ?_
   refine cdd (fun h3 => ?_) (fun h3 => ?_)
   ·
    try simp only [decide_eq_true_eq, decide_eq_false_iff_not, Bool.not_eq_true', Bool.not_eq_false', beq_iff_eq, beq_eq_false_iff_ne, ne_eq] at h3
    refine at_seq rfl ?_
    refine rg rfl ?_
    refine Rq ?_
    refine Rq ?_
    have tr : ∀ a b c d e f g h i j k m n o p q : AV, let l := lc_par_ok a b c d e f g h i j k m n o; trim ((13,q)::(12,p)::l) l = [(0,a),(1,b),(2,c),(3,d),(4,e),(5,f),(12,p),(13,q),(15,i),(16,j),(17,k),(28,m),(36,n),(49,o)] := by intros; rfl
    refine R_nil (tr ..) ?_; clear tr
    refine then_n ?_
    refine at_ret rfl ?_
    refine then_r ?_
    first | (exfalso; omega) | (refine fpure ?_; refine ⟨?_, rfl⟩; first | (rw [parS, if_pos (by assumption)]; done) | (rw [parS, if_neg (by omega), if_pos (by omega)]; done) | (rw [h2, parS, if_neg (by omega), if_neg (by omega)]; done) | (rw [parS, if_neg (by omega), if_neg (by omega)]; done))
   ·
    try simp only [decide_eq_true_eq, decide_eq_false_iff_not, Bool.not_eq_true', Bool.not_eq_false', beq_iff_eq, beq_eq_false_iff_ne, ne_eq] at h3
    refine at_skip rfl ?_
    refine then_n ?_
    refine at_seq rfl ?_
    refine rg rfl ?_
    have h0 : (reviseS a b c e f).2 = 0 := by assumption
    have hb := rev_of0 h0
    unfold revBad at hb
    have h2 := rev_less (lf := lf) h0 (by omega) (by omega)
    have hr := rev_range (a := a) (b := b) (c := c - lf) (e := e) (f := f)
    refine Rq ?_
    refine Rq ?_
    refine Rq ?_
    refine Rq ?_
    refine Rq ?_
    refine Rq ?_
    refine Rq ?_
    refine Rcall ?_
    refine ACall_eq (rev_ok _ _ a b (c - lf) e f) ?_
    refine Rq ?_
    refine Rq ?_
    refine Rq ?_
    refine Rq ?_
    refine Rq ?_
    have tr : ∀ a b c d e f g h i j k m n o p q r s t u v w x y z A B : AV, let l := lc_par_ok a b c d e f g h i j k m n o; trim ((17,B)::(16,A)::(47,z)::(46,y)::(37,x)::(45,w)::(44,v)::(43,u)::(42,t)::(41,s)::(40,r)::(39,q)::(38,p)::l) l = [(0,a),(1,b),(2,c),(3,d),(4,e),(5,f),(12,g),(13,h),(15,i),(16,A),(17,B),(28,m),(36,n),(49,o)] := by intros; rfl
    refine R_nil (tr ..) ?_; clear tr
    refine then_n ?_
    refine at_seq rfl ?_
    refine at_seq rfl ?_
    refine rg rfl ?_
    refine Rq ?_
    refine Rq ?_
    have tr : ∀ a b c d e f g h i j k m n o p q : AV, let l := lc_par_ok a b c d e f g h i j k m n o; trim ((49,q)::(48,p)::l) l = [(0,a),(1,b),(2,c),(3,d),(4,e),(5,f),(12,g),(13,h),(15,i),(16,j),(17,k),(28,m),(36,n),(49,q)] := by intros; rfl
    refine R_nil (tr ..) ?_; clear tr
    refine then_n ?_
    refine cdd (fun h4 => ?_) (fun h4 => ?_)
    ·
     try simp only [decide_eq_true_eq, decide_eq_false_iff_not, Bool.not_eq_true', Bool.not_eq_false', beq_iff_eq, beq_eq_false_iff_ne, ne_eq] at h4
     refine at_seq rfl ?_
     refine rg rfl ?_
     refine Rq ?_
     refine Rq ?_
     refine Rq ?_
     have tr : ∀ a b c d e f g h i j k m n o p q r : AV, let l := lc_par_ok a b c d e f g h i j k m n o; trim ((13,r)::(12,q)::(50,p)::l) l = [(0,a),(1,b),(2,c),(3,d),(4,e),(5,f),(12,q),(13,r),(15,i),(16,j),(17,k),(28,m),(36,n),(49,o)] := by intros; rfl
     refine R_nil (tr ..) ?_; clear tr
     refine then_n ?_
     refine at_ret rfl ?_
     refine then_r ?_
     first | (exfalso; omega) | (refine fpure ?_; refine ⟨?_, rfl⟩; first | (rw [parS, if_pos (by assumption)]; done) | (rw [parS, if_neg (by omega), if_pos (by omega)]; done) | (rw [h2, parS, if_neg (by omega), if_neg (by omega)]; done) | (rw [parS, if_neg (by omega), if_neg (by omega)]; done))
    ·
     try simp only [decide_eq_true_eq, decide_eq_false_iff_not, Bool.not_eq_true', Bool.not_eq_false', beq_iff_eq, beq_eq_false_iff_ne, ne_eq] at h4
     refine at_skip rfl ?_
     refine then_n ?_
     refine at_seq rfl ?_
     refine rg rfl ?_
     refine Rq ?_
     refine Rq ?_
     refine Rq ?_
     refine Rq ?_
     have tr : ∀ a b c d e f g h i j k m n o p q r s : AV, let l := lc_par_ok a b c d e f g h i j k m n o; trim ((13,s)::(12,r)::(52,q)::(51,p)::l) l = [(0,a),(1,b),(2,c),(3,d),(4,e),(5,f),(12,r),(13,s),(15,i),(16,j),(17,k),(28,m),(36,n),(49,o)] := by intros; rfl
     refine R_nil (tr ..) ?_; clear tr
     refine then_n ?_
     refine at_ret rfl ?_
     first | (exfalso; omega) | (refine fpure ?_; refine ⟨?_, rfl⟩; first | (rw [parS, if_pos (by assumption)]; done) | (rw [parS, if_neg (by omega), if_pos (by omega)]; done) | (rw [h2, parS, if_neg (by omega), if_neg (by omega)]; done) | (rw [parS, if_neg (by omega), if_neg (by omega)]; done))

abbrev lc_rpar_ok (a b c d e f g h i j k m n : AV) : Env := [(0,a),(1,b),(2,c),(3,d),(4,e),(5,f),(12,g),(13,h),(15,i),(16,j),(17,k),(28,m),(33,n)]
theorem rpar_ok (lim : Nat) (H : Heap) (a b c lf e f : Int) :
    ACall sig lim 28 [AV.i a, AV.i b, AV.i c, AV.i lf, AV.i e, AV.i f] H fun r H' => r = .tup [AV.i (parS a b c lf e f).1, AV.i (parS a b c lf e f).2] ∧ H' = H := by
 refine ACall_pure (fa := fa28) rfl rfl rfl rfl ?_
 have tr : ∀ a0 a1 a2 a3 a4 a5 : AV, env0 fa28.keep [a0, a1, a2, a3, a4, a5] = [(0,a0),(1,a1),(2,a2),(3,a3),(4,a4),(5,a5),(12,.any),(13,.any),(15,.any),(16,.any),(17,.any),(28,.any),(33,.any)] := fun a0 a1 a2 a3 a4 a5 => rfl
 refine W_to (tr _ _ _ _ _ _) ?_; clear tr
 refine at_seq rfl ?_
 refine rg rfl ?_
 refine Rq ?_
 refine Rq ?_
 have tr : ∀ a b c d e f g h i j k m n o p : AV, let l := lc_rpar_ok a b c d e f g h i j k m n; trim ((13,p)::(12,o)::l) l = [(0,a),(1,b),(2,c),(3,d),(4,e),(5,f),(12,o),(13,p),(15,i),(16,j),(17,k),(28,m),(33,n)] := by intros; rfl
 refine R_nil (tr ..) ?_; clear tr
 refine then_n ?_
 refine at_seq rfl ?_
 refine at_seq rfl ?_
 refine rg rfl ?_
 refine Rq ?_
 refine Rq ?_
 refine Rq ?_
 refine Rq ?_
 refine Rq ?_
 refine Rcall ?_
 refine ACall_eq (rrev_ok _ _ a b c e f) ?_
 refine Rq ?_
 refine Rq ?_
 refine Rq ?_
 refine Rq ?_
 refine Rq ?_
 have tr : ∀ a b c d e f g h i j k m n o p q r s t u v w x y : AV, let l := lc_rpar_ok a b c d e f g h i j k m n; trim ((15,y)::(14,x)::(26,w)::(25,v)::(18,u)::(24,t)::(23,s)::(22,r)::(21,q)::(20,p)::(19,o)::l) l = [(0,a),(1,b),(2,c),(3,d),(4,e),(5,f),(12,g),(13,h),(15,y),(16,j),(17,k),(28,m),(33,n)] := by intros; rfl
 refine R_nil (tr ..) ?_; clear tr
 refine then_n ?_
 refine at_seq rfl ?_
 refine rg rfl ?_
 refine Rq ?_
 refine Rq ?_
 have tr : ∀ a b c d e f g h i j k m n o p : AV, let l := lc_rpar_ok a b c d e f g h i j k m n; trim ((28,p)::(27,o)::l) l = [(0,a),(1,b),(2,c),(3,d),(4,e),(5,f),(12,g),(13,h),(15,i),(16,j),(17,k),(28,p),(33,n)] := by intros; rfl
 refine R_nil (tr ..) ?_; clear tr
 refine then_n ?_
 refine cdd (fun h1 => ?_) (fun h1 => ?_)
 ·
  try simp only [decide_eq_true_eq, decide_eq_false_iff_not, Bool.not_eq_true', Bool.not_eq_false', beq_iff_eq, beq_eq_false_iff_ne, ne_eq] at h1
  refine at_seq rfl ?_
  refine rg rfl ?_
  refine Rq ?_
  refine Rq ?_
  refine Rq ?_
  have tr : ∀ a b c d e f g h i j k m n o p q : AV, let l := lc_rpar_ok a b c d e f g h i j k m n; trim ((13,q)::(12,p)::(29,o)::l) l = [(0,a),(1,b),(2,c),(3,d),(4,e),(5,f),(12,p),(13,q),(15,i),(16,j),(17,k),(28,m),(33,n)] := by intros; rfl
  refine R_nil (tr ..) ?_; clear tr
  refine then_n ?_
  refine at_ret rfl ?_
  refine then_r ?_
  first | (exfalso; omega) | (refine fpure ?_; refine ⟨?_, rfl⟩; first | (rw [parS, if_pos (by assumption)]; done) | (rw [parS, if_neg (by omega), if_pos (by omega)]; done) | (rw [h2, parS, if_neg (by omega), if_neg (by omega)]; done) | (rw [parS, if_neg (by omega), if_neg (by omega)]; done))
 ·
  try simp only [decide_eq_true_eq, decide_eq_false_iff_not, Bool.not_eq_true', Bool.not_eq_false', beq_iff_eq, beq_eq_false_iff_ne, ne_eq] at h1
  refine at_skip rfl ?_
  refine then_n ?_
  refine at_seq rfl ?_
  refine at_seq rfl ?_
  refine rg rfl ?_
  refine Rq ?_
  refine Rq ?_
  refine Rcall ?_
  refine ACall_eq (between_ok _ _ _ _ _) ?_
  refine Rq ?_
  have tr : ∀ a b c d e f g h i j k m n o p q r : AV, let l := lc_rpar_ok a b c d e f g h i j k m n; trim ((33,r)::(32,q)::(31,p)::(30,o)::l) l = [(0,a),(1,b),(2,c),(3,d),(4,e),(5,f),(12,g),(13,h),(15,i),(16,j),(17,k),(28,m),(33,r)] := by intros; rfl
  refine R_nil (tr ..) ?_; clear tr
  refine then_n ?_
  refine cdd (fun h2 => ?_) (fun h2 => ?_)
  ·
   try simp only [decide_eq_true_eq, decide_eq_false_iff_not, Bool.not_eq_true', Bool.not_eq_false', beq_iff_eq, beq_eq_false_iff_ne, ne_eq] at h2
   refine at_seq rfl ?_
   refine rg rfl ?_
   refine Rq ?_
   refine Rq ?_
   have tr : ∀ a b c d e f g h i j k m n o p : AV, let l := lc_rpar_ok a b c d e f g h i j k m n; trim ((13,p)::(12,o)::l) l = [(0,a),(1,b),(2,c),(3,d),(4,e),(5,f),(12,o),(13,p),(15,i),(16,j),(17,k),(28,m),(33,n)] := by intros; rfl
   refine R_nil (tr ..) ?_; clear tr
   refine then_n ?_
   refine at_ret rfl ?_
   refine then_r ?_
   first | (exfalso; omega) | (refine fpure ?_; refine ⟨?_, rfl⟩; first | (rw [parS, if_pos (by assumption)]; done) | (rw [parS, if_neg (by omega), if_pos (by omega)]; done) | (rw [h2, parS, if_neg (by omega), if_neg (by omega)]; done) | (rw [parS, if_neg (by omega), if_neg (by omega)]; done))
  ·
   try simp only [decide_eq_true_eq, decide_eq_false_iff_not, Bool.not_eq_true', Bool.not_eq_false', beq_iff_eq, beq_eq_false_iff_ne, ne_eq] at h2
   refine at_skip rfl ?_
   refine then_n ?_
   refine at_seq rfl ?_
   refine rg rfl ?_
   have h0 : (reviseS a b c e f).2 = 0 := by assumption
   have hb := rev_of0 h0
   unfold revBad at hb
   have h2 := rev_less (lf := lf) h0 (by omega) (by omega)
   have hr := rev_range (a := a) (b := b) (c := c - lf) (e := e) (f := f)
   refine Rq ?_
   refine Rq ?_
   refine Rq ?_
   refine Rq ?_
   refine Rq ?_
   refine Rq ?_
   refine Rq ?_
   refine Rcall ?_
   refine ACall_eq (rrev_ok _ _ a b (c - lf) e f) ?_
   refine Rq ?_
   refine Rq ?_
   refine Rq ?_
   refine Rq ?_
   refine Rq ?_
   have tr : ∀ a b c d e f g h i j k m n o p q r s t u v w x y z A : AV, let l := lc_rpar_ok a b c d e f g h i j k m n; trim ((17,A)::(16,z)::(44,y)::(43,x)::(34,w)::(42,v)::(41,u)::(40,t)::(39,s)::(38,r)::(37,q)::(36,p)::(35,o)::l) l = [(0,a),(1,b),(2,c),(3,d),(4,e),(5,f),(12,g),(13,h),(15,i),(16,z),(17,A),(28,m),(33,n)] := by intros; rfl
   refine R_nil (tr ..) ?_; clear tr
   refine then_n ?_
   refine at_seq rfl ?_
   refine rg rfl ?_
   refine Rq ?_
   refine Rq ?_
   refine Rq ?_
   refine Rq ?_
   refine Rq ?_
   have tr : ∀ a b c d e f g h i j k m n o p q r s : AV, let l := lc_rpar_ok a b c d e f g h i j k m n; trim ((13,s)::(12,r)::(47,q)::(46,p)::(45,o)::l) l = [(0,a),(1,b),(2,c),(3,d),(4,e),(5,f),(12,r),(13,s),(15,i),(16,j),(17,k),(28,m),(33,n)] := by intros; rfl
   refine R_nil (tr ..) ?_; clear tr
   refine then_n ?_
   refine at_ret rfl ?_
   first | (exfalso; omega) | (refine fpure ?_; refine ⟨?_, rfl⟩; first | (rw [parS, if_pos (by assumption)]; done) | (rw [parS, if_neg (by omega), if_pos (by omega)]; done) | (rw [h2, parS, if_neg (by omega), if_neg (by omega)]; done) | (rw [parS, if_neg (by omega), if_neg (by omega)]; done))

end Go.Proofs.Ytaoondlakhocnaa
end
section
set_option linter.unusedSimpArgs false
set_option linter.unusedVariables false
set_option maxHeartbeats 40000000
set_option maxRecDepth 4000
namespace Go.Proofs.Ytaoondlakhocnaa
open Go Go.Am

noncomputable def resE (rows : Tb) (per balls : Int) (l m : List Stp) : Int := if (leftS rows per balls l).2 ≠ 0 then (leftS rows per balls l).2 else (leftS rows per balls m).2
noncomputable def res1 (rows : Tb) (per balls : Int) (l m : List Stp) : Int := if resE rows per balls l m = 0 then (leftS rows per balls l).1 else 0
noncomputable def res2 (rows : Tb) (per balls : Int) (l m : List Stp) : Int := if resE rows per balls l m = 0 then (leftS rows per balls m).1 else 0
noncomputable def res3 (rows : Tb) (per balls : Int) (l m : List Stp) : Int := if resE rows per balls l m = 0 then 10000 * per else 0
noncomputable def tgtS (rows : Tb) (per tot wth balls : Int) (l m : List Stp) : Int × Int :=
  if resE rows per balls l m ≠ 0 then (0, resE rows per balls l m) else reviseS tot (res1 rows per balls l m) (res2 rows per balls l m) (res3 rows per balls l m) wth
def mostS (balls : Int) (m : List Stp) : Int := if 0 < m.length then (gt m (m.length - 1)).a else balls
def leastS (m : List Stp) : Int := if 0 < m.length then (gt m (m.length - 1)).w else 0
noncomputable def patS (rows : Tb) (per tot wth balls : Int) (l m : List Stp) (n w : Int) : Int × Int :=
  if (tgtS rows per tot wth balls l m).2 ≠ 0 then (0, (tgtS rows per tot wth balls l m).2) else if (atS rows per n w).2 ≠ 0 then (0, (atS rows per n w).2) else
  if mostS balls m < n ∨ w < leastS m then (0, 8) else parS tot (res1 rows per balls l m) (res2 rows per balls l m) (atS rows per n w).1 (res3 rows per balls l m) wth
noncomputable def winS (rows : Tb) (per tot wth balls : Int) (l m : List Stp) (k n w : Int) : Int × Int :=
  if (patS rows per tot wth balls l m n w).2 ≠ 0 then (0, (patS rows per tot wth balls l m n w).2) else if k < 0 ∨ 10000 < k then (0, 2) else
  if (patS rows per tot wth balls l m n w).1 < k then (2, 0) else if k < (patS rows per tot wth balls l m n w).1 then (1, 0) else (0, 0)
theorem most_case (balls : Int) (m : List Stp) : (0 < m.length ∧ mostS balls m = (gt m (m.length - 1)).a ∧ leastS m = (gt m (m.length - 1)).w) ∨ (¬ 0 < m.length ∧ mostS balls m = balls ∧ leastS m = 0) := by
  by_cases h : 0 < m.length
  · exact .inl ⟨h, by rw [mostS, if_pos h], by rw [leastS, if_pos h]⟩
  · exact .inr ⟨h, by rw [mostS, if_neg h], by rw [leastS, if_neg h]⟩
section
variable {rows : Tb} {per tot wth balls : Int} {l m : List Stp}
theorem left_per (h : (leftS rows per balls l).2 = 0) : 1 ≤ per ∧ per ≤ 8 := by
  have c := (left_zero h).1
  exact ⟨c.per1, c.per8⟩
theorem res_a (h : (leftS rows per balls l).2 ≠ 0) : resE rows per balls l m = (leftS rows per balls l).2 ∧ res1 rows per balls l m = 0 ∧ res2 rows per balls l m = 0 ∧ res3 rows per balls l m = 0 := by
  have e : resE rows per balls l m = (leftS rows per balls l).2 := by rw [resE, if_pos h]
  exact ⟨e, by rw [res1, e, if_neg h], by rw [res2, e, if_neg h], by rw [res3, e, if_neg h]⟩
theorem res_b (h : (leftS rows per balls l).2 = 0) (h' : (leftS rows per balls m).2 ≠ 0) : resE rows per balls l m = (leftS rows per balls m).2 ∧ res1 rows per balls l m = 0 ∧ res2 rows per balls l m = 0 ∧ res3 rows per balls l m = 0 := by
  have e : resE rows per balls l m = (leftS rows per balls m).2 := by rw [resE, if_neg (fun hh => hh h)]
  exact ⟨e, by rw [res1, e, if_neg h'], by rw [res2, e, if_neg h'], by rw [res3, e, if_neg h']⟩
theorem res_c (h : (leftS rows per balls l).2 = 0) (h' : (leftS rows per balls m).2 = 0) : resE rows per balls l m = 0 ∧ res1 rows per balls l m = (leftS rows per balls l).1 ∧ res2 rows per balls l m = (leftS rows per balls m).1 ∧ res3 rows per balls l m = 10000 * per := by
  have e : resE rows per balls l m = 0 := by rw [resE, if_neg (fun hh => hh h), h']
  exact ⟨e, by rw [res1, if_pos e], by rw [res2, if_pos e], by rw [res3, if_pos e]⟩
theorem res_zero (h : resE rows per balls l m = 0) : (leftS rows per balls l).2 = 0 ∧ (leftS rows per balls m).2 = 0 := by
  unfold resE at h
  split at h
  · rename_i h1; exact absurd h h1
  · rename_i h1; exact ⟨Decidable.not_not.mp h1, h⟩
theorem res_per (h : resE rows per balls l m = 0) : 1 ≤ per ∧ per ≤ 8 := left_per (res_zero h).1
theorem tgt_E (h : (tgtS rows per tot wth balls l m).2 = 0) : resE rows per balls l m = 0 := by
  unfold tgtS at h
  split at h
  · rename_i h1; exact absurd h h1
  · rename_i h1; exact Decidable.not_not.mp h1
theorem tgt_err (h : (tgtS rows per tot wth balls l m).2 ≠ 0) : (tgtS rows per tot wth balls l m).1 = 0 := by
  unfold tgtS at h ⊢
  split
  · rfl
  · rename_i h1
    rw [if_neg h1] at h
    rw [rev_err h]
theorem tgt_zero (h : (tgtS rows per tot wth balls l m).2 = 0) : ∃ L M : Int, leftS rows per balls l = (L, 0) ∧ leftS rows per balls m = (M, 0) ∧ ¬ revBad tot L M (10000 * per) wth ∧ tgtS rows per tot wth balls l m = (revV tot L M (10000 * per) wth, 0) := by
  have hE := tgt_E h
  obtain ⟨z1, z2⟩ := res_zero hE
  obtain ⟨_, e1, e2, e3⟩ := res_c z1 z2
  have ht : tgtS rows per tot wth balls l m = reviseS tot (leftS rows per balls l).1 (leftS rows per balls m).1 (10000 * per) wth := by rw [tgtS, if_neg (fun hh => hh hE), e1, e2, e3]
  rw [ht] at h
  have hb := rev_of0 h
  exact ⟨_, _, by rw [← z1], by rw [← z2], hb, by rw [ht, rev_ok0 hb]⟩
theorem tgt_of {L M : Int} (h1 : leftS rows per balls l = (L, 0)) (h2 : leftS rows per balls m = (M, 0)) : tgtS rows per tot wth balls l m = reviseS tot L M (10000 * per) wth := by
  obtain ⟨e0, e1, e2, e3⟩ := res_c (by rw [h1]) (by rw [h2] : (leftS rows per balls m).2 = 0)
  rw [tgtS, if_neg (fun hh => hh e0), e1, e2, e3, h1, h2]
end

abbrev lc_res_ok (a b c d e f g h : AV) : Env := [(0,a),(1,b),(2,c),(3,d),(4,e),(5,f),(19,g),(34,h)]
theorem res_ok (lim : Nat) (H : Heap) (rows : Tb) (per tot wth balls : Int) (l m : List Stp) :
    ACall sig lim 50 [.agg [rowsAV rows, AV.i per, AV.i tot, AV.i wth, AV.i balls, stopsAV l, stopsAV m]] H fun r H' => r = .tup [AV.i (res1 rows per balls l m), AV.i (res2 rows per balls l m), AV.i (res3 rows per balls l m), AV.i (resE rows per balls l m)] ∧ H' = H := by
 refine ACall_pure (fa := fa50) rfl rfl rfl rfl ?_
 have tr : ∀ a0 : AV, env0 fa50.keep [a0] = [(0,a0),(1,.any),(2,.any),(3,.any),(4,.any),(5,.any),(19,.any),(34,.any)] := fun a0 => rfl
 refine W_to (tr _) ?_; clear tr
 refine at_seq rfl ?_
 refine rg rfl ?_
 refine R_box rfl (by simp (disch := first | omega | (simp only [List.length_map, List.length_append, List.length_set, List.length_cons, List.length_nil]; omega)) only [go_sem, ↓reduceIte, Nat.reduceEqDiff, reduceCtorEq] <;> rfl) rfl rfl ?_
 refine Rq ?_
 refine Rq ?_
 refine Rq ?_
 refine Rq ?_
 have tr : ∀ a b c d e f g h i j k m n : AV, let l := lc_res_ok a b c d e f g h; trim ((5,n)::(4,m)::(3,k)::(2,j)::(1,i)::l) l = [(0,a),(1,i),(2,j),(3,k),(4,m),(5,n),(19,g),(34,h)] := by intros; rfl
 refine R_nil (tr ..) ?_; clear tr
 refine then_n ?_
 refine at_seq rfl ?_
 refine rg rfl ?_
 refine Rq ?_
 refine Rq ?_
 refine Rq ?_
 refine Rq ?_
 refine Rq ?_
 refine Rq ?_
 refine Rq ?_
 refine Rq ?_
 refine Rcall ?_
 refine ACall_eq (left_ok _ _ rows per balls l) ?_
 refine Rq ?_
 refine Rq ?_
 refine Rq ?_
 refine Rq ?_
 refine Rq ?_
 have tr : ∀ a b c d e f g h i j k m n o p q r s t u v w : AV, let l := lc_res_ok a b c d e f g h; trim ((5,w)::(2,v)::(17,u)::(16,t)::(6,s)::(15,r)::(14,q)::(13,p)::(12,o)::(11,n)::(10,m)::(9,k)::(8,j)::(7,i)::l) l = [(0,a),(1,b),(2,v),(3,d),(4,e),(5,w),(19,g),(34,h)] := by intros; rfl
 refine R_nil (tr ..) ?_; clear tr
 refine then_n ?_
 refine at_seq rfl ?_
 refine at_seq rfl ?_
 refine rg rfl ?_
 refine Rq ?_
 refine Rq ?_
 have tr : ∀ a b c d e f g h i j : AV, let l := lc_res_ok a b c d e f g h; trim ((19,j)::(18,i)::l) l = [(0,a),(1,b),(2,c),(3,d),(4,e),(5,f),(19,j),(34,h)] := by intros; rfl
 refine R_nil (tr ..) ?_; clear tr
 refine then_n ?_
 refine cdd (fun h1 => ?_) (fun h1 => ?_)
 ·
  try simp only [decide_eq_true_eq, decide_eq_false_iff_not, Bool.not_eq_true', Bool.not_eq_false', beq_iff_eq, beq_eq_false_iff_ne, ne_eq] at h1
  refine at_seq rfl ?_
  refine rg rfl ?_
  refine Rq ?_
  refine Rq ?_
  refine Rq ?_
  refine Rq ?_
  refine Rq ?_
  have tr : ∀ a b c d e f g h i j k m n : AV, let l := lc_res_ok a b c d e f g h; trim ((5,n)::(4,m)::(3,k)::(2,j)::(20,i)::l) l = [(0,a),(1,b),(2,j),(3,k),(4,m),(5,n),(19,g),(34,h)] := by intros; rfl
  refine R_nil (tr ..) ?_; clear tr
  refine then_n ?_
  refine at_ret rfl ?_
  refine then_r ?_
  refine fpure ?_
  refine ⟨?_, rfl⟩
  obtain ⟨e0, e1, e2, e3⟩ := res_a (m := m) h1
  simp only [e0, e1, e2, e3]
 ·
  try simp only [decide_eq_true_eq, decide_eq_false_iff_not, Bool.not_eq_true', Bool.not_eq_false', beq_iff_eq, beq_eq_false_iff_ne, ne_eq] at h1
  refine at_skip rfl ?_
  refine then_n ?_
  refine at_seq rfl ?_
  refine rg rfl ?_
  refine Rq ?_
  refine Rq ?_
  refine Rq ?_
  refine Rq ?_
  refine Rq ?_
  refine Rq ?_
  refine Rq ?_
  refine Rq ?_
  refine Rcall ?_
  refine ACall_eq (left_ok _ _ rows per balls m) ?_
  refine Rq ?_
  refine Rq ?_
  refine Rq ?_
  refine Rq ?_
  refine Rq ?_
  have tr : ∀ a b c d e f g h i j k m n o p q r s t u v w : AV, let l := lc_res_ok a b c d e f g h; trim ((5,w)::(3,v)::(32,u)::(31,t)::(21,s)::(30,r)::(29,q)::(28,p)::(27,o)::(26,n)::(25,m)::(24,k)::(23,j)::(22,i)::l) l = [(0,a),(1,b),(2,c),(3,v),(4,e),(5,w),(19,g),(34,h)] := by intros; rfl
  refine R_nil (tr ..) ?_; clear tr
  refine then_n ?_
  refine at_seq rfl ?_
  refine at_seq rfl ?_
  refine rg rfl ?_
  refine Rq ?_
  refine Rq ?_
  have tr : ∀ a b c d e f g h i j : AV, let l := lc_res_ok a b c d e f g h; trim ((34,j)::(33,i)::l) l = [(0,a),(1,b),(2,c),(3,d),(4,e),(5,f),(19,g),(34,j)] := by intros; rfl
  refine R_nil (tr ..) ?_; clear tr
  refine then_n ?_
  refine cdd (fun h2 => ?_) (fun h2 => ?_)
  ·
   try simp only [decide_eq_true_eq, decide_eq_false_iff_not, Bool.not_eq_true', Bool.not_eq_false', beq_iff_eq, beq_eq_false_iff_ne, ne_eq] at h2
   refine at_seq rfl ?_
   refine rg rfl ?_
   refine Rq ?_
   refine Rq ?_
   refine Rq ?_
   refine Rq ?_
   refine Rq ?_
   have tr : ∀ a b c d e f g h i j k m n : AV, let l := lc_res_ok a b c d e f g h; trim ((5,n)::(4,m)::(3,k)::(2,j)::(35,i)::l) l = [(0,a),(1,b),(2,j),(3,k),(4,m),(5,n),(19,g),(34,h)] := by intros; rfl
   refine R_nil (tr ..) ?_; clear tr
   refine then_n ?_
   refine at_ret rfl ?_
   refine then_r ?_
   refine fpure ?_
   refine ⟨?_, rfl⟩
   obtain ⟨e0, e1, e2, e3⟩ := res_b h1 h2
   simp only [e0, e1, e2, e3]
  ·
   try simp only [decide_eq_true_eq, decide_eq_false_iff_not, Bool.not_eq_true', Bool.not_eq_false', beq_iff_eq, beq_eq_false_iff_ne, ne_eq] at h2
   refine at_skip rfl ?_
   refine then_n ?_
   refine at_seq rfl ?_
   refine rd rfl rfl ?_
   have hper := left_per (by assumption : (leftS rows per balls l).2 = 0)
   refine Qq ?_
   refine Qq ?_
   refine Qq ?_
   refine Qq ?_
   refine Qq ?_
   refine Qq ?_
   refine Qq ?_
   refine Qq ?_
   refine Qq ?_
   refine Q_nil ?_
   have tr : ∀ a b c d e f g h i j k m n o p q r : AV, let l := lc_res_ok a b c d e f g h; trim ((5,r)::(4,q)::(3,p)::(2,o)::(40,n)::(39,m)::(38,k)::(37,j)::(36,i)::l) l = [(0,a),(1,b),(2,o),(3,p),(4,q),(5,r),(19,g),(34,h)] := by intros; rfl
   refine R_nil (tr ..) ?_; clear tr
   refine then_n ?_
   refine at_ret rfl ?_
   refine fpure ?_
   refine ⟨?_, rfl⟩
   obtain ⟨e0, e1, e2, e3⟩ := res_c h1 h2
   simp only [e0, e1, e2, e3]

end Go.Proofs.Ytaoondlakhocnaa
end
section
set_option linter.unusedVariables false
set_option linter.unusedSimpArgs false
namespace Go.Proofs.Ytaoondlakhocnaa
open Go Go.Am
section
variable {rows : Tb} {per tot wth balls : Int} {l l2 m m2 : List Stp}
theorem res_left (h1 : leftS rows per balls l2 = leftS rows per balls l) (h2 : leftS rows per balls m2 = leftS rows per balls m) :
    resE rows per balls l2 m2 = resE rows per balls l m ∧ res1 rows per balls l2 m2 = res1 rows per balls l m ∧ res2 rows per balls l2 m2 = res2 rows per balls l m ∧ res3 rows per balls l2 m2 = res3 rows per balls l m := by
  have e : resE rows per balls l2 m2 = resE rows per balls l m := by unfold resE; rw [h1, h2]
  refine ⟨e, ?_, ?_, ?_⟩
  · unfold res1; rw [e, h1]
  · unfold res2; rw [e, h2]
  · unfold res3; rw [e]
theorem tgt_left (h1 : leftS rows per balls l2 = leftS rows per balls l) (h2 : leftS rows per balls m2 = leftS rows per balls m) : tgtS rows per tot wth balls l2 m2 = tgtS rows per tot wth balls l m := by
  obtain ⟨a, b, c, d⟩ := res_left (balls := balls) h1 h2
  unfold tgtS; rw [a, b, c, d]
theorem pat_left {n w : Int} (h1 : leftS rows per balls l2 = leftS rows per balls l) (h2 : leftS rows per balls m2 = leftS rows per balls m) (h3 : mostS balls m2 = mostS balls m) (h4 : leastS m2 = leastS m) :
    patS rows per tot wth balls l2 m2 n w = patS rows per tot wth balls l m n w := by
  obtain ⟨a, b, c, d⟩ := res_left (balls := balls) h1 h2
  unfold patS; rw [tgt_left h1 h2, h3, h4, b, c, d]
theorem last_spl {i : Nat} {t : Int} (hi : i < m.length) : mostS balls (spl m i t) = mostS balls m ∧ leastS (spl m i t) = leastS m := by
  have h0 : 0 < m.length := by omega
  have e : (gt (spl m i t) ((spl m i t).length - 1)).a = (gt m (m.length - 1)).a ∧ (gt (spl m i t) ((spl m i t).length - 1)).w = (gt m (m.length - 1)).w := by
    rw [spl_len t hi, gt_spl t hi, Nat.add_sub_cancel, if_neg (by omega), if_neg (by omega)]
    by_cases h : m.length = i + 1
    · rw [if_pos h, show m.length - 1 = i by omega]
      exact ⟨rfl, rfl⟩
    · rw [if_neg h]
      exact ⟨rfl, rfl⟩
  unfold mostS leastS
  rw [if_pos (by rw [spl_len t hi]; omega), if_pos h0, if_pos (by rw [spl_len t hi]; omega), if_pos h0]
  exact e
theorem lefts_of (h : (tgtS rows per tot wth balls l m).2 = 0) : Chk rows per balls l ∧ Chk rows per balls m := by
  obtain ⟨a, b⟩ := res_zero (tgt_E h)
  exact ⟨(left_zero a).1, (left_zero b).1⟩
theorem tgt_spl2 {i t : Int} (h : (tgtS rows per tot wth balls l m).2 = 0) (hz : splE m i t = 0) : tgtS rows per tot wth balls l (spl m i.toNat t) = tgtS rows per tot wth balls l m := tgt_left rfl (spl_left (lefts_of h).2 hz)
theorem tgt_spl1 {i t : Int} (h : (tgtS rows per tot wth balls l m).2 = 0) (hz : splE l i t = 0) : tgtS rows per tot wth balls (spl l i.toNat t) m = tgtS rows per tot wth balls l m := tgt_left (spl_left (lefts_of h).1 hz) rfl
theorem pat_spl2 {i t n w : Int} (h : (tgtS rows per tot wth balls l m).2 = 0) (hz : splE m i t = 0) : patS rows per tot wth balls l (spl m i.toNat t) n w = patS rows per tot wth balls l m n w :=
  pat_left rfl (spl_left (lefts_of h).2 hz) (last_spl (split_of hz).2.1).1 (last_spl (balls := balls) (split_of hz).2.1).2
theorem pat_spl1 {i t n w : Int} (h : (tgtS rows per tot wth balls l m).2 = 0) (hz : splE l i t = 0) : patS rows per tot wth balls (spl l i.toNat t) m n w = patS rows per tot wth balls l m n w :=
  pat_left (spl_left (lefts_of h).1 hz) rfl rfl rfl
end
end Go.Proofs.Ytaoondlakhocnaa
end
