/-
  Interruptions that follow one another at once, made one: nothing more and nothing less is lost. Plain proofs.
-/
import Derived.Test.YtaoondlakhocnaaB
import Derived.Test.YtaoondlakhocnaaV
set_option linter.unusedVariables false
namespace Go.Proofs.Ytaoondlakhocnaa
open Go Go.Am

def jst (o : List Stp) (x : Stp) : List Stp :=
  if 0 < o.length ∧ (gt o (o.length - 1)).a = x.b ∧ (gt o (o.length - 1)).w = x.w then o.set (o.length - 1) ⟨(gt o (o.length - 1)).b, x.a, (gt o (o.length - 1)).w⟩ else o ++ [x]
def jn (l : List Stp) : Nat → List Stp
  | 0 => []
  | u + 1 => jst (jn l u) (gt l u)
theorem gt_snoc (p : List Stp) (s : Stp) : gt (p ++ [s]) p.length = s := by simp [gt, List.getD_eq_getElem?_getD]
theorem jst_len (o : List Stp) (x : Stp) : o.length ≤ (jst o x).length ∧ (jst o x).length ≤ o.length + 1 := by
  unfold jst
  split
  · rw [List.length_set]; omega
  · simp
theorem jn_len (l : List Stp) : ∀ u, (jn l u).length ≤ u
  | 0 => Nat.le_refl _
  | u + 1 => by
    have h1 := jn_len l u
    have h2 := jst_len (jn l u) (gt l u)
    rw [jn]; omega
theorem jst_nil (x : Stp) : jst [] x = [x] := by unfold jst; rw [if_neg (by simp)]; rfl
theorem jst_snoc (p : List Stp) (s x : Stp) : jst (p ++ [s]) x = if s.a = x.b ∧ s.w = x.w then p ++ [⟨s.b, x.a, s.w⟩] else p ++ [s] ++ [x] := by
  have e : (p ++ [s]).length - 1 = p.length := by simp
  unfold jst
  rw [e, gt_snoc]
  by_cases h : s.a = x.b ∧ s.w = x.w
  · rw [if_pos ⟨by simp, h⟩, if_pos h]; simp
  · rw [if_neg (fun hh => h hh.2), if_neg h]
def dsum (l : List Stp) : Nat → Int
  | 0 => 0
  | u + 1 => dsum l u + ((gt l u).b - (gt l u).a)
theorem dsum_app {l : List Stp} {s : Stp} : ∀ n, n ≤ l.length → dsum (l ++ [s]) n = dsum l n
  | 0, _ => rfl
  | n + 1, h => by rw [dsum, dsum, dsum_app n (by omega), gt_app _ _ _ (by omega)]
def stopOK (rows : Tb) (balls : Int) (l : List Stp) (i : Nat) : Prop :=
  (gt l i).b ≤ balls ∧ 0 ≤ (gt l i).a ∧ 0 ≤ (gt l i).w ∧ (gt l i).w ≤ (gt rows 0).length ∧ (gt l i).a ≤ (gt l i).b ∧ (0 < i → (gt l i).b ≤ (gt l (i - 1)).a ∧ (gt l (i - 1)).w ≤ (gt l i).w)
theorem stopOK_app {rows : Tb} {balls : Int} {p : List Stp} {s : Stp} {i : Nat} (hi : i < p.length) : stopOK rows balls (p ++ [s]) i ↔ stopOK rows balls p i := by
  unfold stopOK
  rw [gt_app _ _ _ hi, gt_app _ _ _ (show i - 1 < p.length by omega)]
structure JI (rows : Tb) (per balls : Int) (l : List Stp) (u : Nat) : Prop where
  sh : u = 0 ∧ jn l u = [] ∨ ∃ p s, jn l u = p ++ [s] ∧ 0 < u ∧ s.a = (gt l (u - 1)).a ∧ s.w = (gt l (u - 1)).w
  stop : ∀ i, i < (jn l u).length → stopOK rows balls (jn l u) i
  sum : lsum rows per (jn l u) (jn l u).length = lsum rows per l u
  dif : dsum (jn l u) (jn l u).length = dsum l u
theorem lost_of {rows : Tb} {per balls : Int} {l : List Stp} (c : Chk rows per balls l) {s : Stp} (h : s.b ≤ balls ∧ 0 ≤ s.a ∧ 0 ≤ s.w ∧ s.w ≤ (gt rows 0).length ∧ s.a ≤ s.b) :
    (lostS rows per s).1 = (atS rows per s.b s.w).1 - (atS rows per s.a s.w).1 := by
  have h1 := c.per1
  have h2 := c.per8
  have h3 := c.b1
  have h4 := c.bmax
  rw [lostS, if_neg (fun hh => hh (at_err c.tab (by unfold atBad; omega))), if_neg (fun hh => hh (at_err c.tab (by unfold atBad; omega))), if_neg (by omega)]
theorem join_inv {rows : Tb} {per balls : Int} {l : List Stp} (c : Chk rows per balls l) : ∀ u, u ≤ l.length → JI rows per balls l u
  | 0, _ => ⟨.inl ⟨rfl, rfl⟩, fun i hi => by simp [jn] at hi, rfl, rfl⟩
  | u + 1, h => by
    obtain ⟨sh, st, sm, df⟩ := join_inv c u (by omega)
    have cu := c.stop u (by omega)
    have lu := c.lost0 (i := u) (by omega)
    rcases sh with ⟨hu, e⟩ | ⟨p, s, e, hu, ha, hw⟩
    · subst hu
      have e1 : jn l 1 = [gt l 0] := by rw [jn, e, jst_nil]
      refine ⟨.inr ⟨[], gt l 0, e1, by omega, rfl, rfl⟩, fun i hi => ?_, ?_, ?_⟩
      · rw [e1] at hi ⊢
        have : i = 0 := by simp at hi; omega
        subst this
        exact ⟨cu.1, cu.2.1, cu.2.2.1, cu.2.2.2.1, cu.2.2.2.2.1, fun h0 => by omega⟩
      · rw [e1]; rfl
      · rw [e1]; rfl
    · have cp := c.stop (u - 1) (by omega)
      have cuo := cu.2.2.2.2.2 hu
      rw [e] at st sm df
      have hpl : (p ++ [s]).length = p.length + 1 := by simp
      have ss := st p.length (by omega)
      unfold stopOK at ss
      rw [gt_snoc] at ss
      rw [hpl, lsum, gt_snoc] at sm
      rw [hpl, dsum, gt_snoc] at df
      rw [lsum_app _ (Nat.le_refl _)] at sm
      rw [dsum_app _ (Nat.le_refl _)] at df
      have ls := lost_of c (s := s) ⟨ss.1, ss.2.1, ss.2.2.1, ss.2.2.2.1, ss.2.2.2.2.1⟩
      by_cases hj : s.a = (gt l u).b ∧ s.w = (gt l u).w
      · have e1 : jn l (u + 1) = p ++ [⟨s.b, (gt l u).a, s.w⟩] := by rw [jn, e, jst_snoc, if_pos hj]
        have hpl2 : (p ++ [(⟨s.b, (gt l u).a, s.w⟩ : Stp)]).length = p.length + 1 := by simp
        have ln := lost_of c (s := ⟨s.b, (gt l u).a, s.w⟩) ⟨ss.1, cu.2.1, ss.2.2.1, ss.2.2.2.1, by show (gt l u).a ≤ s.b; omega⟩
        refine ⟨.inr ⟨p, _, e1, by omega, rfl, hj.2⟩, fun i hi => ?_, ?_, ?_⟩
        · rw [e1, hpl2] at hi
          rw [e1]
          by_cases hi2 : i < p.length
          · exact (stopOK_app hi2).2 ((stopOK_app hi2).1 (st i (by omega)))
          · have : i = p.length := by omega
            subst this
            unfold stopOK
            rw [gt_snoc]
            refine ⟨ss.1, cu.2.1, ss.2.2.1, ss.2.2.2.1, by show (gt l u).a ≤ s.b; omega, fun h0 => ?_⟩
            have := ss.2.2.2.2.2 h0
            rw [gt_app _ _ _ (by omega)] at this ⊢
            exact this
        · rw [e1, hpl2, lsum, gt_snoc, lsum_app _ (Nat.le_refl _), lsum, lu, ln]
          simp only []
          rw [← hj.1, ← hj.2]
          omega
        · rw [e1, hpl2, dsum, gt_snoc, dsum_app _ (Nat.le_refl _), dsum]
          simp only []
          omega
      · have e1 : jn l (u + 1) = p ++ [s] ++ [gt l u] := by rw [jn, e, jst_snoc, if_neg hj]
        have hpl2 : (p ++ [s] ++ [gt l u]).length = p.length + 1 + 1 := by simp
        refine ⟨.inr ⟨p ++ [s], _, e1, by omega, rfl, rfl⟩, fun i hi => ?_, ?_, ?_⟩
        · rw [e1, hpl2] at hi
          rw [e1]
          by_cases hi2 : i < (p ++ [s]).length
          · exact (stopOK_app hi2).2 (st i hi2)
          · have : i = (p ++ [s]).length := by omega
            subst this
            unfold stopOK
            rw [gt_snoc]
            refine ⟨cu.1, cu.2.1, cu.2.2.1, cu.2.2.2.1, cu.2.2.2.2.1, fun h0 => ?_⟩
            rw [gt_app _ _ _ (by omega), show (p ++ [s]).length - 1 = p.length by omega, gt_snoc]
            omega
        · rw [e1, hpl2, lsum, ← hpl, gt_snoc, lsum_app _ (Nat.le_refl _), hpl, lsum, gt_snoc, lsum_app _ (Nat.le_refl _), lsum]
          omega
        · rw [e1, hpl2, dsum, ← hpl, gt_snoc, dsum_app _ (Nat.le_refl _), hpl, dsum, gt_snoc, dsum_app _ (Nat.le_refl _), dsum]
          omega
theorem join_chk {rows : Tb} {per balls : Int} {l : List Stp} (c : Chk rows per balls l) : Chk rows per balls (jn l l.length) := by
  have J := join_inv c l.length (Nat.le_refl _)
  have := jn_len l l.length
  have := c.most
  exact ⟨c.tab, c.per1, c.per8, c.b1, c.bmax, by omega, fun i hi => J.stop i hi⟩
def bOut (n : Int) : Prop := n < 0 ∨ 2147483648 < n
instance (n : Int) : Decidable (bOut n) := by unfold bOut; infer_instance
open Classical in
noncomputable def ballsS (balls : Int) (l : List Stp) : Int :=
  if bOut balls ∨ 20 < l.length then 0 else if ∃ i, i < l.length ∧ (bOut (gt l i).b ∨ bOut (gt l i).a) then 0 else max (balls - dsum l l.length) 0
theorem balls_a {balls : Int} {l : List Stp} (h : bOut balls ∨ 20 < l.length) : ballsS balls l = 0 := by rw [ballsS, if_pos h]
theorem balls_b {balls : Int} {l : List Stp} {i : Nat} (hi : i < l.length) (h : bOut (gt l i).b ∨ bOut (gt l i).a) : ballsS balls l = 0 := by
  unfold ballsS
  split
  · rfl
  · rw [if_pos ⟨i, hi, h⟩]
theorem balls_c {balls : Int} {l : List Stp} (h : ¬ (bOut balls ∨ 20 < l.length)) (h2 : ∀ i, i < l.length → ¬ (bOut (gt l i).b ∨ bOut (gt l i).a)) : ballsS balls l = max (balls - dsum l l.length) 0 := by
  rw [ballsS, if_neg h, if_neg (fun ⟨i, hi, hh⟩ => h2 i hi hh)]
theorem dsum_rng {l : List Stp} : ∀ u, (∀ i, i < u → ¬ (bOut (gt l i).b ∨ bOut (gt l i).a)) → -(2147483648 * (u : Int)) ≤ dsum l u ∧ dsum l u ≤ 2147483648 * u
  | 0, _ => by rw [dsum]; omega
  | u + 1, h => by
    have ih := dsum_rng u fun i hi => h i (by omega)
    have := h u (by omega)
    unfold bOut at this
    rw [dsum]; omega
theorem join_balls {rows : Tb} {per balls : Int} {l : List Stp} (c : Chk rows per balls l) (hr : rows.length ≤ 1000) : ballsS balls (jn l l.length) = ballsS balls l := by
  have J := join_inv c l.length (Nat.le_refl _)
  have c2 := join_chk c
  have h1 := c.per1
  have h2 := c.per8
  have h3 := c.b1
  have h4 := c.bmax
  have h5 : ((rows.length : Int) - 1) * per ≤ 1000 * 8 := by
    by_cases h0 : 0 ≤ (rows.length : Int) - 1
    · exact Int.mul_le_mul (by omega) h2 (by omega) (by omega)
    · have : ((rows.length : Int) - 1) * per ≤ 0 := Int.mul_nonpos_of_nonpos_of_nonneg (by omega) (by omega)
      omega
  have key : ∀ m, Chk rows per balls m → ballsS balls m = max (balls - dsum m m.length) 0 := fun m cm => by
    refine balls_c (by have := cm.most; unfold bOut; omega) fun i hi => ?_
    have := cm.stop i hi
    unfold bOut; omega
  rw [key _ c2, key _ c, J.dif]
theorem left_of {rows : Tb} {per balls : Int} {l : List Stp} (c : Chk rows per balls l) : leftS rows per balls l = ((atS rows per balls 0).1 - lsum rows per l l.length, 0) := by
  have h := of_chk c
  rw [leftS, if_neg (fun hh => hh h)]
theorem join_left {rows : Tb} {per balls : Int} {l : List Stp} (c : Chk rows per balls l) : leftS rows per balls (jn l l.length) = leftS rows per balls l := by
  rw [left_of (join_chk c), left_of c, (join_inv c l.length (Nat.le_refl _)).sum]
/-- Interruptions as they are gathered: none yet, or a block. -/
def OutS (lo : Nat) (H : Heap) (o : AV) (w : List Stp) : Prop := (w = [] ∧ o = .v (.slice none 0 0)) ∨ (w ≠ [] ∧ ∃ b, o = .own 3 b 0 w.length ∧ lo ≤ b ∧ hget H b = some (flatS w))
theorem OutS.mono {lo : Nat} {H H' : Heap} {o : AV} {w : List Stp} (h : OutS lo H o w) (hh : ∀ b, lo ≤ b → ∀ k, hget H b = some k → hget H' b = some k) : OutS lo H' o w := by
  rcases h with h | ⟨h0, b, h1, h2, h3⟩
  · exact .inl h
  · exact .inr ⟨h0, b, h1, h2, hh b h2 _ h3⟩
theorem OutS.lt {lo b : Nat} {H : Heap} {o : AV} {w : List Stp} (h : OutS lo H o w) (ho : o = .own 3 b 0 w.length) : b < H.length := by
  rcases h with ⟨_, h⟩ | ⟨_, b', h1, _, h3⟩
  · rw [h] at ho; cases ho
  · rw [h1] at ho; cases ho; exact hget_lt h3
theorem OutS.len {lo : Nat} {H : Heap} {o : AV} {w : List Stp} (h : OutS lo H o w) : lenV (tyOf Try.prog 25) o = some (AV.i (w.length : Nat)) := by
  rcases h with ⟨rfl, rfl⟩ | ⟨h0, b, rfl, _⟩
  · simp only [lenV, ty25, kOf, Option.map_some]; rfl
  · simp only [lenV, ty25, kOf, Option.map_some]
theorem outS_append {lim lo hi : Nat} {H : Heap} {o : AV} {w : List Stp} {s : Stp} {b' : Nat} (h : OutS lo H o w) (hob : ∀ b, o = .own 3 b 0 w.length → b < hi) (hc : hget H b' = some (stC s)) (hl : lim ≤ lo) (hlo : lo ≤ H.length) (hw : w.length ≤ 100000) :
    ∃ b, lo ≤ b ∧ (b < hi ∨ b = H.length) ∧ ∃ H', appendV Try.prog lim H 25 o (.own 3 b' 0 1) = some (.own 3 H.length 0 (w.length + 1), H') ∧ MGrew H b H' (flatS (w ++ [s])) := by
  rcases h with ⟨rfl, rfl⟩ | ⟨h0, b, rfl, h2, h3⟩
  · refine ⟨H.length, hlo, .inr rfl, _, ?_, MGrew.ofNew _ (MNew.of _ _)⟩
    simp only [appendV, tk25, ty56, srcCells, hc]
    rw [if_pos (by simp)]
    simp only [List.length_cons, List.length_nil]
    rw [if_pos ⟨trivial, by decide, rfl⟩]
    rw [if_pos ⟨by omega, by omega⟩]
    rfl
  · refine ⟨b, h2, .inl (hob b rfl), _, ?_, MGrew.of _ _ _⟩
    have := app25s (lim := lim) h3 hc (by omega) (by omega)
    exact this
end Go.Proofs.Ytaoondlakhocnaa
