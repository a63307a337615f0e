/-
  What solve does to the table.
-/
import Derived.Test.YtmkalakojfpfgaaWA
import Derived.Test.YtmkalakojfpfgaaWB
set_option linter.unusedVariables false
namespace Go.Proofs.Ytmkalakojfpfgaa
open Go Go.Am
/-- The table grows: what is known stays. -/
structure TabUp (rows : Tb) (q : Int) (bk : Nat) (K : List Int) (H : Heap) (K' : List Int) (H' : Heap) : Prop where
  mem : hget H' bk = some (K'.map AV.i)
  ok : TabOK rows q (gt rows 0).length K'
  up : ∀ i, gt K i ≠ -2 → gt K' i = gt K i
  len : H.length ≤ H'.length
  old : ∀ b, b < H.length → b ≠ bk → hget H' b = hget H b
theorem TabUp.refl {rows : Tb} {q : Int} {bk : Nat} {K : List Int} {H : Heap} (h : hget H bk = some (K.map AV.i)) (t : TabOK rows q (gt rows 0).length K) : TabUp rows q bk K H K H := ⟨h, t, fun _ _ => rfl, Nat.le_refl _, fun _ _ _ => rfl⟩
theorem TabUp.trans {rows : Tb} {q : Int} {bk : Nat} {K K' K'' : List Int} {H H' H'' : Heap} (a : TabUp rows q bk K H K' H') (b : TabUp rows q bk K' H' K'' H'') : TabUp rows q bk K H K'' H'' :=
  ⟨b.mem, b.ok, fun i hi => by rw [b.up i (by rw [a.up i hi]; exact hi), a.up i hi], Nat.le_trans a.len b.len, fun c hc hn => (b.old c (Nat.lt_of_lt_of_le hc a.len) hn).trans (a.old c hc hn)⟩
theorem TabUp.new {rows : Tb} {q : Int} {bk : Nat} {K K' : List Int} {H H' H'' : Heap} {k : Blk} (a : TabUp rows q bk K H K' H') (n : MNew H' H'' k) : TabUp rows q bk K H K' H'' :=
  ⟨(n.old _ (hget_lt a.mem)).trans a.mem, a.ok, a.up, by have := a.len; have := n.len; omega, fun c hc hn => (n.old c (Nat.lt_of_lt_of_le hc a.len)).trans (a.old c hc hn)⟩
theorem TabUp.set {rows : Tb} {q la0 : Int} (g : Good rows q la0) {bk : Nat} {K K' : List Int} {H H' H'' : Heap} {c : List Int} {la : Int} (st : StOK q (gt rows 0).length c la) (a : TabUp rows q bk K H K' H')
    (w : MWrote H' bk H'' ((K'.set (idxS q (gt rows 0).length c la).toNat (pot rows q (gt rows 0).length c la)).map AV.i)) :
    TabUp rows q bk K H (K'.set (idxS q (gt rows 0).length c la).toNat (pot rows q (gt rows 0).length c la)) H'' ∧
      gt (K'.set (idxS q (gt rows 0).length c la).toNat (pot rows q (gt rows 0).length c la)) (idxS q (gt rows 0).length c la).toNat = pot rows q (gt rows 0).length c la := by
  have hq0 : 0 ≤ q := by have := g.q1; omega
  have hi := idx_rng hq0 st
  have hl := a.ok.len
  have hk := potK_idx (rows := rows) hq0 st
  have hs : ∀ i, gt (K'.set (idxS q (gt rows 0).length c la).toNat (pot rows q (gt rows 0).length c la)) i = if (idxS q (gt rows 0).length c la).toNat = i then pot rows q (gt rows 0).length c la else gt K' i := fun i => gt_set _ _ _ _ (by omega)
  refine ⟨⟨w.new, ⟨by rw [List.length_set]; exact hl, fun i hi2 => ?_⟩, fun i hi2 => ?_, by rw [w.len]; exact a.len, fun b hb hn => (w.old b hn).trans (a.old b hb hn)⟩, by rw [hs, if_pos rfl]⟩
  · rw [hs]
    rw [List.length_set] at hi2
    by_cases e : (idxS q (gt rows 0).length c la).toNat = i
    · rw [if_pos e, ← hk, show (i : Int) = idxS q (gt rows 0).length c la by omega]; exact .inr rfl
    · rw [if_neg e]; exact a.ok.val i hi2
  · rw [hs]
    by_cases e : (idxS q (gt rows 0).length c la).toNat = i
    · rw [if_pos e]
      have h1 := a.up i hi2
      have hlt : i < K'.length := by omega
      rcases a.ok.val i hlt with h2 | h2
      · rw [h1] at h2; exact absurd h2 hi2
      · rw [← h1, h2, show (i : Int) = idxS q (gt rows 0).length c la by omega, hk]
    · rw [if_neg e]; exact a.up i hi2
def SolveAt (rows : Tb) (q la0 : Int) (k : Nat) : Prop := ∀ (lim : Nat) (H : Heap) (bk N : Nat) (K : List Int) (c : List Int) (la : Int), StOK q (gt rows 0).length c la → lim ≤ bk → hget H bk = some (K.map AV.i) → TabOK rows q (gt rows 0).length K → N = K.length → ((rows.length : Int) - sumL c).toNat = k →
  ACall sig lim 24 [.agg [rowsAV rows, AV.i q, AV.i la0], .agg [intsAV c, AV.i la], .own 1 bk 0 N] H fun r H' => r = AV.i (pot rows q (gt rows 0).length c la) ∧ ∃ K', TabUp rows q bk K H K' H' ∧ gt K' (idxS q (gt rows 0).length c la).toNat = pot rows q (gt rows 0).length c la
end Go.Proofs.Ytmkalakojfpfgaa
