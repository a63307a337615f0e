/-
  Rows of appointments as cells; what slicing leaves.
-/
import Derived.Test.YtcnleglfdnhagaaLp
import Derived.Test.YtcnleglfdnhagaaLSig
import Derived.Test.YtcnleglfdnhagaaLA
set_option linter.unusedVariables false
set_option linter.unusedSimpArgs false
namespace Go.Proofs.Ytcnleglfdnhagaa.L
open Go Go.Am
theorem flatC_len (l : List Ap) : (flatC l).length = l.length * 3 := rec_len (f := apC) (z := 3) (fun _ => rfl) l
theorem ld_ap (l : List Ap) (u : Nat) (h : u < l.length) : partL { size := 3, bytes := 40, agg := true, k := .struct [(0, 3), (1, 9), (2, 9)], zero := some [.int .i64 0, .string ⟨#[]⟩, .string ⟨#[]⟩] } (flatC l) (u * 3) = some (.agg (apC (gt l u))) := by
  rw [pl30 _ _ (by rw [flatC_len]; omega)]
  exact congrArg (fun z => some (AV.agg z)) (rec_cut (f := apC) (z := 3) (fun _ => rfl) l u h)
theorem flatD1 (l : List Du) (u : Nat) (h : u < l.length) : (flatD l)[u * 4 + 1]? = some (AV.i (gt l u).dy) := rec_get (f := duC) (z := 4) (fun _ => rfl) l u 1 h (by omega)
theorem flatD2 (l : List Du) (u : Nat) (h : u < l.length) : (flatD l)[u * 4 + 2]? = some (.v (.string (gt l u).ho)) := rec_get (f := duC) (z := 4) (fun _ => rfl) l u 2 h (by omega)
theorem flatD3 (l : List Du) (u : Nat) (h : u < l.length) : (flatD l)[u * 4 + 3]? = some (.v (.string (gt l u).aw)) := rec_get (f := duC) (z := 4) (fun _ => rfl) l u 3 h (by omega)
attribute [go_sem] ld_ap flatD1 flatD2 flatD3
theorem cut22 (n : Nat) (l : List AV) (k : Nat) (h : k ≤ n) : sliceV Try.prog 22 (.sl n l) none (some (AV.i (k : Int))) = some (.sl k l) := by
  simp only [sliceV, tk22, ty32, bound]
  rw [if_pos (by omega)]
  simp
theorem cut23 (n : Nat) (l : List AV) (k : Nat) (h : k ≤ n) : sliceV Try.prog 23 (.sl n l) none (some (AV.i (k : Int))) = some (.sl k l) := by
  simp only [sliceV, tk23, ty35, bound]
  rw [if_pos (by omega)]
  simp
theorem cut24 (n : Nat) (l : List AV) (k : Nat) (h : k ≤ n) : sliceV Try.prog 24 (.sl n l) none (some (AV.i (k : Int))) = some (.sl k l) := by
  simp only [sliceV, tk24, ty30, bound]
  rw [if_pos (by omega)]
  simp
theorem gt_tk {α : Type} [Inhabited α] {l : List α} {k i : Nat} (hi : i < k) (hk : k ≤ l.length) : gt (l.take k) i = gt l i := by
  rw [gt_eq _ _ (by simp; omega), gt_eq _ _ (by omega), List.getElem_take]
theorem cont5 (lim : Nat) (H : Heap) (l : List Int) (v : Int) (hl : l.length ≤ 1000000) (b : Bool) (hb : l.contains v = b) : ACall sig lim 5 [intsAV l, AV.i v] H fun r H' => r = .v (.bool b) ∧ H' = H :=
  ACall_prim rfl (cont_eq hl) ⟨by rw [hb], rfl⟩
/-- Who may stand, counted. -/
def ableL (NS : List Int) (l : List Du) (us : List Um) (k v : Nat) : Nat := ((List.range v).filter fun w => decide (0 ≤ fidx (fun u => qB NS (gt us w) (gt l u)) k)).length
theorem able_y {NS : List Int} {l : List Du} {us : List Um} {k v : Nat} (h : 0 ≤ fidx (fun u => qB NS (gt us v) (gt l u)) k) : ableL NS l us k (v + 1) = ableL NS l us k v + 1 := by
  unfold ableL
  rw [List.range_succ, List.filter_append, List.length_append]
  simp [h]
theorem able_n {NS : List Int} {l : List Du} {us : List Um} {k v : Nat} (h : ¬ 0 ≤ fidx (fun u => qB NS (gt us v) (gt l u)) k) : ableL NS l us k (v + 1) = ableL NS l us k v := by
  unfold ableL
  rw [List.range_succ, List.filter_append, List.length_append]
  simp [h]
theorem able_le (NS : List Int) (l : List Du) (us : List Um) (k v : Nat) : ableL NS l us k v ≤ v := by
  unfold ableL
  refine Nat.le_trans (List.length_filter_le _ _) ?_
  simp
/-- The law's facts at the rows as they came in. -/
structure LawK (l : List Du) (us : List Um) (k k2 : Nat) (O : List Ap) (NS : List Int) (E : Int) : Prop where
  len : E = 0 → O.length = k ∧ NS = []
  mt : E = 0 → ∀ i, i < k → (gt O i).mt = (gt l i).mt
  ne : E = 0 → ∀ i, i < k → ¬ (gt O i).one.toList = (gt O i).two.toList
  st : E = 0 → ∀ i, i < k → ∀ u, u < k2 → (gt us u).nm.toList = (gt O i).one.toList ∨ (gt us u).nm.toList = (gt O i).two.toList → (gt us u).ds.contains (gt l i).dy = true ∧ ¬ (gt us u).tm.toList = (gt l i).ho.toList ∧ ¬ (gt us u).tm.toList = (gt l i).aw.toList
  dj : E = 0 → ∀ i, i < k → ∀ a, a < i → (gt l a).dy = (gt l i).dy → ¬ (gt O a).one.toList = (gt O i).one.toList ∧ ¬ (gt O a).two.toList = (gt O i).two.toList ∧ ¬ (gt O a).one.toList = (gt O i).two.toList ∧ ¬ (gt O a).two.toList = (gt O i).one.toList
  able : E = 13 → O = [] ∧ ableL NS l us k k2 < 2 * NS.length
  nl : NS.length ≤ k
  ds : E = 0 ∨ E = 13 → ∀ u, u < k2 → (gt us u).ds.length ≤ 400
  err : ¬ E = 0 → ¬ E = 13 → ckS (l.take k) (us.take k2) = E
theorem fidx_congr {p q : Nat → Bool} {n : Nat} (h : ∀ u, u < n → p u = q u) : fidx p n = fidx q n := by
  rcases fidx_some (p := p) (n := n) with ⟨e, hp⟩ | ⟨v, hv, e, hp, hlt⟩
  · rw [e, fidx_miss (Nat.le_refl n) fun k hk => (h k hk).symm.trans (hp k hk)]
  · rw [e, fidx_hit hv (fun k hk => (h k (by omega)).symm.trans (hlt k hk)) ((h v hv).symm.trans hp)]
theorem law_k {l : List Du} {us : List Um} {k k2 : Nat} (hk : k ≤ l.length) (hk2 : k2 ≤ us.length) : LawK l us k k2 (appO (l.take k) (us.take k2)) (appN (l.take k) (us.take k2)) (appE (l.take k) (us.take k2)) := by
  have h := law_ok (l.take k) (us.take k2)
  have h1 : (l.take k).length = k := by simp; omega
  have h2 : (us.take k2).length = k2 := by simp; omega
  refine ⟨fun e => by have := h.len e; rw [h1] at this; exact this, fun e i hi => ?_, fun e i hi => ?_, fun e i hi u hu hn => ?_, fun e i hi a ha hd => ?_, fun e => ?_, by have := h.nl; rw [h1] at this; exact this, fun e u hu => ?_, fun e e2 => e_err e e2⟩
  · rw [h.mt e i (by omega), gt_tk hi hk]
  · exact h.ne e i (by omega)
  · have := h.st e i (by omega) u (by omega)
    rw [gt_tk hu hk2, gt_tk hi hk] at this
    exact this hn
  · have := h.dj e i (by omega) a ha
    rw [gt_tk hi hk, gt_tk (show a < k by omega) hk] at this
    exact this hd
  · obtain ⟨h3, h4⟩ := h.able e
    refine ⟨h3, ?_⟩
    rw [h1, h2] at h4
    unfold ableL
    refine Nat.lt_of_le_of_lt (Nat.le_of_eq ?_) h4
    congr 1
    apply List.filter_congr
    intro v hv
    have hv2 := List.mem_range.1 hv
    rw [gt_tk hv2 hk2]
    congr 2
    exact fidx_congr fun u hu => by rw [gt_tk hu hk]
  · have := h.ds e u
    rw [gt_tk hu hk2] at this
    exact this
end Go.Proofs.Ytcnleglfdnhagaa.L
