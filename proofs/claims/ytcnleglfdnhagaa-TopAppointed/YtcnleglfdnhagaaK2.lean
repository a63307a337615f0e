/-
  A map with integer keys, as a function.
  What the shelf says of some of the library's functions, at this program. Written by the shelf's own tools (lay-shelf, lay-plain), cut to what is used (shcut.py).
  A region that draws its order: its first k operations only read (in every world that meets S they yield the same values); those from k to n come in one forced order and keep S; those from n on come behind all of these. One walk in the text's order serves every order.
  Appoint's own memory: the duties of each day behind a map, the days. Plain lemmas on worlds.
-/
import Derived.Test.YtcnleglfdnhagaaGa
import Derived.Maps.OwnOps
import Derived.Maps.AppendAt
import Derived.Maps.Views
import Derived.Shelf.SortG.Plain
import Derived.Shelf.SortG.SortNone
import Derived.Test.YtcnleglfdnhagaaProg
import Derived.OrdersHeld
import Derived.StillTail
import Derived.Test.YtcnleglfdnhagaaAmQ
import Derived.Sort.OwnSortedInts
import Derived.WalkKit
section
set_option linter.unusedVariables false
namespace Go.Proofs.Ytcnleglfdnhagaa
open Go Go.Am Go.Maps
abbrev Rv (v : Value) : Option (DataW Value × List MemPlace) := some (.held v, [])
/-- Block b of w is a map of at most n entries that holds f, z where nothing was put. -/
def MapF (w : World) (k : TypeId) (z : Value) (b n : Nat) (f : Int → Value) : Prop :=
  ∃ D, w.ownsMap Try.prog k Rv b n D ∧ IsMap D ∧ ∀ x, D.atKey (.int .i64 x) (.held z) = .held (f x)
theorem mapF_made (w : World) (k : TypeId) (z : Value) : MapF (w.alloc (.map #[] 0)) k z w.heap.size 0 fun _ => z :=
  ⟨_, World.ownsMap_made w Try.prog k Rv, isMap_empty, fun x => rfl⟩
theorem MapF.kept {w w' : World} {k : TypeId} {z : Value} {b n : Nat} {f : Int → Value} {row : Option Nat} (h : MapF w k z b n f) (hg : w.grownBy w' row) (hne : some b ≠ row) : MapF w' k z b n f := by
  obtain ⟨D, h1, h2, h3⟩ := h
  exact ⟨D, h1.kept hg hne, h2, h3⟩
theorem MapF.lt {w : World} {k : TypeId} {z : Value} {b n : Nat} {f : Int → Value} (h : MapF w k z b n f) : b < w.heap.size := by
  obtain ⟨D, h1, _⟩ := h
  exact h1.lt
theorem MapF.block {w w' : World} {k : TypeId} {z : Value} {b n : Nat} {f : Int → Value} (h : MapF w k z b n f) (hb : w'.heap[b]? = w.heap[b]?) : MapF w' k z b n f := by
  obtain ⟨D, ⟨es, clock, h1, h2⟩, h3⟩ := h
  exact ⟨D, ⟨es, clock, hb.trans h1, h2⟩, h3⟩
theorem MapF.nocells {w : World} {k : TypeId} {z : Value} {b n : Nat} {f : Int → Value} (h : MapF w k z b n f) : ∀ C T y, w.heap[b]? ≠ some (.cells C T y) := fun C T y e => by
  obtain ⟨D, ⟨es, clock, h1, _⟩, _⟩ := h
  rw [h1] at e
  cases e
theorem MapF.mono {w : World} {k : TypeId} {z : Value} {b n n' : Nat} {f : Int → Value} (h : MapF w k z b n f) (hn : n ≤ n') : MapF w k z b n' f := by
  obtain ⟨D, h1, h2⟩ := h
  exact ⟨D, h1.mono hn, h2⟩
theorem mapF_lookup {w : World} {t k e : TypeId} {z : Value} {b n : Nat} {f : Int → Value} (h : MapF w k z b n f) (hk : Try.prog.underlying k = some (.int .i64)) (ht : Try.prog.underlying t = some (.map k e)) (hz : (zeroValue e).run Try.prog w = .ok z w)
    {x : Int} (hx : (Lit.int .i64 x).wf = true) : (Instr.lookup t (.map (some b)) (.int .i64 x) false).run Try.prog w = .ok (f x) w := by
  obtain ⟨D, h1, _, h3⟩ := h
  obtain ⟨v, ps, hr, hv⟩ := h1.lookup (int_keyed hk) ht hz (zd := .held z) (zp := []) rfl (keyOf_int_mk hk hx)
  rw [h3 x] at hv
  have : v = f x ∧ ps = [] := by simpa [Rv] using hv
  rw [← this.1]; exact hr
def updM (f : Int → Value) (x : Int) (v : Value) : Int → Value := fun y => if y = x then v else f y
theorem updM_same (f : Int → Value) (x : Int) (v : Value) : updM f x v x = v := if_pos rfl
theorem updM_other (f : Int → Value) {x y : Int} (v : Value) (h : y ≠ x) : updM f x v y = f y := if_neg h
theorem mapF_store {w : World} {t k e : TypeId} {z : Value} {b n : Nat} {f : Int → Value} (h : MapF w k z b n f) (hk : Try.prog.underlying k = some (.int .i64)) (ht : Try.prog.underlying t = some (.map k e)) (hn : n < maxLen)
    {x : Int} (hx : (Lit.int .i64 x).wf = true) (v : Value) : ∃ w', (Instr.mapUpdate t (.map (some b)) (.int .i64 x) v).run Try.prog w = .ok () w' ∧ MapF w' k z b (n + 1) (updM f x v) ∧ w.grownBy w' (some b) := by
  obtain ⟨D, h1, h2, h3⟩ := h
  obtain ⟨w', hr, h4, h5⟩ := h1.update (int_keyed hk) ht hn (keyOf_int_mk hk hx) (show Rv v = some (.held v, []) from rfl)
  refine ⟨w', hr, ⟨_, h4, h2.put _ _, fun y => ?_⟩, h5⟩
  by_cases hy : y = x
  · subst hy
    rw [updM_same]
    exact atKey_put_same (k := .int .i64 y) h2 trivial _ _
  · rw [updM_other _ _ hy, ← h3 y]
    exact atKey_put_other (fun e => hy (by cases e; rfl)) _ _
/-- At the operations. -/
theorem wp_lookF (w : World) {ops : Array Oper} {rest : List Oper} {o : Oper} {a : Act} {Q : Exit → Act → World → Prop}
    (hg : o.guard = none) (m x : Operand) (t k e : TypeId) (hop : o.op = Op.lookup t m x false) (hk : Try.prog.underlying k = some (.int .i64)) (ht : Try.prog.underlying t = some (.map k e)) (z : Value) (hz : (zeroValue e).run Try.prog w = .ok z w)
    (b n : Nat) (f : Int → Value) (hm : a.eval m = .map (some b)) (h : MapF w k z b n f) (y : Int) (hy : a.eval x = .int .i64 y) (hw : (Lit.int .i64 y).wf = true)
    (hK : wpList Try.prog ops Q rest (a.put o.dst (f y)) w) : wpList Try.prog ops Q (o :: rest) a w := by
  refine wpList_plain hg fun K' hK' => ?_
  have hrun := mapF_lookup h hk ht hz hw
  unfold Oper.wp
  simp [execOp, hop, hm, hy, hrun, Result.andThen]
  exact hK' _ _ hK
theorem wp_storeF (w : World) {ops : Array Oper} {rest : List Oper} {o : Oper} {a : Act} {Q : Exit → Act → World → Prop}
    (hg : o.guard = none) (m x v : Operand) (t k e : TypeId) (hop : o.op = Op.mapUpdate t m x v) (hk : Try.prog.underlying k = some (.int .i64)) (ht : Try.prog.underlying t = some (.map k e)) (z : Value)
    (b n : Nat) (f : Int → Value) (hm : a.eval m = .map (some b)) (h : MapF w k z b n f) (hn : n < maxLen) (y : Int) (hy : a.eval x = .int .i64 y) (hw : (Lit.int .i64 y).wf = true) (val : Value) (hv : a.eval v = val)
    (hK : ∀ w', MapF w' k z b (n + 1) (updM f y val) → w.grownBy w' (some b) → wpList Try.prog ops Q rest (a.put o.dst undef) w') : wpList Try.prog ops Q (o :: rest) a w := by
  refine wpList_plain hg fun K' hK' => ?_
  obtain ⟨w', hrun, h1, h2⟩ := mapF_store h hk ht hn hw val
  unfold Oper.wp
  simp [execOp, hop, hm, hy, hv, hrun, Result.andThen]
  exact hK' _ _ (hK w' h1 h2)
end Go.Proofs.Ytcnleglfdnhagaa
end
section
namespace Go.Proofs
open Go.Shelf
def Try.sortI_ren : Go.Shelf.Ren := ⟨fun | 53 => 10 | 64 => 21 | 63 => 20 | 78 => 38 | 79 => 39 | 70 => 29 | 71 => 30 | 72 => 31 | 73 => 32 | 74 => 33 | 75 => 34 | 59 => 35 | 76 => 36 | 77 => 37 | 88 => 41 | 89 => 42 | 90 => 43 | 91 => 44 | 92 => 45 | 68 => 46 | 96 => 47 | n => n, fun | 22 => 33 | 23 => 2 | 3 => 3 | 51 => 58 | 0 => 0 | 67 => 79 | 69 => 81 | 4 => 4 | 61 => 71 | 60 => 70 | 44 => 76 | 5 => 5 | 9 => 9 | 75 => 84 | 79 => 88 | 83 => 90 | 84 => 91 | n => n, fun | n => n⟩
theorem Try.sortI : Go.Proofs.SlLaysN.n53 Try.prog Try.sortI_ren := {
  mixed := by kernel_rfl
  f53 := ⟨Try.f10.name, by decide, Try.func10.trans (congrArg some (by kernel_rfl))⟩
  f59 := ⟨Try.f35.name, by decide, Try.func35.trans (congrArg some (by kernel_rfl))⟩
  f63 := ⟨Try.f20.name, by decide, Try.func20.trans (congrArg some (by kernel_rfl))⟩
  f64 := Try.func21.trans (congrArg some (by kernel_rfl))
  f68 := ⟨Try.f46.name, by decide, Try.func46.trans (congrArg some (by kernel_rfl))⟩
  f70 := ⟨Try.f29.name, by decide, Try.func29.trans (congrArg some (by kernel_rfl))⟩
  f71 := ⟨Try.f30.name, by decide, Try.func30.trans (congrArg some (by kernel_rfl))⟩
  f72 := ⟨Try.f31.name, by decide, Try.func31.trans (congrArg some (by kernel_rfl))⟩
  f73 := ⟨Try.f32.name, by decide, Try.func32.trans (congrArg some (by kernel_rfl))⟩
  f74 := ⟨Try.f33.name, by decide, Try.func33.trans (congrArg some (by kernel_rfl))⟩
  f75 := ⟨Try.f34.name, by decide, Try.func34.trans (congrArg some (by kernel_rfl))⟩
  f76 := ⟨Try.f36.name, by decide, Try.func36.trans (congrArg some (by kernel_rfl))⟩
  f77 := ⟨Try.f37.name, by decide, Try.func37.trans (congrArg some (by kernel_rfl))⟩
  f78 := Try.func38.trans (congrArg some (by kernel_rfl))
  f79 := Try.func39.trans (congrArg some (by kernel_rfl))
  f88 := ⟨Try.f41.name, by decide, Try.func41.trans (congrArg some (by kernel_rfl))⟩
  f89 := Try.func42.trans (congrArg some (by kernel_rfl))
  f90 := Try.func43.trans (congrArg some (by kernel_rfl))
  f91 := ⟨Try.f44.name, by decide, Try.func44.trans (congrArg some (by kernel_rfl))⟩
  f92 := ⟨Try.f45.name, by decide, Try.func45.trans (congrArg some (by kernel_rfl))⟩
  f96 := ⟨Try.f47.name, by decide, Try.func47.trans (congrArg some (by kernel_rfl))⟩
  t0 := Try.underlying0
  a0 := Try.isAgg0
  z0 := Try.sizeOf0
  v0 := Try.zeroValue0
  t3 := Try.underlying3
  a3 := Try.isAgg3
  z3 := Try.sizeOf3
  v3 := Try.zeroValue3
  t4 := Try.underlying4
  a4 := Try.isAgg4
  z4 := Try.sizeOf4
  v4 := Try.zeroValue4
  t5 := Try.underlying5
  a5 := Try.isAgg5
  z5 := Try.sizeOf5
  v5 := Try.zeroValue5
  t9 := Try.underlying9
  a9 := Try.isAgg9
  z9 := Try.sizeOf9
  v9 := Try.zeroValue9
  t22 := Try.underlying33
  a22 := Try.isAgg33
  z22 := Try.sizeOf33
  v22 := Try.zeroValue33
  t23 := Try.underlying2
  a23 := Try.isAgg2
  z23 := Try.sizeOf2
  v23 := Try.zeroValue2
  t44 := Try.underlying76
  a44 := Try.isAgg76
  z44 := Try.sizeOf76
  v44 := Try.zeroValue76
  t51 := Try.underlying58
  a51 := Try.isAgg58
  z51 := Try.sizeOf58
  v51 := Try.zeroValue58
  t60 := Try.underlying70
  a60 := Try.isAgg70
  z60 := Try.sizeOf70
  v60 := Try.zeroValue70
  t61 := Try.underlying71
  a61 := Try.isAgg71
  z61 := Try.sizeOf71
  v61 := Try.zeroValue71
  t67 := Try.underlying79
  a67 := Try.isAgg79
  z67 := Try.sizeOf79
  v67 := Try.zeroValue79
  t69 := Try.underlying81
  a69 := Try.isAgg81
  z69 := Try.sizeOf81
  v69 := Try.zeroValue81
  t75 := Try.underlying84
  a75 := Try.isAgg84
  z75 := Try.sizeOf84
  v75 := Try.zeroValue84
  t79 := Try.underlying88
  a79 := Try.isAgg88
  z79 := Try.sizeOf88
  v79 := Try.zeroValue88
  t83 := Try.underlying90
  a83 := Try.isAgg90
  z83 := Try.sizeOf90
  v83 := Try.zeroValue90
  t84 := Try.underlying91
  a84 := Try.isAgg91
  z84 := Try.sizeOf91
  v84 := Try.zeroValue91 }
end Go.Proofs
end
section
set_option linter.unusedVariables false
namespace Go.Am
open Go
section
variable {P : Program} {ops : Array Oper} {md : Region.Mode} {S : World → Prop} {Q : Exit → Act → World → Prop}
/-- K at the end, Q where there is no room, no other way out. -/
def NK (K : Act → World → Prop) (Q : Exit → Act → World → Prop) : Exit → Act → World → Prop
  | .normal, a, w => K a w
  | .outgrown, a, w => Q .outgrown a w
  | _, _, _ => False
theorem nk_out {K : Act → World → Prop} (h : LetsOut (NK K Q)) : LetsOut Q := h
theorem oper_nk {K K' : Act → World → Prop} {o : Oper} {a : Act} {w : World} (hh : o.wp P a w K (NK K' Q)) : o.wp P a w K Q := by
  unfold Oper.wp at *
  generalize (execOp a.eval o).run P w = r at *
  cases r with
  | ok n w' =>
    cases n <;> simp only [Oper.upon] at hh ⊢ <;>
      first
        | exact hh
        | exact Calls.mono hh (fun e w'' he => by cases e <;> first | exact he | exact he.elim)
  | halt x w' => cases x <;> simp only [Oper.upon] at hh ⊢ <;> exact hh.elim
def headH (P : Program) (md : Region.Mode) (ops : Array Oper) (Q : Exit → Act → World → Prop) (S : World → Prop) (n : Nat) (L : Array Bool → Act → World → Prop) : Nat → Array Bool → Act → World → Prop
  | 0, listed, a, w => L listed a w
  | f + 1, listed, a, w => Region.ready md ops listed ≠ [] ∧ ∀ i ∈ Region.ready md ops listed, i < n ∧ wpOp P ops Q i (fun a' w' => S w' ∧ headH P md ops Q S n L f (listed.setIfInBounds i true) a' w') a w
theorem any_of_headH {n g : Nat} {L : Array Bool → Act → World → Prop} (hL : ∀ listed a w, L listed a w → wpAny P md ops Q g listed a w) :
    ∀ (f : Nat) (listed : Array Bool) (a : Act) (w : World), headH P md ops Q S n L f listed a w → wpAny P md ops Q (f + g) listed a w := by
  intro f
  induction f with
  | zero => intro listed a w h; rw [Nat.zero_add]; exact hL _ _ _ h
  | succ f ih =>
    intro listed a w h
    rw [show f + 1 + g = (f + g) + 1 by omega]
    exact ⟨fun h0 => (h.1 h0).elim, fun i hi => wpOp_mono (fun a' w' h' => ih _ a' w' h'.2) (h.2 i hi).2⟩
theorem headH_first {n i : Nat} {oi : Oper} {v : Value} {L : Array Bool → Act → World → Prop} (hi : ops[i]? = some oi) (hsel : ∀ (j : Nat) (o : Oper) cs b, ops[j]? = some o → o.op ≠ .select cs b)
    (hQ : ∀ c a w, Q (.panic c) (a.put oi.dst v) w → Q (.panic c) a w)
    (hs : Region.sinkB md ops n = true) (hc : Region.chainB md ops n = true) (hn : n < ops.size) (hin : i < n) (hdone : ∀ listed a w, L listed a w → ∀ j ∈ Region.ready md ops listed, n ≤ j) :
    ∀ (f : Nat) (listed : Array Bool) (a : Act) (w : World), HeadInv md ops n listed →
      (∀ j oj, ops[j]? = some oj → j ≠ i → listed.getD j true = false → (∀ e ∈ oj.after, Region.binds md e = true → e.on ≠ i) → oi.apart ops oj = true) →
      i ∈ Region.ready md ops listed → YieldsIf P ops S oi v a → S w →
      headH P md ops Q S n L f (listed.setIfInBounds i true) (a.put oi.dst v) w → headH P md ops Q S n L (f + 1) listed a w := by
  intro f
  induction f with
  | zero =>
    intro listed a w inv _ hr hy hS H
    have hun := (mem_ready.1 hr).1
    constructor
    · intro h; rw [h] at hr; cases hr
    intro j hj
    have hjn : j < n := Nat.lt_of_not_le fun h => tail_waits hs hc hn inv _ i rfl hin hun j h hj
    by_cases hji : j = i
    · subst hji; exact ⟨hjn, hy.wpOp hi hS ⟨hS, H⟩⟩
    · exact absurd (hdone _ _ _ H j (ready_mono hj hji)) (by omega)
  | succ f ih =>
    intro listed a w inv hfree hr hy hS H
    have hun := (mem_ready.1 hr).1
    constructor
    · intro h; rw [h] at hr; cases hr
    intro j hj
    have hjn : j < n := Nat.lt_of_not_le fun h => tail_waits hs hc hn inv _ i rfl hin hun j h hj
    by_cases hji : j = i
    · subst hji; exact ⟨hjn, hy.wpOp hi hS ⟨hS, H⟩⟩
    obtain ⟨hjun, oj, hoj, hall⟩ := mem_ready.1 hj
    have hnot : ∀ e ∈ oj.after, Region.binds md e = true → e.on ≠ i := by
      intro e he hb heq
      have h1 := hall e he hb
      rw [heq, getD_both hun] at h1
      cases h1
    have hswap := wpOp_putIf hoj (hfree j oj hoj hji hjun hnot) (fun cs b => hsel i oi cs b hi) (fun cs b => hsel j oj cs b hoj) hQ hy (H.2 j (ready_mono hj hji)).2
    refine ⟨hjn, wpOp_mono (fun a' w' h3 => ⟨h3.2.1, ?_⟩) hswap⟩
    refine ih (listed.setIfInBounds j true) a' w' (inv.set hj hjn) (fun k ok hk hki hku hno => hfree k ok hk hki ?_ hno) (ready_mono hr (Ne.symm hji)) h3.1 h3.2.1 ?_
    · by_cases hjk : j = k
      · subst hjk; exact hjun
      · rwa [getD_set_ne true hjk] at hku
    · rw [Array.setIfInBounds_comm _ _ hji]
      exact h3.2.2
/-- Operations that only read, one by one. -/
def wpLead (P : Program) (ops : Array Oper) (S : World → Prop) (K : Act → Prop) : List Oper → Act → Prop
  | [], a => K a
  | o :: l, a => ∃ v, YieldsIf P ops S o v a ∧ wpLead P ops S K l (a.put o.dst v)
/-- Operations in a forced order that keep S. -/
def wpMid (P : Program) (ops : Array Oper) (Q : Exit → Act → World → Prop) (S : World → Prop) (K : Act → World → Prop) : List Oper → Act → World → Prop
  | [], a, w => K a w
  | o :: l, a, w => wpList P ops (NK (fun a' w' => S w' ∧ wpMid P ops Q S K l a' w') Q) [o] a w
theorem wpOp_of_mid {k : Nat} {o : Oper} {K : Act → World → Prop} {a : Act} {w : World} (h0 : ops[k]? = some o) (h : wpList P ops (NK K Q) [o] a w) : wpOp P ops Q k K a w := by
  unfold wpOp
  simp only [h0]
  unfold wpList at h
  split
  · rename_i hw
    rw [if_pos hw] at h
    rcases h with h | ⟨h1, h2⟩
    · exact .inl (oper_nk (Oper.wp_mono (fun a' w' h' => h') h))
    · exact .inr ⟨h1, nk_out h2⟩
  · rename_i hw
    rw [if_neg hw] at h
    exact h
theorem headH_mid {n g : Nat} {K : Act → World → Prop} : ∀ (l : List Oper) (k : Nat) (listed : Array Bool) (a : Act) (w : World), (∀ j, j < l.length → l[j]? = ops[k + j]?) → k + l.length = n →
    Region.seqB md ops (l.length + g) k listed = true → wpMid P ops Q S K l a w → headH P md ops Q S n (fun listed' a' w' => Region.seqB md ops g n listed' = true ∧ K a' w') l.length listed a w := by
  intro l
  induction l with
  | nil =>
    intro k listed a w _ hk hB h
    have : k = n := by simpa using hk
    subst this
    exact ⟨by simpa using hB, h⟩
  | cons o l ih =>
    intro k listed a w hl hk hB h
    have h0 : ops[k]? = some o := by simpa using (hl 0 (by simp)).symm
    have hB' : Region.seqB md ops (l.length + g + 1) k listed = true := by rw [show l.length + g + 1 = (o :: l).length + g by simp; omega]; exact hB
    simp only [Region.seqB, Bool.and_eq_true, decide_eq_true_eq] at hB'
    simp only [List.length_cons] at hk ⊢
    refine ⟨fun h1 => (by rw [hB'.1] at h1; cases h1), fun i hi => ?_⟩
    rw [hB'.1] at hi
    have hik : i = k := by simpa using hi
    subst hik
    refine ⟨by omega, wpOp_mono (fun a' w' h' => ⟨h'.1, ?_⟩) (wpOp_of_mid h0 h)⟩
    exact ih (i + 1) _ a' w' (fun j hj => by have := hl (j + 1) (by simp; omega); simpa [Nat.add_assoc, Nat.add_comm 1 j] using this) (by omega) hB'.2 h'.2
theorem headH_lead {n g : Nat} {K : Act → World → Prop} (hsel : Region.noSelect ops = true) (hQ : ∀ c a w, ¬ Q (.panic c) a w) (hs : Region.sinkB md ops n = true) (hc : Region.chainB md ops n = true) (hn : n < ops.size) {m : List Oper} {w : World} (hS : S w) (hm : ∀ j, j < m.length → m[j]? = ops[n - m.length + j]?) :
    ∀ (l : List Oper) (k : Nat) (listed : Array Bool) (a : Act), (∀ j, j < l.length → l[j]? = ops[k + j]?) → k + l.length + m.length = n → HeadInv md ops n listed →
      Region.lexHead md ops (m.length + g) l.length k listed = true → wpLead P ops S (fun a' => wpMid P ops Q S K m a' w) l a → headH P md ops Q S n (fun listed' a' w' => Region.seqB md ops g n listed' = true ∧ K a' w') (l.length + m.length) listed a w := by
  intro l
  induction l with
  | nil =>
    intro k listed a _ hk _ hB h
    have : k = n - m.length := by simp at hk; omega
    subst this
    rw [List.length_nil, Nat.zero_add]
    exact headH_mid m _ listed a w hm (by simp at hk; omega) (by simpa [Region.lexHead] using hB) h
  | cons o l ih =>
    intro k listed a hl hk inv hB h
    have h0 : ops[k]? = some o := by simpa using (hl 0 (by simp)).symm
    simp only [List.length_cons, Region.lexHead, Bool.and_eq_true] at hB
    obtain ⟨⟨hr, hf⟩, hB'⟩ := hB
    simp only [List.length_cons] at hk
    have hkn : k < n := by omega
    have hr' : k ∈ Region.ready md ops listed := by simpa using hr
    obtain ⟨v, hy, hK⟩ := h
    rw [show (o :: l).length + m.length = (l.length + m.length) + 1 by simp; omega]
    refine headH_first h0 (Region.noSelect_spec hsel) (fun c a w h => absurd h (hQ c _ _)) hs hc hn hkn (fun listed' a' w' hL => seqB_ready hL.1) _ listed a w inv (Region.free_spec h0 hf) hr' hy hS ?_
    refine ih (k + 1) _ _ (fun j hj => ?_) (by omega) (inv.set hr' hkn) hB' hK
    have := hl (j + 1) (by simp; omega)
    simpa [Nat.add_assoc, Nat.add_comm 1 j] using this
def Region.leadB (md : Region.Mode) (ops : Array Oper) (k n : Nat) : Bool :=
  Region.noSelect ops && decide (k ≤ n) && decide (n < ops.size) && Region.sinkB md ops n && Region.chainB md ops n && Region.lexHead md ops (ops.size - k) k 0 (Array.replicate ops.size false)
theorem region_lead {id : Nat} {a : Act} {w : World} (S : World → Prop) (k n : Nat) (hm : P.follows .mixedOrders = true) (hB : Region.leadB .any ops k n = true) (hS : S { w with drawn := w.drawn + 1 })
    (h : wpLead P ops S (fun a' => wpMid P ops (NK (Q .normal) Q) S (wpList P ops (NK (Q .normal) Q) (ops.toList.drop n)) ((ops.toList.drop k).take (n - k)) a' { w with drawn := w.drawn + 1 }) (ops.toList.take k) a) : (Code.region id ops true).wp P Q a w := by
  simp only [Region.leadB, Bool.and_eq_true, decide_eq_true_eq] at hB
  obtain ⟨⟨⟨⟨⟨hsel, hkn⟩, hn⟩, hs⟩, hc⟩, hlex⟩ := hB
  have hsz : ops.toList.length = ops.size := by simp
  have htl : (ops.toList.take k).length = k := by simp; omega
  have hml : ((ops.toList.drop k).take (n - k)).length = n - k := by simp; omega
  have hdl : (ops.toList.drop n).length = ops.size - n := by simp
  have inv0 : HeadInv .any ops n (Array.replicate ops.size false) :=
    ⟨by simp, fun j oj _ hl => (by rw [getD_replicate_false] at hl; cases hl), fun t _ ht => getD_in (by simpa using ht) (getD_replicate_false _ _)⟩
  have H := headH_lead (md := .any) (g := ops.size - n) (Q := NK (Q .normal) Q) hsel (fun c a w h => h) hs hc hn hS (m := (ops.toList.drop k).take (n - k)) (fun j hj => by
    rw [hml] at hj ⊢
    rw [List.getElem?_take, if_pos hj, List.getElem?_drop, show n - (n - k) + j = k + j by omega]
    simp) (ops.toList.take k) 0 _ a (fun j hj => by
    have hj' : j < k := by rw [htl] at hj; exact hj
    simp [hj']) (by rw [htl, hml]; omega) inv0 (by rw [htl, hml, show n - k + (ops.size - n) = ops.size - k by omega]; exact hlex) h
  refine Code.wp_mono (Q := NK (Q .normal) Q) (fun e a w q => by cases e <;> first | exact q | exact q.elim) (wp_region_any hm ?_)
  have H' := any_of_headH (Q := NK (Q .normal) Q) (g := ops.size - n) (fun listed a' w' hL => by
    have := wpAny_of_seq (md := .any) (Q' := NK (Q .normal) Q) (ops.toList.drop n) n listed a' w' (fun j => by simp [List.getElem?_drop]) (by rw [hdl]; exact hL.1) hL.2
    rwa [hdl] at this) _ _ _ _ H
  rw [htl, hml, show k + (n - k) + (ops.size - n) = ops.size by omega] at H'
  exact H'
/-! ### Steps -/
theorem lead_nil {K : Act → Prop} {a : Act} (h : K a) : wpLead P ops S K [] a := h
theorem lead_move {K : Act → Prop} {a : Act} {o : Oper} {l : List Oper} (x : Operand) (hg : o.guard = none) (ho : o.op = .move x) (h : wpLead P ops S K l (a.put o.dst (a.eval x))) : wpLead P ops S K (o :: l) a :=
  ⟨_, .inl ⟨by simp [Region.wanted, hg], fun w _ => by simp [execOp, ho]⟩, h⟩
theorem lead_run {K : Act → Prop} {a : Act} {o : Oper} {l : List Oper} (v : Value) (hg : o.guard = none) (hr : ∀ w, S w → (execOp a.eval o).run P w = .ok (.value v) w) (h : wpLead P ops S K l (a.put o.dst v)) : wpLead P ops S K (o :: l) a :=
  ⟨_, .inl ⟨by simp [Region.wanted, hg], hr⟩, h⟩
theorem mid_nil {K : Act → World → Prop} {a : Act} {w : World} (h : K a w) : wpMid P ops Q S K [] a w := h
theorem mid_cons {K : Act → World → Prop} {a : Act} {w : World} {o : Oper} {l : List Oper} (h : wpList P ops (NK (fun a' w' => S w' ∧ wpMid P ops Q S K l a' w') Q) [o] a w) : wpMid P ops Q S K (o :: l) a w := h
end
end Go.Am
end
section
set_option linter.unusedVariables false
namespace Go.Proofs.Ytcnleglfdnhagaa
open Go Go.Am Go.Maps Go.RowKit
abbrev nilV : Value := .slice none 0 0
abbrev encI : Int → Value := Value.int .i64
abbrev duV (x : Du) : List Value := [.int .i64 x.mt, .int .i64 x.dy, .string x.ho, .string x.aw]
def flatVD (l : List Du) : List Value := (l.map duV).flatten
theorem flatVD_len (l : List Du) : (flatVD l).length = l.length * 4 := by
  unfold flatVD
  induction l with
  | nil => rfl
  | cons x l ih => rw [List.map_cons, List.flatten_cons, List.length_append, ih]; simp; omega
theorem flatVD_snoc (l : List Du) (x : Du) : flatVD (l ++ [x]) = flatVD l ++ duV x := by simp [flatVD]
theorem flatD_V : ∀ l : List Du, flatD l = (flatVD l).map AV.v
  | [] => rfl
  | x :: l => by
    have h := flatD_V l
    unfold flatD flatVD at h ⊢
    rw [List.map_cons, List.flatten_cons, List.map_cons, List.flatten_cons, List.map_append, h]
    rfl
theorem flatVD_at (l : List Du) (u k : Nat) (hu : u < l.length) (hk : k < 4) : (flatVD l)[u * 4 + k]? = (duV (gt l u))[k]? := by
  have h := rec_get (f := duC) (z := 4) (fun _ => rfl) l u k hu hk
  rw [show (l.map duC).flatten = flatD l from rfl, flatD_V, List.getElem?_map] at h
  have h2 : (duC (gt l u))[k]? = ((duV (gt l u))[k]?).map AV.v := by
    rw [← List.getElem?_map]; rfl
  rw [h2] at h
  have inj : ∀ a b : Option Value, a.map AV.v = b.map AV.v → a = b := fun a b hh => by
    cases a <;> cases b <;> simp at hh <;> first | rfl | exact congrArg some hh
  exact inj _ _ h
/-! ### Slices as data -/
theorem sl_of {φ : Phi} {I : Nat → Prop} {w : World} {n : Nat} {l : List AV} {v : Value} (h : Den φ I w (.sl n l) v) :
    ∃ p c, v = .slice p n c ∧ n ≤ c ∧ c ≤ maxLen ∧ (0 < n → ∃ b o, p = some ⟨b, o, none⟩ ∧ I b ∧ ∃ Y : Nat → Value, (∀ (j : Nat) (x : AV), l[j]? = some x → w.cell? ⟨b, o + j, none⟩ = some (Y j)) ∧ ∀ (j : Nat) (x : AV), l[j]? = some x → Den φ I w x (Y j)) := by
  cases h with
  | sl0 l p => exact ⟨_, _, rfl, Nat.le_refl _, Nat.zero_le _, fun h => absurd h (Nat.lt_irrefl _)⟩
  | sl n l c a Y hn hc ha hI hY hD =>
    obtain ⟨b, o, s⟩ := a
    obtain rfl : s = none := ha
    exact ⟨_, _, rfl, hn, hc, fun _ => ⟨b, o, rfl, hI, Y, hY, hD⟩⟩
/-- A slice of plain cells that came in. -/
def LaidV (w : World) (vs : List Value) (n : Nat) (v : Value) : Prop :=
  ∃ p c, v = .slice p n c ∧ n ≤ c ∧ (0 < n → ∃ b o, p = some ⟨b, o, none⟩ ∧ b < w.heap.size ∧ ∀ j x, vs[j]? = some x → w.cell? ⟨b, o + j, none⟩ = some x)
theorem laid_of {φ : Phi} {I : Nat → Prop} {w : World} {n : Nat} {vs : List Value} {v : Value} (hI : ∀ k, I k → k < w.heap.size) (h : Den φ I w (.sl n (vs.map AV.v)) v) : LaidV w vs n v := by
  obtain ⟨p, c, rfl, hc, hcm, hp⟩ := sl_of h
  refine ⟨p, c, rfl, hc, fun h0 => ?_⟩
  obtain ⟨b, o, rfl, hb, Y, hY, hD⟩ := hp h0
  refine ⟨b, o, rfl, hI b hb, fun j x hx => ?_⟩
  have hj : (vs.map AV.v)[j]? = some (.v x) := by rw [List.getElem?_map, hx]; rfl
  rw [hY j _ hj, den_v (hD j _ hj)]
theorem cell_below {B : Nat} {w w' : World} (hb : Below B w w') {b o : Nat} (h : b < B) : w'.cell? ⟨b, o, none⟩ = w.cell? ⟨b, o, none⟩ := by
  unfold World.cell?
  rw [hb.block b h]
theorem LaidV.below {w w' : World} {vs : List Value} {n : Nat} {v : Value} (h : LaidV w vs n v) (hb : Below w.heap.size w w') : LaidV w' vs n v := by
  obtain ⟨p, c, h1, h2, h3⟩ := h
  refine ⟨p, c, h1, h2, fun h0 => ?_⟩
  obtain ⟨b, o, h4, h5, h6⟩ := h3 h0
  exact ⟨b, o, h4, Nat.lt_of_lt_of_le h5 hb.size, fun j x hx => (cell_below hb h5).trans (h6 j x hx)⟩
theorem den_own {φ : Phi} {I : Nat → Prop} {w : World} {B : Nat} {e : TypeId} {z : Nat} {v : Value} {n : Nat} {xs : List Value} (h : w.ownsRow B e z v n xs) (hI : ∀ k, v.ownBlock = some k → I k) : Den φ I w (.sl n (xs.map AV.v)) v := by
  rcases h.2 with ⟨rfl, rfl⟩ | ⟨g, cap, cur, rfl, hg, hh, hn, hc, hs, ht⟩
  · exact .sl0 _ _
  · refine .sl n _ cap ⟨g, 0, none⟩ (fun j => xs.getD j undef) hn hc rfl (hI g rfl) (fun j x hx => ?_) fun j x hx => ?_
    · rw [List.getElem?_map, Option.map_eq_some_iff] at hx
      obtain ⟨y, hy, rfl⟩ := hx
      have := h.cells (g := g) rfl j y hy
      rw [addr_add _ _ rfl] at this
      rw [this, List.getD_eq_getElem?_getD, hy]
      rfl
    · rw [List.getElem?_map, Option.map_eq_some_iff] at hx
      obtain ⟨y, hy, rfl⟩ := hx
      rw [List.getD_eq_getElem?_getD, hy]
      exact .v _
theorem own_slice {w : World} {B : Nat} {e : TypeId} {z : Nat} {v : Value} {n : Nat} {xs : List Value} (h : w.ownsRow B e z v n xs) : ∃ p c, v = .slice p n c ∧ n ≤ c := by
  rcases h.2 with ⟨rfl, rfl⟩ | ⟨g, cap, cur, rfl, _, _, hn, _⟩
  · exact ⟨_, _, rfl, Nat.le_refl _⟩
  · exact ⟨_, _, rfl, hn⟩
/-- A nonempty row, cell by cell. -/
theorem own_cells {w : World} {B : Nat} {e : TypeId} {z : Nat} {v : Value} {n : Nat} {xs : List Value} (h : w.ownsRow B e z v n xs) (h0 : 0 < n) : ∃ g c, v = .slice (some ⟨g, 0, none⟩) n c ∧ B ≤ g ∧ g < w.heap.size ∧ n ≤ c ∧ ∀ j x, xs[j]? = some x → w.cell? ⟨g, j, none⟩ = some x := by
  have hlt := h.lt
  rcases h.2 with ⟨rfl, rfl⟩ | ⟨g, cap, cur, rfl, hg, hh, hn, hc, hs, ht⟩
  · omega
  · refine ⟨g, cap, rfl, hg, (hlt g rfl).2, hn, fun j x hx => ?_⟩
    have := h.cells (g := g) rfl j x hx
    rw [addr_add _ _ rfl, Nat.zero_add] at this
    exact this
theorem below_grown {w w' : World} (h : Below w.heap.size w w') (row : Option Nat) : w.grownBy w' row := ⟨h.os, h.tape, h.output, h.size, fun k hk _ => h.block k hk⟩
theorem own_below {w w' : World} {B : Nat} {e : TypeId} {z : Nat} {v : Value} {n : Nat} {xs : List Value} (h : w.ownsRow B e z v n xs) (hb : Below w.heap.size w w') : w'.ownsRow B e z v n xs :=
  h.kept (row := none) (below_grown hb none) (Decidable.em _)
theorem own_mono {w : World} {B B' : Nat} {e : TypeId} {z : Nat} {v : Value} {n : Nat} {xs : List Value} (h : w.ownsRow B e z v n xs) (hB : B' ≤ B) : w.ownsRow B' e z v n xs := by
  refine ⟨h.1, ?_⟩
  rcases h.2 with h | ⟨g, cap, cur, h1, h2, h3⟩
  · exact .inl h
  · exact .inr ⟨g, cap, cur, h1, Nat.le_trans hB h2, h3⟩
/-! ### The first loop -/
def updG (G : Int → List Du) (d : Int) (g : List Du) : Int → List Du := fun y => if y = d then g else G y
/-- Map and rows of the call's own: f's slices hold G's duties, dv the days. -/
structure Grp (w wr : World) (n : Nat) (ds : List Int) (G : Int → List Du) (dv : Value) (f : Int → Value) : Prop where
  below : Below w.heap.size w wr
  map : MapF wr 2 nilV w.heap.size n f
  rows : ∀ d, wr.ownsRow (w.heap.size + 1) 32 4 (f d) (G d).length (flatVD (G d))
  apart : ∀ d d', d ≠ d' → (f d).ownBlock = none ∨ (f d).ownBlock ≠ (f d').ownBlock
  days : wr.ownsRow (w.heap.size + 1) 2 1 dv ds.length (ds.map encI)
  off : ∀ d, (f d).ownBlock = none ∨ (f d).ownBlock ≠ dv.ownBlock
theorem grp_start (w : World) : Grp w (w.alloc (.map #[] 0)) 0 [] (fun _ => []) nilV (fun _ => nilV) :=
  ⟨(Below.refl _ w).alloc (Nat.le_refl _) _, mapF_made w 2 nilV, fun _ => World.ownsRow_nil _ _ _ _, fun _ _ _ => .inl rfl, World.ownsRow_nil _ _ _ _, fun _ => .inl rfl⟩
section
variable {w wr w1 w2 : World} {n : Nat} {ds : List Int} {G : Int → List Du} {dv : Value} {f : Int → Value}
theorem Grp.size (h : Grp w wr n ds G dv f) : w.heap.size + 1 ≤ wr.heap.size := h.map.lt
theorem Grp.blk (h : Grp w wr n ds G dv f) (d : Int) : some w.heap.size ≠ (f d).ownBlock := fun e => by have := (h.rows d).lt _ e.symm; omega
theorem Grp.dblk (h : Grp w wr n ds G dv f) : some w.heap.size ≠ dv.ownBlock := fun e => by have := h.days.lt _ e.symm; omega
theorem Grp.grow (h : Grp w wr n ds G dv f) (hg : wr.grownBy w1 none) : Grp w w1 n ds G dv f :=
  ⟨h.below.grown hg (by have := h.size; omega) (fun k e => by cases e), h.map.kept hg (by simp), fun d => (h.rows d).kept hg (Decidable.em _), h.apart, h.days.kept hg (Decidable.em _), h.off⟩
theorem Grp.day (h : Grp w wr n ds G dv f) {d : Int} {dv' : Value} (hg : wr.grownBy w1 dv.ownBlock) (hown : w1.ownsRow (w.heap.size + 1) 2 1 dv' (ds.length + 1) (ds.map encI ++ [encI d])) (hat : dv'.ownBlock = dv.ownBlock ∨ ∃ g, dv'.ownBlock = some g ∧ wr.heap.size ≤ g) : Grp w w1 n (ds ++ [d]) G dv' f := by
  refine ⟨h.below.grown hg (by have := h.size; omega) (fun k e => by have := h.days.lt k e; omega), h.map.kept hg h.dblk, fun d => (h.rows d).kept hg (h.off d), h.apart, by simpa using hown, fun y => ?_⟩
  rcases hat with e | ⟨g, e, hlt⟩
  · rw [e]; exact h.off y
  · rw [e]
    refine .inr fun e2 => ?_
    have := (h.rows y).lt g e2
    omega
theorem Grp.map1 (h : Grp w wr n ds G dv f) {d : Int} (hg : wr.grownBy w1 (f d).ownBlock) : MapF w1 2 nilV w.heap.size n f := h.map.kept hg (h.blk d)
theorem Grp.row (h : Grp w wr n ds G dv f) {d : Int} {x : Du} {v' : Value} (hg : wr.grownBy w1 (f d).ownBlock) (hown : w1.ownsRow (w.heap.size + 1) 32 4 v' ((G d).length + 1) (flatVD (G d) ++ duV x)) (hat : v'.ownBlock = (f d).ownBlock ∨ ∃ g, v'.ownBlock = some g ∧ wr.heap.size ≤ g)
    (hm : MapF w2 2 nilV w.heap.size (n + 1) (updM f d v')) (hg2 : w1.grownBy w2 (some w.heap.size)) : Grp w w2 (n + 1) ds (updG G d (G d ++ [x])) dv (updM f d v') := by
  have hsz := h.size
  have hs1 := hg.size
  have lt1 : ∀ k, (f d).ownBlock = some k → w.heap.size + 1 ≤ k := fun k e => ((h.rows d).lt k e).1
  have lt2 : ∀ k, v'.ownBlock = some k → w.heap.size + 1 ≤ k ∧ k < w1.heap.size := fun k e => hown.lt k e
  have ne : ∀ y, y ≠ d → (f y).ownBlock = none ∨ (f y).ownBlock ≠ v'.ownBlock := fun y hy => by
    rcases hat with e | ⟨g, e, hlt⟩
    · rw [e]; exact h.apart y d hy
    · rw [e]
      refine .inr fun e2 => ?_
      have := (h.rows y).lt g e2
      omega
  refine ⟨(h.below.grown hg (by omega) (fun k e => by have := lt1 k e; omega)).grown hg2 (by omega) (fun k e => by cases e; exact Nat.le_refl _), hm, fun y => ?_, fun y y' hy => ?_, ?_, fun y => ?_⟩
  · by_cases hy : y = d
    · subst hy
      rw [updM_same, updG, if_pos rfl, flatVD_snoc, List.length_append]
      exact hown.kept hg2 (.inr fun e => by have := lt2 _ e; omega)
    · rw [updM_other _ _ hy, updG, if_neg hy]
      exact ((h.rows y).kept hg (h.apart y d hy)).kept hg2 (.inr fun e => h.blk y e.symm)
  · by_cases hyd : y = d
    · subst hyd
      rw [updM_same, updM_other _ _ (Ne.symm hy)]
      rcases Option.eq_none_or_eq_some v'.ownBlock with e | ⟨k, e⟩
      · exact .inl e
      · refine .inr fun e2 => ?_
        rcases ne y' (Ne.symm hy) with e3 | e3
        · rw [← e2, e] at e3; cases e3
        · exact e3 e2.symm
    · rw [updM_other _ _ hyd]
      by_cases hyd' : y' = d
      · subst hyd'; rw [updM_same]; exact ne y hy
      · rw [updM_other _ _ hyd']; exact h.apart y y' hy
  · have hne : dv.ownBlock = none ∨ dv.ownBlock ≠ (f d).ownBlock := by
      rcases h.off d with e | e
      · rcases Option.eq_none_or_eq_some dv.ownBlock with e2 | ⟨k, e2⟩
        · exact .inl e2
        · exact .inr fun e3 => by rw [e, e2] at e3; cases e3
      · exact .inr (Ne.symm e)
    exact (h.days.kept hg hne).kept hg2 (.inr fun e => h.dblk e.symm)
  · by_cases hy : y = d
    · subst hy
      rw [updM_same]
      rcases hat with e | ⟨g, e, hlt⟩
      · rw [e]; exact h.off y
      · rw [e]
        refine .inr fun e2 => ?_
        have := h.days.lt g e2.symm
        omega
    · rw [updM_other _ _ hy]; exact h.off y
end
/-- Before round i of the first loop. -/
def Grp1 (w wr : World) (l : List Du) (i : Nat) (dv : Value) (f : Int → Value) : Prop := Grp w wr i (daysOf l i) (fun d => grp (l.take i) d) dv f
theorem updG_take {l : List Du} {k : Nat} (h : k < l.length) {x : Du} (hx : x = gt l k) : updG (fun d => grp (l.take k) d) x.dy (grp (l.take k) x.dy ++ [x]) = fun d => grp (l.take (k + 1)) d := by
  subst hx
  funext d
  rw [take_du h, grp_snoc]
  unfold updG
  by_cases e : d = (gt l k).dy
  · rw [if_pos e, if_pos e.symm, e]
  · rw [if_neg e, if_neg (fun h => e h.symm)]
/-- Behind the sort. -/
def sdays (l : List Du) : List Int := (daysOf l l.length).mergeSort fun x y => decide (x ≤ y)
theorem sdays_len (l : List Du) : (sdays l).length = (daysOf l l.length).length := by simp [sdays]
theorem sdays_mem {l : List Du} {d : Int} : d ∈ sdays l ↔ 0 < (grp l d).length := by
  rw [sdays, (List.mergeSort_perm _ _).mem_iff, days_mem _ (Nat.le_refl _), List.take_length]
theorem sdays_nodup (l : List Du) : (sdays l).Nodup := (List.mergeSort_perm _ _).nodup_iff.2 (days_nodup _ (Nat.le_refl _))
structure Srt (w wr : World) (l : List Du) (dv : Value) (f : Int → Value) : Prop where
  below : Below w.heap.size w wr
  map : MapF wr 2 nilV w.heap.size l.length f
  rows : ∀ d, wr.ownsRow (w.heap.size + 1) 32 4 (f d) (grp l d).length (flatVD (grp l d))
  days : wr.ownsRow (w.heap.size + 1) 2 1 dv (sdays l).length ((sdays l).map encI)
theorem Srt.keep {w wr w' : World} {l : List Du} {dv : Value} {f : Int → Value} (h : Srt w wr l dv f) (hb : Below wr.heap.size wr w') : Srt w w' l dv f :=
  ⟨h.below.trans (hb.mono h.below.size), h.map.kept (below_grown hb none) (by simp), fun d => own_below (h.rows d) hb, own_below h.days hb⟩
theorem sort_c {w wr : World} {l : List Du} {dv : Value} {f : Int → Value} (h : Grp1 w wr l l.length dv f) (hl : l.length ≤ 1000) : Calls Try.prog 10 #[dv] wr fun e w' => e = .returned (.tuple #[]) ∧ Srt w w' l dv f := by
  unfold Grp1 at h
  simp only [List.take_length] at h
  have hdl := days_len (l := l) l.length
  rcases h.days.2 with ⟨e, h0⟩ | ⟨g, cap, cur, e, hg, hh, hn, hc, hs, ht⟩
  · subst e
    refine (show Calls Try.prog 10 #[.slice none 0 0] wr _ from AnyG.slices_Sort_int_none Try.sortI none 0 wr).mono ?_
    rintro e w' ⟨rfl, rfl⟩
    have hs0 : sdays l = [] := List.eq_nil_of_length_eq_zero (by rw [sdays_len]; exact h0)
    exact ⟨rfl, h.below, h.map, h.rows, by rw [hs0]; exact World.ownsRow_nil _ _ _ _⟩
  · have hd := h.days
    subst e
    rw [Nat.mul_one] at ht
    have hcon := AnyG.slices_Sort_int Try.sortI g 0 cap (daysOf l l.length) wr (holds_of_blockI hh ht) (hd.lt g rfl).2 (by omega)
    refine (show Calls Try.prog 10 #[.slice (some ⟨g, 0, none⟩) (daysOf l l.length).length cap] wr _ from hcon).mono ?_
    rintro e w' ⟨rfl, q, os, rfl⟩
    have hgr := grownBy_sortedI (w := wr) (g := g) (n := q) (os := os) (sdays l).toArray
    refine ⟨rfl, h.below.grown hgr (by have := h.size; omega) (fun k e => by cases e; omega), h.map.kept hgr h.dblk, fun d => (h.rows d).kept hgr (h.off d), ?_⟩
    have := ownsRow_sortedI (w := wr) (os := os) (n := q) (ts := sdays l) (sdays_len l) hg hh hn hc hs
    rw [sdays_len]
    exact this
end Go.Proofs.Ytcnleglfdnhagaa
end
