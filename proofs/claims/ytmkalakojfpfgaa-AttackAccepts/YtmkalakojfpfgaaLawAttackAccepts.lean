/-
  What is proved: AttackAccepts returns true for every input, and each argument reads behind the call as it read before. No conditions. (The step from the walk to the row, written by program.)
-/
import Derived.Test.YtmkalakojfpfgaaRows
import Derived.Test.YtmkalakojfpfgaaXB
import Derived.Test.YtmkalakojfpfgaaO
import Derived.ProofKit
import Derived.OpenShut
import Derived.ChangeOld
import Derived.Below
namespace Go.Proofs.Ytmkalakojfpfgaa
open Go Go.Am Go.ChangeShapes Go.WideShapes Go.ChangeAt Go.RowKit
set_option linter.unusedVariables false

theorem attackAccepts_own : ownKnob Try.prog.godebug = none := by kernel_rfl
theorem attackAccepts_laidOut : laidOutB Try.prog = true := by kernel_rfl

theorem attackAccepts_walk (w : World) (v0 v1 v2 : Value) (rows : Tb) (q : Int) (la : Int) (l : List Int) (x0 : Int) (x1 : Int) (x2 : Int) (hL : rows.length ≤ 9223372036854775807) (hx0 : -9223372036854775808 ≤ x0 ∧ x0 ≤ 9223372036854775807) (hx1 : -9223372036854775808 ≤ x1 ∧ x1 ≤ 9223372036854775807) (hx2 : -9223372036854775808 ≤ x2 ∧ x2 ≤ 9223372036854775807) (D0 : Den [] (In w) w (.agg [rowsAV rows, AV.i q, AV.i la]) v0) (D1 : Den [] (In w) w (.sl l.length (l.map AV.i)) v1) (D2 : Den [] (In w) w (.agg [AV.i x0, AV.i x1, AV.i x2]) v2) :
    Calls Try.prog 6 #[v0, v1, v2] w fun e w' => e = .returned (.bool true) ∧ Below w.heap.size w w' := by
  obtain ⟨n, r, H', h, rfl⟩ := aaccepts_ok rows q la l x0 x1 x2 hL hx0 hx1 hx2
  refine (calls_of_acall sig_ok (f := 6) rfl h ⟨rfl, ?_⟩).mono fun e w' ⟨x, I', he, hx, hb⟩ => ?_
  · intro j a y ha hy
    match j, ha, hy with
    | 0, ha, hy => cases ha; cases hy; exact D0
    | 1, ha, hy => cases ha; cases hy; exact D1
    | 2, ha, hy => cases ha; cases hy; exact D2
  · rw [den_v hx] at he
    exact ⟨he, hb⟩

set_option maxRecDepth 100000 in
theorem attackAccepts_lifted (os : Os) (started : os.Started) (H : Type) (enc : TypeId × Value → H) :
    ReturnsInHanded {} Try.checked os 6 .any (Rows.attackAcceptsSpec.pre6 enc Try.prog Try.f6 Rows.attackAcceptsRow.domain false) (Rows.attackAcceptsSpec.post enc Try.prog Try.f6 false true false false) := by
  refine returnsInHanded_of_change (C := Try.checked) attackAccepts_own started (by kernel_rfl) Try.func6
    (ChangeSpec.witness6 (enc := enc) (C := Try.checked) false ⟨#[], #[.agg #[.slice none 0 0, .int .i64 0, .int .i64 0], .slice none 0 0, .agg #[.int .i64 0, .int .i64 0, .int .i64 0]], []⟩ 8 (by kernel_rfl) (by kernel_rfl) (by kernel_rfl) (by kernel_rfl)) ?_
  intro W base args ds gs before hval0 hW hcnd _
  have hval : ∀ (j : Nat) t v, Try.f6.params[j]? = some t → args[j]? = some v → Value.okWide Try.prog W .any base t v := hval0
  have hW' := hW
  obtain ⟨p, q, hA0, hV, rfl, hfz, hnd⟩ := hW
  have hA : DataW.TrodAll enc Try.prog W 0 (fun _ => true) true Try.f6.params.toList args.toList ds p := hA0
  rw [Try.params6] at hA hval
  obtain ⟨v0, vs0, d0, ds0, p0, q0, hargs, rfl, rfl, h0, s0⟩ := trodAll_cons hA
  obtain ⟨v1, vs1, d1, ds1, p1, q1, rfl, rfl, rfl, h1, s1⟩ := trodAll_cons s0
  obtain ⟨v2, vs2, d2, ds2, p2, q2, rfl, rfl, rfl, h2, s2⟩ := trodAll_cons s1
  obtain ⟨rfl, rfl, rfl⟩ := trodAll_nil s2
  obtain rfl : args = #[v0, v1, v2] := by cases args; simp_all
  obtain ⟨rfl, rfl⟩ := trodVars_none hV
  have k0 := h0
  have lt0 : ∀ x ∈ p0, x.block < W.heap.size := by obtain ⟨m, hm⟩ := k0; exact DataW.trod_lt m _ _ _ hm
  obtain ⟨rows, q, la, hL, D0⟩ := open_24 (hval 0 24 v0 rfl rfl) h0
  have k1 := h1
  have lt1 : ∀ x ∈ p1, x.block < W.heap.size := by obtain ⟨m, hm⟩ := k1; exact DataW.trod_lt m _ _ _ hm
  obtain ⟨l, D1⟩ := open_25 (hval 1 25 v1 rfl rfl) h1
  have k2 := h2
  have lt2 : ∀ x ∈ p2, x.block < W.heap.size := by obtain ⟨m, hm⟩ := k2; exact DataW.trod_lt m _ _ _ hm
  obtain ⟨x0, x1, x2, hx0, hx1, hx2, D2⟩ := open_42 (hval 2 42 v2 rfl rfl) h2
  clear hA0 hval0
  refine (attackAccepts_walk W v0 v1 v2 rows q la l x0 x1 x2 hL hx0 hx1 hx2 D0 D1 D2).mono fun e W' ⟨he, bel⟩ => ?_
  subst he
  exact ⟨_, rfl, _, _, _, [], _, [], hW', trodAll_mk1 (shut_bool Try.underlying4 _), (trodAll_cons_mk (Below.trod attackAccepts_laidOut (by kernel_rfl) (of_decide_eq_true (by kernel_rfl)) k0 bel lt0) (trodAll_cons_mk (Below.trod attackAccepts_laidOut (by kernel_rfl) (of_decide_eq_true (by kernel_rfl)) k1 bel lt1) (trodAll_cons_mk (Below.trod attackAccepts_laidOut (by kernel_rfl) (of_decide_eq_true (by kernel_rfl)) k2 bel lt2) trodAll_mk0))), rfl, bel.frame _, fun h => by cases h⟩

theorem attackAccepts_over : Rows.attackAcceptsRow.holds Try.pinned (OpenSpec.ofChange Rows.attackAcceptsSpec) :=
  OpenClaim.holds_of_wide 6 Try.f6 rfl rfl rfl rfl rfl rfl rfl ⟨rfl, rfl, rfl, rfl, rfl⟩ rfl rfl rfl rfl rfl (by kernel_rfl) Try.func6 (by kernel_rfl)
    (of_decide_eq_true (by kernel_rfl)) (by unfold Func.isWrapper; first | (rw [if_pos (by decide +kernel)]; kernel_rfl) | (rw [if_neg (by decide +kernel)]; exact ⟨rfl, rfl⟩))
    (fun os started H enc _ => attackAccepts_lifted os started H enc)

theorem attackAccepts_holds : Rows.AttackAcceptsSaid := attackAccepts_over
end Go.Proofs.Ytmkalakojfpfgaa
