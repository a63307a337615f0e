/-
  What is proved: AttackLeast returns true for every input, and each argument reads behind the call as it read before. No conditions. (The step from the walk to the row, written by program.)
-/
import Derived.Test.YtmkalakojfpfgaaRows
import Derived.Test.YtmkalakojfpfgaaWO
import Derived.Test.YtmkalakojfpfgaaO
import Derived.ProofKit
import Derived.OpenShut
import Derived.ChangeOld
import Derived.Below
namespace Go.Proofs.Ytmkalakojfpfgaa
open Go Go.Am Go.ChangeShapes Go.WideShapes Go.ChangeAt Go.RowKit
set_option linter.unusedVariables false

theorem attackLeast_own : ownKnob Try.prog.godebug = none := by kernel_rfl
theorem attackLeast_laidOut : laidOutB Try.prog = true := by kernel_rfl

theorem attackLeast_walk (w : World) (v0 v1 : Value) (rows : Tb) (q : Int) (la : Int) (l : List Int) (hL : rows.length ≤ 9223372036854775807) (D0 : Den [] (In w) w (.agg [rowsAV rows, AV.i q, AV.i la]) v0) (D1 : Den [] (In w) w (.sl l.length (l.map AV.i)) v1) :
    Calls Try.prog 5 #[v0, v1] w fun e w' => e = .returned (.bool true) ∧ Below w.heap.size w w' := by
  obtain ⟨n, r, H', h, rfl⟩ := aleast_ok rows q la l hL
  refine (calls_of_acall sig_ok (f := 5) rfl h ⟨rfl, ?_⟩).mono fun e w' ⟨x, I', he, hx, hb⟩ => ?_
  · intro j a y ha hy
    match j, ha, hy with
    | 0, ha, hy => cases ha; cases hy; exact D0
    | 1, ha, hy => cases ha; cases hy; exact D1
  · rw [den_v hx] at he
    exact ⟨he, hb⟩

set_option maxRecDepth 100000 in
theorem attackLeast_lifted (os : Os) (started : os.Started) (H : Type) (enc : TypeId × Value → H) :
    ReturnsInHanded {} Try.checked os 5 .any (Rows.attackLeastSpec.pre6 enc Try.prog Try.f5 Rows.attackLeastRow.domain false) (Rows.attackLeastSpec.post enc Try.prog Try.f5 false true false false) := by
  refine returnsInHanded_of_change (C := Try.checked) attackLeast_own started (by kernel_rfl) Try.func5
    (ChangeSpec.witness6 (enc := enc) (C := Try.checked) false ⟨#[], #[.agg #[.slice none 0 0, .int .i64 0, .int .i64 0], .slice none 0 0], []⟩ 8 (by kernel_rfl) (by kernel_rfl) (by kernel_rfl) (by kernel_rfl)) ?_
  intro W base args ds gs before hval0 hW hcnd _
  have hval : ∀ (j : Nat) t v, Try.f5.params[j]? = some t → args[j]? = some v → Value.okWide Try.prog W .any base t v := hval0
  have hW' := hW
  obtain ⟨p, q, hA0, hV, rfl, hfz, hnd⟩ := hW
  have hA : DataW.TrodAll enc Try.prog W 0 (fun _ => true) true Try.f5.params.toList args.toList ds p := hA0
  rw [Try.params5] at hA hval
  obtain ⟨v0, vs0, d0, ds0, p0, q0, hargs, rfl, rfl, h0, s0⟩ := trodAll_cons hA
  obtain ⟨v1, vs1, d1, ds1, p1, q1, rfl, rfl, rfl, h1, s1⟩ := trodAll_cons s0
  obtain ⟨rfl, rfl, rfl⟩ := trodAll_nil s1
  obtain rfl : args = #[v0, v1] := by cases args; simp_all
  obtain ⟨rfl, rfl⟩ := trodVars_none hV
  have k0 := h0
  have lt0 : ∀ x ∈ p0, x.block < W.heap.size := by obtain ⟨m, hm⟩ := k0; exact DataW.trod_lt m _ _ _ hm
  obtain ⟨rows, q, la, hL, D0⟩ := open_24 (hval 0 24 v0 rfl rfl) h0
  have k1 := h1
  have lt1 : ∀ x ∈ p1, x.block < W.heap.size := by obtain ⟨m, hm⟩ := k1; exact DataW.trod_lt m _ _ _ hm
  obtain ⟨l, D1⟩ := open_25 (hval 1 25 v1 rfl rfl) h1
  clear hA0 hval0
  refine (attackLeast_walk W v0 v1 rows q la l hL D0 D1).mono fun e W' ⟨he, bel⟩ => ?_
  subst he
  exact ⟨_, rfl, _, _, _, [], _, [], hW', trodAll_mk1 (shut_bool Try.underlying4 _), (trodAll_cons_mk (Below.trod attackLeast_laidOut (by kernel_rfl) (of_decide_eq_true (by kernel_rfl)) k0 bel lt0) (trodAll_cons_mk (Below.trod attackLeast_laidOut (by kernel_rfl) (of_decide_eq_true (by kernel_rfl)) k1 bel lt1) trodAll_mk0)), rfl, bel.frame _, fun h => by cases h⟩

theorem attackLeast_over : Rows.attackLeastRow.holds Try.pinned (OpenSpec.ofChange Rows.attackLeastSpec) :=
  OpenClaim.holds_of_wide 5 Try.f5 rfl rfl rfl rfl rfl rfl rfl ⟨rfl, rfl, rfl, rfl, rfl⟩ rfl rfl rfl rfl rfl (by kernel_rfl) Try.func5 (by kernel_rfl)
    (of_decide_eq_true (by kernel_rfl)) (by unfold Func.isWrapper; first | (rw [if_pos (by decide +kernel)]; kernel_rfl) | (rw [if_neg (by decide +kernel)]; exact ⟨rfl, rfl⟩))
    (fun os started H enc _ => attackLeast_lifted os started H enc)

theorem attackLeast_holds : Rows.AttackLeastSaid := attackLeast_over
end Go.Proofs.Ytmkalakojfpfgaa
