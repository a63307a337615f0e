/-
  What is proved: TopAppointed returns true for every input, and each argument reads behind the call as it read before. No conditions. (The step from the walk to the row, written by program.)
-/
import Derived.Test.YtcnleglfdnhagaaRows
import Derived.Test.YtcnleglfdnhagaaLW
import Derived.Test.YtcnleglfdnhagaaO
import Derived.ProofKit
import Derived.OpenShut
import Derived.ChangeOld
import Derived.Below
namespace Go.Proofs.Ytcnleglfdnhagaa
open Go Go.Am Go.ChangeShapes Go.WideShapes Go.ChangeAt Go.RowKit
set_option linter.unusedVariables false

theorem topAppointed_own : ownKnob Try.prog.godebug = none := by kernel_rfl
theorem topAppointed_laidOut : laidOutB Try.prog = true := by kernel_rfl

theorem topAppointed_walk (w : World) (v0 v1 : Value) (l : List Du) (us : List Um) (hL : ∀ u, (gt l u).ho.size ≤ 9223372036854775807 ∧ (gt l u).aw.size ≤ 9223372036854775807) (hU : ∀ u, (gt us u).nm.size ≤ 9223372036854775807 ∧ (gt us u).tm.size ≤ 9223372036854775807) (D0 : Den [] (In w) w (dusAV l) v0) (D1 : Den [] (In w) w (umsAV us) v1) :
    Calls Try.prog 3 #[v0, v1] w fun e w' => e = .returned (.bool true) ∧ Below w.heap.size w w' := by
  obtain ⟨n0, r0, H0, hac, rfl⟩ := L.law_w 0 [] l us hL hU
  refine (calls_of_acall L.sig_ok (f := 3) rfl hac ⟨rfl, ?_⟩).mono fun e w' ⟨x0, I', he, hx0, hb⟩ => ?_
  · intro j a y0 ha hy0
    match j, ha, hy0 with
    | 0, ha, hy0 => cases ha; cases hy0; exact D0
    | 1, ha, hy0 => cases ha; cases hy0; exact D1
  · rw [den_v hx0] at he
    exact ⟨he, hb⟩

set_option maxRecDepth 100000 in
theorem topAppointed_lifted (os : Os) (started : os.Started) (H : Type) (enc : TypeId × Value → H) :
    ReturnsInHanded {} Try.checked os 3 .any (Rows.topAppointedSpec.pre6 enc Try.prog Try.f3 Rows.topAppointedRow.domain false) (Rows.topAppointedSpec.post enc Try.prog Try.f3 false true false false) := by
  refine returnsInHanded_of_change (C := Try.checked) topAppointed_own started (by kernel_rfl) Try.func3
    (ChangeSpec.witness6 (enc := enc) (C := Try.checked) false ⟨#[], #[.slice none 0 0, .slice none 0 0], []⟩ 8 (by kernel_rfl) (by kernel_rfl) (by kernel_rfl) (by kernel_rfl)) ?_
  intro W base args ds gs before hval0 hW hcnd _
  have hval : ∀ (j : Nat) t v, Try.f3.params[j]? = some t → args[j]? = some v → Value.okWide Try.prog W .any base t v := hval0
  have hW' := hW
  obtain ⟨p, q, hA0, hV, rfl, hfz, hnd⟩ := hW
  have hA : DataW.TrodAll enc Try.prog W 0 (fun _ => true) true Try.f3.params.toList args.toList ds p := hA0
  rw [Try.params3] at hA hval
  obtain ⟨v0, vs0, d0, ds0, p0, q0, hargs, rfl, rfl, h0, s0⟩ := trodAll_cons hA
  obtain ⟨v1, vs1, d1, ds1, p1, q1, rfl, rfl, rfl, h1, s1⟩ := trodAll_cons s0
  obtain ⟨rfl, rfl, rfl⟩ := trodAll_nil s1
  obtain rfl : args = #[v0, v1] := by cases args; simp_all
  obtain ⟨rfl, rfl⟩ := trodVars_none hV
  have k0 := h0
  have lt0 : ∀ x ∈ p0, x.block < W.heap.size := by obtain ⟨m, hm⟩ := k0; exact DataW.trod_lt m _ _ _ hm
  obtain ⟨l, hL, D0⟩ := open_22 (hval 0 22 v0 rfl rfl) h0
  have k1 := h1
  have lt1 : ∀ x ∈ p1, x.block < W.heap.size := by obtain ⟨m, hm⟩ := k1; exact DataW.trod_lt m _ _ _ hm
  obtain ⟨us, hU, D1⟩ := open_23 (hval 1 23 v1 rfl rfl) h1
  clear hA0 hval0
  refine (topAppointed_walk W v0 v1 l us hL hU D0 D1).mono fun e W' ⟨he, bel⟩ => ?_
  subst he
  exact ⟨_, rfl, _, _, _, [], _, [], hW', trodAll_mk1 (shut_bool Try.underlying4 _), (trodAll_cons_mk (Below.trod topAppointed_laidOut (by kernel_rfl) (of_decide_eq_true (by kernel_rfl)) k0 bel lt0) (trodAll_cons_mk (Below.trod topAppointed_laidOut (by kernel_rfl) (of_decide_eq_true (by kernel_rfl)) k1 bel lt1) trodAll_mk0)), rfl, bel.frame _, fun h => by cases h⟩

theorem topAppointed_over : Rows.topAppointedRow.holds Try.pinned (OpenSpec.ofChange Rows.topAppointedSpec) :=
  OpenClaim.holds_of_wide 3 Try.f3 rfl rfl rfl rfl rfl rfl rfl ⟨rfl, rfl, rfl, rfl, rfl⟩ rfl rfl rfl rfl rfl (by kernel_rfl) Try.func3 (by kernel_rfl)
    (of_decide_eq_true (by kernel_rfl)) (by unfold Func.isWrapper; first | (rw [if_pos (by decide +kernel)]; kernel_rfl) | (rw [if_neg (by decide +kernel)]; exact ⟨rfl, rfl⟩))
    (fun os started H enc _ => topAppointed_lifted os started H enc)

theorem topAppointed_holds : Rows.TopAppointedSaid := topAppointed_over
end Go.Proofs.Ytcnleglfdnhagaa
