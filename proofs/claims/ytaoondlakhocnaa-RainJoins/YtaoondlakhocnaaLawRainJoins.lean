/-
  What is proved: RainJoins returns true for every input, and each argument reads behind the call as it read before. No conditions. (The step from the walk to the row, written by program.)
-/
import Derived.Test.YtaoondlakhocnaaRows
import Derived.Test.YtaoondlakhocnaaXD
import Derived.Test.YtaoondlakhocnaaO
import Derived.ProofKit
import Derived.OpenShut
import Derived.ChangeOld
import Derived.Below
namespace Go.Proofs.Ytaoondlakhocnaa
open Go Go.Am Go.ChangeShapes Go.WideShapes Go.ChangeAt Go.RowKit
set_option linter.unusedVariables false

theorem rainJoins_own : ownKnob Try.prog.godebug = none := by kernel_rfl
theorem rainJoins_laidOut : laidOutB Try.prog = true := by kernel_rfl

theorem rainJoins_walk (w : World) (v0 : Value) (rows : Tb) (per : Int) (balls : Int) (l : List Stp)  (D0 : Den [] (In w) w (.agg [rowsAV rows, AV.i per, AV.i balls, stopsAV l]) v0) :
    Calls Try.prog 14 #[v0] w fun e w' => e = .returned (.bool true) ∧ Below w.heap.size w w' := by
  obtain ⟨n, r, H', h, rfl⟩ := rjoins_ok rows per balls l
  refine (calls_of_acall sig_ok (f := 14) rfl h ⟨rfl, ?_⟩).mono fun e w' ⟨x, I', he, hx, hb⟩ => ?_
  · intro j a y ha hy
    match j, ha, hy with
    | 0, ha, hy => cases ha; cases hy; exact D0
  · rw [den_v hx] at he
    exact ⟨he, hb⟩

set_option maxRecDepth 100000 in
theorem rainJoins_lifted (os : Os) (started : os.Started) (H : Type) (enc : TypeId × Value → H) :
    ReturnsInHanded {} Try.checked os 14 .any (Rows.rainJoinsSpec.pre6 enc Try.prog Try.f14 Rows.rainJoinsRow.domain false) (Rows.rainJoinsSpec.post enc Try.prog Try.f14 false true false false) := by
  refine returnsInHanded_of_change (C := Try.checked) rainJoins_own started (by kernel_rfl) Try.func14
    (ChangeSpec.witness6 (enc := enc) (C := Try.checked) false ⟨#[], #[.agg #[.slice none 0 0, .int .i64 0, .int .i64 0, .slice none 0 0]], []⟩ 8 (by kernel_rfl) (by kernel_rfl) (by kernel_rfl) (by kernel_rfl)) ?_
  intro W base args ds gs before hval0 hW hcnd _
  have hval : ∀ (j : Nat) t v, Try.f14.params[j]? = some t → args[j]? = some v → Value.okWide Try.prog W .any base t v := hval0
  have hW' := hW
  obtain ⟨p, q, hA0, hV, rfl, hfz, hnd⟩ := hW
  have hA : DataW.TrodAll enc Try.prog W 0 (fun _ => true) true Try.f14.params.toList args.toList ds p := hA0
  rw [Try.params14] at hA hval
  obtain ⟨v0, vs0, d0, ds0, p0, q0, hargs, rfl, rfl, h0, s0⟩ := trodAll_cons hA
  obtain ⟨rfl, rfl, rfl⟩ := trodAll_nil s0
  obtain rfl : args = #[v0] := by cases args; simp_all
  obtain ⟨rfl, rfl⟩ := trodVars_none hV
  have k0 := h0
  have lt0 : ∀ x ∈ p0, x.block < W.heap.size := by obtain ⟨m, hm⟩ := k0; exact DataW.trod_lt m _ _ _ hm
  obtain ⟨rows, per, balls, l, D0⟩ := open_64 (hval 0 64 v0 rfl rfl) h0
  clear hA0 hval0
  refine (rainJoins_walk W v0 rows per balls l D0).mono fun e W' ⟨he, bel⟩ => ?_
  subst he
  exact ⟨_, rfl, _, _, _, [], _, [], hW', trodAll_mk1 (shut_bool Try.underlying4 _), (trodAll_cons_mk (Below.trod rainJoins_laidOut (by kernel_rfl) (of_decide_eq_true (by kernel_rfl)) k0 bel lt0) trodAll_mk0), rfl, bel.frame _, fun h => by cases h⟩

theorem rainJoins_over : Rows.rainJoinsRow.holds Try.pinned (OpenSpec.ofChange Rows.rainJoinsSpec) :=
  OpenClaim.holds_of_wide 14 Try.f14 rfl rfl rfl rfl rfl rfl rfl ⟨rfl, rfl, rfl, rfl, rfl⟩ rfl rfl rfl rfl rfl (by kernel_rfl) Try.func14 (by kernel_rfl)
    (of_decide_eq_true (by kernel_rfl)) (by unfold Func.isWrapper; first | (rw [if_pos (by decide +kernel)]; kernel_rfl) | (rw [if_neg (by decide +kernel)]; exact ⟨rfl, rfl⟩))
    (fun os started H enc _ => rainJoins_lifted os started H enc)

theorem rainJoins_holds : Rows.RainJoinsSaid := rainJoins_over
end Go.Proofs.Ytaoondlakhocnaa
