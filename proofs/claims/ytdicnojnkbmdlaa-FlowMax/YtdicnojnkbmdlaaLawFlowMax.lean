/-
  What is proved: FlowMax returns true for every input, and each argument reads behind the call as it read before. No conditions. (The step from the walk to the row, written by program.)
-/
import Derived.Test.YtdicnojnkbmdlaaRows
import Derived.Test.YtdicnojnkbmdlaaRM
import Derived.Test.YtdicnojnkbmdlaaO
import Derived.ProofKit
import Derived.OpenShut
import Derived.ChangeOld
import Derived.Below
namespace Go.Proofs.Ytdicnojnkbmdlaa
open Go Go.Am Go.ChangeShapes Go.WideShapes Go.ChangeAt Go.RowKit
set_option linter.unusedVariables false

theorem flowMax_own : ownKnob Try.prog.godebug = none := by kernel_rfl
theorem flowMax_laidOut : laidOutB Try.prog = true := by kernel_rfl

theorem flowMax_walk (w : World) (v0 : Value) (n : Int) (s : Int) (t : Int) (E : List Ed)  (D0 : Den [] (In w) w (.agg (graphC n s t E)) v0) :
    Calls Try.prog 3 #[v0] w fun e w' => e = .returned (.bool true) ∧ Below w.heap.size w w' := by
  obtain ⟨n, r, H', h, rfl⟩ := fmax_ok n s t E
  refine (calls_of_acall sig_ok (f := 3) rfl h ⟨rfl, ?_⟩).mono fun e w' ⟨x, I', he, hx, hb⟩ => ?_
  · intro j a y ha hy
    match j, ha, hy with
    | 0, ha, hy => cases ha; cases hy; exact D0
  · rw [den_v hx] at he
    exact ⟨he, hb⟩

set_option maxRecDepth 100000 in
theorem flowMax_lifted (os : Os) (started : os.Started) (H : Type) (enc : TypeId × Value → H) :
    ReturnsInHanded {} Try.checked os 3 .any (Rows.flowMaxSpec.pre6 enc Try.prog Try.f3 Rows.flowMaxRow.domain false) (Rows.flowMaxSpec.post enc Try.prog Try.f3 false true false false) := by
  refine returnsInHanded_of_change (C := Try.checked) flowMax_own started (by kernel_rfl) Try.func3
    (ChangeSpec.witness6 (enc := enc) (C := Try.checked) false ⟨#[], #[.agg #[.int .i64 0, .int .i64 0, .int .i64 0, .slice none 0 0]], []⟩ 8 (by kernel_rfl) (by kernel_rfl) (by kernel_rfl) (by kernel_rfl)) ?_
  intro W base args ds gs before hval0 hW hcnd _
  have hval : ∀ (j : Nat) t v, Try.f3.params[j]? = some t → args[j]? = some v → Value.okWide Try.prog W .any base t v := hval0
  have hW' := hW
  obtain ⟨p, q, hA0, hV, rfl, hfz, hnd⟩ := hW
  have hA : DataW.TrodAll enc Try.prog W 0 (fun _ => true) true Try.f3.params.toList args.toList ds p := hA0
  rw [Try.params3] at hA hval
  obtain ⟨v0, vs0, d0, ds0, p0, q0, hargs, rfl, rfl, h0, s0⟩ := trodAll_cons hA
  obtain ⟨rfl, rfl, rfl⟩ := trodAll_nil s0
  obtain rfl : args = #[v0] := by cases args; simp_all
  obtain ⟨rfl, rfl⟩ := trodVars_none hV
  have k0 := h0
  have lt0 : ∀ x ∈ p0, x.block < W.heap.size := by obtain ⟨m, hm⟩ := k0; exact DataW.trod_lt m _ _ _ hm
  obtain ⟨n, s, t, E, D0⟩ := open_24 (hval 0 24 v0 rfl rfl) h0
  clear hA0 hval0
  refine (flowMax_walk W v0 n s t E D0).mono fun e W' ⟨he, bel⟩ => ?_
  subst he
  exact ⟨_, rfl, _, _, _, [], _, [], hW', trodAll_mk1 (shut_bool Try.underlying4 _), (trodAll_cons_mk (Below.trod flowMax_laidOut (by kernel_rfl) (of_decide_eq_true (by kernel_rfl)) k0 bel lt0) trodAll_mk0), rfl, bel.frame _, fun h => by cases h⟩

theorem flowMax_over : Rows.flowMaxRow.holds Try.pinned (OpenSpec.ofChange Rows.flowMaxSpec) :=
  OpenClaim.holds_of_wide 3 Try.f3 rfl rfl rfl rfl rfl rfl rfl ⟨rfl, rfl, rfl, rfl, rfl⟩ rfl rfl rfl rfl rfl (by kernel_rfl) Try.func3 (by kernel_rfl)
    (of_decide_eq_true (by kernel_rfl)) (by unfold Func.isWrapper; first | (rw [if_pos (by decide +kernel)]; kernel_rfl) | (rw [if_neg (by decide +kernel)]; exact ⟨rfl, rfl⟩))
    (fun os started H enc _ => flowMax_lifted os started H enc)

theorem flowMax_holds : Rows.FlowMaxSaid := flowMax_over
end Go.Proofs.Ytdicnojnkbmdlaa
