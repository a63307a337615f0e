/-
  What is proved: TopReserve returns true for every input, and each argument reads behind the call as it read before. No conditions. (The step from the walk to the row, written by program.)
-/
import Derived.Test.YtkjgmpjnhfmecaaRows
import Derived.Test.YtkjgmpjnhfmecaaRH
import Derived.Test.YtkjgmpjnhfmecaaO
import Derived.ProofKit
import Derived.OpenShut
import Derived.ChangeOld
import Derived.Below
namespace Go.Proofs.Ytkjgmpjnhfmecaa
open Go Go.Am Go.ChangeShapes Go.WideShapes Go.ChangeAt Go.RowKit
set_option linter.unusedVariables false

theorem topReserve_own : ownKnob Try.prog.godebug = none := by kernel_rfl
theorem topReserve_laidOut : laidOutB Try.prog = true := by kernel_rfl

theorem topReserve_walk (w : World) (v0 v1 v2 : Value) (k : Int) (f0 : Int) (r0 : Int) (G : List Int) (l0 : Int) (l1 : Int) (l2 : Int) (l3 : Int) (hk : 0 ≤ k ∧ k ≤ 255) (b0 : 0 ≤ l0 ∧ l0 ≤ 255) (b1 : 0 ≤ l1 ∧ l1 ≤ 255) (b2 : 0 ≤ l2 ∧ l2 ≤ 255) (b3 : 0 ≤ l3 ∧ l3 ≤ 255) (D0 : Den [] (In w) w (.v (.int .u8 k)) v0) (D1 : Den [] (In w) w (.agg [AV.i f0, AV.i r0, intsAV G]) v1) (D2 : Den [] (In w) w (.agg [u8A l0, u8A l1, u8A l2, u8A l3]) v2) :
    Calls Try.prog 3 #[v0, v1, v2] w fun e w' => e = .returned (.bool true) ∧ Below w.heap.size w w' := by
  obtain ⟨n0, r0, H0, hac, rfl⟩ := reserve_law k f0 r0 (intsAV G) G (.inl rfl) hk l0 l1 l2 l3 b0 b1 b2 b3
  refine (calls_of_acall sig_ok (f := 3) rfl hac ⟨rfl, ?_⟩).mono fun e w' ⟨x0, I', he, hx0, hb⟩ => ?_
  · intro j a y0 ha hy0
    match j, ha, hy0 with
    | 0, ha, hy0 => cases ha; cases hy0; exact D0
    | 1, ha, hy0 => cases ha; cases hy0; exact D1
    | 2, ha, hy0 => cases ha; cases hy0; exact D2
  · rw [den_v hx0] at he
    exact ⟨he, hb⟩

set_option maxRecDepth 100000 in
theorem topReserve_lifted (os : Os) (started : os.Started) (H : Type) (enc : TypeId × Value → H) :
    ReturnsInHanded {} Try.checked os 3 .any (Rows.topReserveSpec.pre6 enc Try.prog Try.f3 Rows.topReserveRow.domain false) (Rows.topReserveSpec.post enc Try.prog Try.f3 false true false false) := by
  refine returnsInHanded_of_change (C := Try.checked) topReserve_own started (by kernel_rfl) Try.func3
    (ChangeSpec.witness6 (enc := enc) (C := Try.checked) false ⟨#[], #[.int .u8 0, .agg #[.int .i64 0, .int .i64 0, .slice none 0 0], .agg #[.int .u8 0, .int .u8 0, .int .u8 0, .int .u8 0]], []⟩ 8 (by kernel_rfl) (by kernel_rfl) (by kernel_rfl) (by kernel_rfl)) ?_
  intro W base args ds gs before hval0 hW hcnd _
  have hval : ∀ (j : Nat) t v, Try.f3.params[j]? = some t → args[j]? = some v → Value.okWide Try.prog W .any base t v := hval0
  have hW' := hW
  obtain ⟨p, q, hA0, hV, rfl, hfz, hnd⟩ := hW
  have hA : DataW.TrodAll enc Try.prog W 0 (fun _ => true) true Try.f3.params.toList args.toList ds p := hA0
  rw [Try.params3] at hA hval
  obtain ⟨v0, vs0, d0, ds0, p0, q0, hargs, rfl, rfl, h0, s0⟩ := trodAll_cons hA
  obtain ⟨v1, vs1, d1, ds1, p1, q1, rfl, rfl, rfl, h1, s1⟩ := trodAll_cons s0
  obtain ⟨v2, vs2, d2, ds2, p2, q2, rfl, rfl, rfl, h2, s2⟩ := trodAll_cons s1
  obtain ⟨rfl, rfl, rfl⟩ := trodAll_nil s2
  obtain rfl : args = #[v0, v1, v2] := by cases args; simp_all
  obtain ⟨rfl, rfl⟩ := trodVars_none hV
  have k0 := h0
  have lt0 : ∀ x ∈ p0, x.block < W.heap.size := by obtain ⟨m, hm⟩ := k0; exact DataW.trod_lt m _ _ _ hm
  obtain ⟨k, hk, D0⟩ := open_5 (hval 0 5 v0 rfl rfl) h0
  have k1 := h1
  have lt1 : ∀ x ∈ p1, x.block < W.heap.size := by obtain ⟨m, hm⟩ := k1; exact DataW.trod_lt m _ _ _ hm
  obtain ⟨f0, r0, G, D1⟩ := open_24 (hval 1 24 v1 rfl rfl) h1
  have k2 := h2
  have lt2 : ∀ x ∈ p2, x.block < W.heap.size := by obtain ⟨m, hm⟩ := k2; exact DataW.trod_lt m _ _ _ hm
  obtain ⟨l0, l1, l2, l3, b0, b1, b2, b3, D2⟩ := open_25 (hval 2 25 v2 rfl rfl) h2
  clear hA0 hval0
  refine (topReserve_walk W v0 v1 v2 k f0 r0 G l0 l1 l2 l3 hk b0 b1 b2 b3 D0 D1 D2).mono fun e W' ⟨he, bel⟩ => ?_
  subst he
  exact ⟨_, rfl, _, _, _, [], _, [], hW', trodAll_mk1 (shut_bool Try.underlying4 _), (trodAll_cons_mk (Below.trod topReserve_laidOut (by kernel_rfl) (of_decide_eq_true (by kernel_rfl)) k0 bel lt0) (trodAll_cons_mk (Below.trod topReserve_laidOut (by kernel_rfl) (of_decide_eq_true (by kernel_rfl)) k1 bel lt1) (trodAll_cons_mk (Below.trod topReserve_laidOut (by kernel_rfl) (of_decide_eq_true (by kernel_rfl)) k2 bel lt2) trodAll_mk0))), rfl, bel.frame _, fun h => by cases h⟩

theorem topReserve_over : Rows.topReserveRow.holds Try.pinned (OpenSpec.ofChange Rows.topReserveSpec) :=
  OpenClaim.holds_of_wide 3 Try.f3 rfl rfl rfl rfl rfl rfl rfl ⟨rfl, rfl, rfl, rfl, rfl⟩ rfl rfl rfl rfl rfl (by kernel_rfl) Try.func3 (by kernel_rfl)
    (of_decide_eq_true (by kernel_rfl)) (by unfold Func.isWrapper; first | (rw [if_pos (by decide +kernel)]; kernel_rfl) | (rw [if_neg (by decide +kernel)]; exact ⟨rfl, rfl⟩))
    (fun os started H enc _ => topReserve_lifted os started H enc)

theorem topReserve_holds : Rows.TopReserveSaid := topReserve_over
end Go.Proofs.Ytkjgmpjnhfmecaa
