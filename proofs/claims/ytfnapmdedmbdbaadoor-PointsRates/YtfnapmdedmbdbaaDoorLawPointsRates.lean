/-
  What is proved: PointsRates returns true for every input, and each argument reads behind the call as it read before. No conditions. (The step from the walk to the row, written by program.)
-/
import Derived.Test.YtfnapmdedmbdbaaDoorRows
import Derived.Test.YtfnapmdedmbdbaaDoorCards
import Derived.Test.YtfnapmdedmbdbaaDoorTie
import Derived.Test.YtfnapmdedmbdbaaDoorLd
import Derived.SevenTiedAt
import Derived.Test.YtfnapmdedmbdbaaDoorLC
import Derived.Test.YtfnapmdedmbdbaaDoorO
import Derived.ProofKit
import Derived.OpenShut
import Derived.ChangeOld
import Derived.Below
namespace Go.Proofs.YtfnapmdedmbdbaaDoor
open Go Go.Am Go.ChangeShapes Go.WideShapes Go.ChangeAt Go.RowKit
set_option linter.unusedVariables false

theorem pointsRates_own : ownKnob Tryd.prog.godebug = none := by kernel_rfl
theorem pointsRates_laidOut : laidOutB Tryd.prog = true := by kernel_rfl

theorem pointsRates_walk (w : World) (hT : ∀ w1 : World, (∀ k, k < w.heap.size → w1.heap[k]? = w.heap[k]?) → Tb w1) (v0 v1 : Value) (z : St) (b : Int) (hb : -9223372036854775808 ≤ b ∧ b ≤ 9223372036854775807) (D0 : Den [] (In w) w (stA z) v0) (D1 : Den [] (In w) w (AV.i b) v1) :
    Calls Tryd.prog 6 #[v0, v1] w fun e w' => e = .returned (.bool true) ∧ Below w.heap.size w w' := by
  obtain ⟨n0, r0, H0, hac, rfl⟩ := prates_ok 0 [] z b hb
  refine (calls_of_acall sig_ok (f := 6) rfl hac ⟨rfl, ?_⟩ hT).mono fun e w' ⟨x0, I', he, hx0, hb⟩ => ?_
  · intro j a y0 ha hy0
    match j, ha, hy0 with
    | 0, ha, hy0 => cases ha; cases hy0; exact D0
    | 1, ha, hy0 => cases ha; cases hy0; exact D1
  · rw [den_v hx0] at he
    exact ⟨he, hb⟩

set_option maxRecDepth 100000 in
theorem pointsRates_lifted (os : Os) (started : os.Started) (H : Type) (enc : TypeId × Value → H) :
    ReturnsInHanded {} Tryd.checked os 6 .any (fun w args => (Rows.pointsRatesSpec.pre enc Tryd.prog Tryd.f6 Rows.pointsRatesRow.domain false w args ∧ laidMet Tryd.prog Rows.pointsRatesRow.laid w) ∧ sizedMet enc Tryd.prog Tryd.f6 (OpenSpec.ofChange Rows.pointsRatesSpec) false w args) (Rows.pointsRatesSpec.post enc Tryd.prog Tryd.f6 false true false false) := by
  refine returnsInHanded_of_change_and (C := Tryd.checked) (X := fun w _ => laidMet Tryd.prog Rows.pointsRatesRow.laid w) (fun _ _ _ hh h => h.of_heap hh) pointsRates_own started (by kernel_rfl) Tryd.func6
    (ChangeSpec.witness_at (enc := enc) (C := Tryd.checked) (os := os) (X := fun w _ => laidMet Tryd.prog Rows.pointsRatesRow.laid w) false (ldWorld os) #[.agg #[.int .i64 0, .int .i64 0, .int .i64 0, .int .i64 0, .int .i64 0, .int .i64 0, .int .i64 0, .int .i64 0, .int .i64 0, .int .i64 0], .int .i64 0] 8 rfl (by kernel_rfl) (by kernel_rfl) (by kernel_rfl) (by kernel_rfl) (by kernel_rfl) (ld_met os _)) ?_
  intro W base args ds gs before hval0 hW hcnd _ hL _
  have hval : ∀ (j : Nat) t v, Tryd.f6.params[j]? = some t → args[j]? = some v → Value.okWide Tryd.prog W .any base t v := hval0
  have hW' := hW
  obtain ⟨p, q, hA0, hV, rfl, hfz, hnd⟩ := hW
  have hA : DataW.TrodAll enc Tryd.prog W 0 (fun _ => true) true Tryd.f6.params.toList args.toList ds p := hA0
  rw [Tryd.params6] at hA hval
  obtain ⟨v0, vs0, d0, ds0, p0, q0, hargs, rfl, rfl, h0, s0⟩ := trodAll_cons hA
  obtain ⟨v1, vs1, d1, ds1, p1, q1, rfl, rfl, rfl, h1, s1⟩ := trodAll_cons s0
  obtain ⟨rfl, rfl, rfl⟩ := trodAll_nil s1
  obtain rfl : args = #[v0, v1] := by cases args; simp_all
  obtain ⟨rfl, rfl⟩ := trodVars_none hV
  have k0 := h0
  have lt0 : ∀ x ∈ p0, x.block < W.heap.size := by obtain ⟨m, hm⟩ := k0; exact DataW.trod_lt m _ _ _ hm
  obtain ⟨z, D0⟩ := open_23 (hval 0 23 v0 rfl rfl) h0
  have k1 := h1
  have lt1 : ∀ x ∈ p1, x.block < W.heap.size := by obtain ⟨m, hm⟩ := k1; exact DataW.trod_lt m _ _ _ hm
  obtain ⟨b, hb, D1⟩ := open_3 (hval 1 3 v1 rfl rfl) h1
  clear hA0 hval0
  refine (pointsRates_walk W (fun w1 => tb_keep (ldTab hL)) v0 v1 z b hb D0 D1).mono fun e W' ⟨he, bel⟩ => ?_
  subst he
  exact ⟨_, rfl, _, _, _, [], _, [], hW', trodAll_mk1 (shut_bool Tryd.underlying4 _), (trodAll_cons_mk (Below.trod pointsRates_laidOut (by kernel_rfl) (of_decide_eq_true (by kernel_rfl)) k0 bel lt0) (trodAll_cons_mk (Below.trod pointsRates_laidOut (by kernel_rfl) (of_decide_eq_true (by kernel_rfl)) k1 bel lt1) trodAll_mk0)), rfl, bel.frame _, fun h => by cases h⟩

theorem pointsRates_over : Rows.pointsRatesRow.holds Tryd.pinned (OpenSpec.ofChange Rows.pointsRatesSpec) :=
  OpenClaim.holds_of_wide 6 Tryd.f6 rfl rfl rfl rfl rfl rfl rfl ⟨rfl, rfl, rfl, rfl, rfl⟩ rfl rfl rfl rfl rfl (by kernel_rfl) Tryd.func6 (by kernel_rfl)
    (of_decide_eq_true (by kernel_rfl)) (by unfold Func.isWrapper; first | (rw [if_pos (by decide +kernel)]; kernel_rfl) | (rw [if_neg (by decide +kernel)]; exact ⟨rfl, rfl⟩))
    (fun os started H enc _ => pointsRates_lifted os started H enc)

theorem pointsRates_holds : Rows.PointsRatesCardSaid :=
  Claim7.holds_tied_plain_at .later [] [.data, .data, .data] true (true, "30ca8dafd1132894d3827c3a83ab2b4681a0c4dd19686dabbba2eaa9bbe71a2a") false
    pointsRates_over (fun _ h => by cases h) (by kernel_rfl) (fun _ h => by cases h) pointsRates_row_tie rfl ⟨rfl, rfl⟩ (by kernel_rfl) rfl
    (fun f fn hf hfn => by
      obtain rfl : f = 6 := Option.some.inj ((show Tryd.prog.funcNamed Rows.pointsRatesRow.func = some 6 by kernel_rfl).symm.trans hf) |>.symm
      obtain rfl : fn = Tryd.f6 := (Option.some.inj (Tryd.func6.symm.trans hfn)).symm
      exact ⟨by kernel_rfl, fun j t ht => by
        rw [Tryd.params6] at ht
        rcases j with _ | j
        · obtain rfl : t = 23 := by simpa using ht.symm
          exact (show Tryd.prog.wantsStandIn 23 = false by kernel_rfl)
        rcases j with _ | j
        · obtain rfl : t = 3 := by simpa using ht.symm
          exact (show Tryd.prog.wantsStandIn 3 = false by kernel_rfl)
        · simp at ht⟩)
    (by kernel_rfl)
end Go.Proofs.YtfnapmdedmbdbaaDoor
