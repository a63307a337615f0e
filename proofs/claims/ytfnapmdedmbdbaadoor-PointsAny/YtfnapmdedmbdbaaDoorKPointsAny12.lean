/-
  What is proved: PointsAny returns true for every input, and each argument reads behind the call as it read before. No conditions. (The step from the walk to the row, written by program.)
-/
import Derived.Test.YtfnapmdedmbdbaaDoorKPointsAny3
import Derived.Test.YtfnapmdedmbdbaaDoorKPointsAny11
import Derived.KernelRfl
import Derived.Test.YtfnapmdedmbdbaaDoorKPointsAny5
import Derived.ProofKit
import Derived.OpenShut
import Derived.Test.YtfnapmdedmbdbaaDoorRows
import Derived.Test.YtfnapmdedmbdbaaDoorCards
import Derived.Test.YtfnapmdedmbdbaaDoorTie
import Derived.Test.YtfnapmdedmbdbaaDoorKPointsAny0
import Derived.SevenTiedAt
import Derived.ChangeOld
import Derived.Below
section
set_option linter.unusedVariables false
namespace Go.Proofs.YtfnapmdedmbdbaaDoor
open Go Go.Am

instance : Inhabited I64 := ⟨⟨0, by decide⟩⟩
instance : Inhabited U16 := ⟨⟨0, by decide⟩⟩
theorem flat_one {α : Type} (g : α → AV) (l : List α) : (l.map fun d => [g d]).flatten = l.map g := by induction l with | nil => rfl | cons a l ih => rw [List.map_cons, List.flatten_cons, ih]; rfl
theorem co23 : Tryd.prog.cellsOf 23 = 10 := by kernel_rfl
theorem co3 : Tryd.prog.cellsOf 3 = 1 := by kernel_rfl
abbrev D3 := I64
abbrev c3 : D3 → List AV := fun d => [.v (.int .i64 d.val)]
theorem cl3 (d : D3) : (c3 d).length = 1 := rfl
theorem opens3 : Opens Tryd.prog 3 c3 := opens_i64 Tryd.underlying3
abbrev D23 := D3 × D3 × D3 × D3 × D3 × D3 × D3 × D3 × D3 × D3
abbrev c23 : D23 → List AV := fun d => c3 d.1 ++ (c3 d.2.1 ++ (c3 d.2.2.1 ++ (c3 d.2.2.2.1 ++ (c3 d.2.2.2.2.1 ++ (c3 d.2.2.2.2.2.1 ++ (c3 d.2.2.2.2.2.2.1 ++ (c3 d.2.2.2.2.2.2.2.1 ++ (c3 d.2.2.2.2.2.2.2.2.1 ++ (c3 d.2.2.2.2.2.2.2.2.2 ++ ([]))))))))))
theorem cl23 (d : D23) : (c23 d).length = 10 := rfl
theorem opens23 : Opens Tryd.prog 23 c23 := by
  intro H enc w held n cs x h
  obtain ⟨xs, m, _, rfl, hl, hlen, hf⟩ := DataW.trod_struct Tryd.underlying23 h
  rw [co23] at hl
  have g0 := hf 0 _ rfl
  rw [List.getElem?_eq_getElem (by rw [hlen]; decide)] at g0
  obtain ⟨d0, E0⟩ := opens3 _ _ _ _ _ _ _ g0
  have D0 : DLs w (c3 d0) ((cs.drop 0).take (Tryd.prog.cellsOf 3)) := E0
  rw [co3] at D0
  have g1 := hf 1 _ rfl
  rw [List.getElem?_eq_getElem (by rw [hlen]; decide)] at g1
  obtain ⟨d1, E1⟩ := opens3 _ _ _ _ _ _ _ g1
  have D1 : DLs w (c3 d1) ((cs.drop 1).take (Tryd.prog.cellsOf 3)) := E1
  rw [co3] at D1
  have g2 := hf 2 _ rfl
  rw [List.getElem?_eq_getElem (by rw [hlen]; decide)] at g2
  obtain ⟨d2, E2⟩ := opens3 _ _ _ _ _ _ _ g2
  have D2 : DLs w (c3 d2) ((cs.drop 2).take (Tryd.prog.cellsOf 3)) := E2
  rw [co3] at D2
  have g3 := hf 3 _ rfl
  rw [List.getElem?_eq_getElem (by rw [hlen]; decide)] at g3
  obtain ⟨d3, E3⟩ := opens3 _ _ _ _ _ _ _ g3
  have D3 : DLs w (c3 d3) ((cs.drop 3).take (Tryd.prog.cellsOf 3)) := E3
  rw [co3] at D3
  have g4 := hf 4 _ rfl
  rw [List.getElem?_eq_getElem (by rw [hlen]; decide)] at g4
  obtain ⟨d4, E4⟩ := opens3 _ _ _ _ _ _ _ g4
  have D4 : DLs w (c3 d4) ((cs.drop 4).take (Tryd.prog.cellsOf 3)) := E4
  rw [co3] at D4
  have g5 := hf 5 _ rfl
  rw [List.getElem?_eq_getElem (by rw [hlen]; decide)] at g5
  obtain ⟨d5, E5⟩ := opens3 _ _ _ _ _ _ _ g5
  have D5 : DLs w (c3 d5) ((cs.drop 5).take (Tryd.prog.cellsOf 3)) := E5
  rw [co3] at D5
  have g6 := hf 6 _ rfl
  rw [List.getElem?_eq_getElem (by rw [hlen]; decide)] at g6
  obtain ⟨d6, E6⟩ := opens3 _ _ _ _ _ _ _ g6
  have D6 : DLs w (c3 d6) ((cs.drop 6).take (Tryd.prog.cellsOf 3)) := E6
  rw [co3] at D6
  have g7 := hf 7 _ rfl
  rw [List.getElem?_eq_getElem (by rw [hlen]; decide)] at g7
  obtain ⟨d7, E7⟩ := opens3 _ _ _ _ _ _ _ g7
  have D7 : DLs w (c3 d7) ((cs.drop 7).take (Tryd.prog.cellsOf 3)) := E7
  rw [co3] at D7
  have g8 := hf 8 _ rfl
  rw [List.getElem?_eq_getElem (by rw [hlen]; decide)] at g8
  obtain ⟨d8, E8⟩ := opens3 _ _ _ _ _ _ _ g8
  have D8 : DLs w (c3 d8) ((cs.drop 8).take (Tryd.prog.cellsOf 3)) := E8
  rw [co3] at D8
  have g9 := hf 9 _ rfl
  rw [List.getElem?_eq_getElem (by rw [hlen]; decide)] at g9
  obtain ⟨d9, E9⟩ := opens3 _ _ _ _ _ _ _ g9
  have D9 : DLs w (c3 d9) ((cs.drop 9).take (Tryd.prog.cellsOf 3)) := E9
  rw [co3] at D9
  refine ⟨(d0, d1, d2, d3, d4, d5, d6, d7, d8, d9), ?_⟩
  have key : DLs w (c23 (d0, d1, d2, d3, d4, d5, d6, d7, d8, d9)) (cs.drop 0) := dls_split D0 (cl3 _) (dls_split D1 (cl3 _) (dls_split D2 (cl3 _) (dls_split D3 (cl3 _) (dls_split D4 (cl3 _) (dls_split D5 (cl3 _) (dls_split D6 (cl3 _) (dls_split D7 (cl3 _) (dls_split D8 (cl3 _) (dls_split D9 (cl3 _) (dls_end (by rw [hl])))))))))))
  rwa [List.drop_zero] at key
theorem co32 : Tryd.prog.cellsOf 32 = 1 := by kernel_rfl
theorem co34 : Tryd.prog.cellsOf 34 = 8 := by kernel_rfl
theorem co4 : Tryd.prog.cellsOf 4 = 1 := by kernel_rfl
abbrev D4 := Bool
abbrev c4 : D4 → List AV := fun d => [.v (.bool d)]
theorem cl4 (d : D4) : (c4 d).length = 1 := rfl
theorem opens4 : Opens Tryd.prog 4 c4 := opens_bool Tryd.underlying4
abbrev D34 := D3 × D3 × D3 × D3 × D3 × D3 × D3 × D4
abbrev c34 : D34 → List AV := fun d => c3 d.1 ++ (c3 d.2.1 ++ (c3 d.2.2.1 ++ (c3 d.2.2.2.1 ++ (c3 d.2.2.2.2.1 ++ (c3 d.2.2.2.2.2.1 ++ (c3 d.2.2.2.2.2.2.1 ++ (c4 d.2.2.2.2.2.2.2 ++ ([]))))))))
theorem cl34 (d : D34) : (c34 d).length = 8 := rfl
theorem opens34 : Opens Tryd.prog 34 c34 := by
  intro H enc w held n cs x h
  obtain ⟨xs, m, _, rfl, hl, hlen, hf⟩ := DataW.trod_struct Tryd.underlying34 h
  rw [co34] at hl
  have g0 := hf 0 _ rfl
  rw [List.getElem?_eq_getElem (by rw [hlen]; decide)] at g0
  obtain ⟨d0, E0⟩ := opens3 _ _ _ _ _ _ _ g0
  have D0 : DLs w (c3 d0) ((cs.drop 0).take (Tryd.prog.cellsOf 3)) := E0
  rw [co3] at D0
  have g1 := hf 1 _ rfl
  rw [List.getElem?_eq_getElem (by rw [hlen]; decide)] at g1
  obtain ⟨d1, E1⟩ := opens3 _ _ _ _ _ _ _ g1
  have D1 : DLs w (c3 d1) ((cs.drop 1).take (Tryd.prog.cellsOf 3)) := E1
  rw [co3] at D1
  have g2 := hf 2 _ rfl
  rw [List.getElem?_eq_getElem (by rw [hlen]; decide)] at g2
  obtain ⟨d2, E2⟩ := opens3 _ _ _ _ _ _ _ g2
  have D2 : DLs w (c3 d2) ((cs.drop 2).take (Tryd.prog.cellsOf 3)) := E2
  rw [co3] at D2
  have g3 := hf 3 _ rfl
  rw [List.getElem?_eq_getElem (by rw [hlen]; decide)] at g3
  obtain ⟨d3, E3⟩ := opens3 _ _ _ _ _ _ _ g3
  have D3 : DLs w (c3 d3) ((cs.drop 3).take (Tryd.prog.cellsOf 3)) := E3
  rw [co3] at D3
  have g4 := hf 4 _ rfl
  rw [List.getElem?_eq_getElem (by rw [hlen]; decide)] at g4
  obtain ⟨d4, E4⟩ := opens3 _ _ _ _ _ _ _ g4
  have D4 : DLs w (c3 d4) ((cs.drop 4).take (Tryd.prog.cellsOf 3)) := E4
  rw [co3] at D4
  have g5 := hf 5 _ rfl
  rw [List.getElem?_eq_getElem (by rw [hlen]; decide)] at g5
  obtain ⟨d5, E5⟩ := opens3 _ _ _ _ _ _ _ g5
  have D5 : DLs w (c3 d5) ((cs.drop 5).take (Tryd.prog.cellsOf 3)) := E5
  rw [co3] at D5
  have g6 := hf 6 _ rfl
  rw [List.getElem?_eq_getElem (by rw [hlen]; decide)] at g6
  obtain ⟨d6, E6⟩ := opens3 _ _ _ _ _ _ _ g6
  have D6 : DLs w (c3 d6) ((cs.drop 6).take (Tryd.prog.cellsOf 3)) := E6
  rw [co3] at D6
  have g7 := hf 7 _ rfl
  rw [List.getElem?_eq_getElem (by rw [hlen]; decide)] at g7
  obtain ⟨d7, E7⟩ := opens4 _ _ _ _ _ _ _ g7
  have D7 : DLs w (c4 d7) ((cs.drop 7).take (Tryd.prog.cellsOf 4)) := E7
  rw [co4] at D7
  refine ⟨(d0, d1, d2, d3, d4, d5, d6, d7), ?_⟩
  have key : DLs w (c34 (d0, d1, d2, d3, d4, d5, d6, d7)) (cs.drop 0) := dls_split D0 (cl3 _) (dls_split D1 (cl3 _) (dls_split D2 (cl3 _) (dls_split D3 (cl3 _) (dls_split D4 (cl3 _) (dls_split D5 (cl3 _) (dls_split D6 (cl3 _) (dls_split D7 (cl4 _) (dls_end (by rw [hl])))))))))
  rwa [List.drop_zero] at key
abbrev D32 := List D34
abbrev c32 : D32 → List AV := fun l => [.sl l.length (l.map c34).flatten]
theorem cl32 (d : D32) : (c32 d).length = 1 := rfl
theorem opens32 : Opens Tryd.prog 32 c32 := opens_slice Tryd.underlying32 co34 (by decide) opens34 cl34
end Go.Proofs.YtfnapmdedmbdbaaDoor
end
section
set_option linter.unusedVariables false
set_option linter.unusedSimpArgs false
set_option maxRecDepth 10000
namespace Go.Proofs.YtfnapmdedmbdbaaDoor
open Go Go.Am Go.ChangeShapes Go.WideShapes Go.ChangeAt Go.RowKit
def st23 (x : D23) : St := ⟨x.1.val, x.2.1.val, x.2.2.1.val, x.2.2.2.1.val, x.2.2.2.2.1.val, x.2.2.2.2.2.1.val, x.2.2.2.2.2.2.1.val, x.2.2.2.2.2.2.2.1.val, x.2.2.2.2.2.2.2.2.1.val, x.2.2.2.2.2.2.2.2.2.val⟩
theorem c23_st (x : D23) : c23 x = stL (st23 x) := rfl
section
variable {H : Type} {enc : TypeId × Value → H} {W : World} {base : Nat} {r : Reach} {v : Value} {d : DataW H} {p : List MemPlace}
theorem open_23 (hval : Value.okWide Tryd.prog W r base 23 v) (h : DataW.Trod enc Tryd.prog W 0 (fun _ => true) true 23 v d p) : ∃ z : St, Den [] (In W) W (stA z) v := by
  obtain ⟨cs, rfl, hs⟩ := okWide_struct Tryd.underlying23 hval
  obtain ⟨x, hx⟩ := open_agg opens23 h
  rw [c23_st] at hx
  exact ⟨_, hx⟩
theorem open_3 (hval : Value.okWide Tryd.prog W r base 3 v) (h : DataW.Trod enc Tryd.prog W 0 (fun _ => true) true 3 v d p) : ∃ (n : Int) (hn : -9223372036854775808 ≤ n ∧ n ≤ 9223372036854775807), Den [] (In W) W (AV.i n) v := by
  obtain ⟨n, rfl⟩ := okWide_int Tryd.underlying3 hval
  obtain ⟨fuel, hf⟩ := h
  obtain ⟨x, hx⟩ := opens3 _ _ _ _ _ _ _ hf
  exact ⟨x.val, x.property, hx.2 0 _ _ rfl rfl⟩
end
end Go.Proofs.YtfnapmdedmbdbaaDoor
end
section
set_option linter.unusedVariables false
set_option linter.unusedSimpArgs false
set_option maxRecDepth 10000
namespace Go.Proofs.YtfnapmdedmbdbaaDoor
open Go Go.Am Go.ChangeShapes Go.WideShapes Go.ChangeAt Go.RowKit
def plOf (d : D34) : Pl := ⟨d.1.val, d.2.1.val, d.2.2.1.val, d.2.2.2.1.val, d.2.2.2.2.1.val, d.2.2.2.2.2.1.val, d.2.2.2.2.2.2.1.val, d.2.2.2.2.2.2.2⟩
theorem c34_eq (d : D34) : c34 d = plC (plOf d) := rfl
theorem c32_eq (d : D32) : c32 d = [plsAV (d.map plOf)] := by
  have e : (d.map c34) = (d.map plOf).map plC := by
    rw [List.map_map]
    exact List.map_congr_left fun x _ => c34_eq x
  show [AV.sl d.length (d.map c34).flatten] = _
  rw [e, plsAV, List.length_map]
  rfl
section
variable {H : Type} {enc : TypeId × Value → H} {W : World} {base : Nat} {r : Reach} {v : Value} {d : DataW H} {p : List MemPlace}
theorem open_5 (hval : Value.okWide Tryd.prog W r base 5 v) (h : DataW.Trod enc Tryd.prog W 0 (fun _ => true) true 5 v d p) : ∃ n : Int, 0 ≤ n ∧ n ≤ 255 ∧ Den [] (In W) W (.v (.int .u8 n)) v := by
  obtain ⟨fuel, hf⟩ := h
  obtain ⟨n, rfl⟩ := okWide_int Tryd.underlying5 hval
  obtain ⟨m, hm, _, hw⟩ := DataW.trod_int Tryd.underlying5 hf
  cases hm
  simp only [Lit.wf, decide_eq_true_eq, Bool.and_eq_true] at hw
  exact ⟨n, hw.1, hw.2, .v _⟩
theorem open_32 (hval : Value.okWide Tryd.prog W r base 32 v) (h : DataW.Trod enc Tryd.prog W 0 (fun _ => true) true 32 v d p) :
    ∃ l : List Pl, Den [] (In W) W (plsAV l) v := by
  obtain ⟨a, len, cap, rfl⟩ := okWide_slice Tryd.underlying32 hval
  obtain ⟨fuel, hf⟩ := h
  obtain ⟨x, hx⟩ := opens32 _ _ _ _ _ _ _ hf
  rw [c32_eq] at hx
  exact ⟨x.map plOf, hx.2 0 _ _ rfl rfl⟩
end
end Go.Proofs.YtfnapmdedmbdbaaDoor
end
section
namespace Go.Proofs.YtfnapmdedmbdbaaDoor
open Go Go.Am Go.ChangeShapes Go.WideShapes Go.ChangeAt Go.RowKit
set_option linter.unusedVariables false

theorem pointsAny_own : ownKnob Tryd.prog.godebug = none := by kernel_rfl
theorem pointsAny_laidOut : laidOutB Tryd.prog = true := by kernel_rfl

theorem pointsAny_walk (w : World) (hT : ∀ w1 : World, (∀ k, k < w.heap.size → w1.heap[k]? = w.heap[k]?) → Tb w1) (v0 v1 v2 : Value) (n : Int) (l : List Pl) (k : Int) (hn : -9223372036854775808 ≤ n ∧ n ≤ 9223372036854775807) (hk0 : 0 ≤ k) (hk1 : k ≤ 255) (D0 : Den [] (In w) w (AV.i n) v0) (D1 : Den [] (In w) w (plsAV l) v1) (D2 : Den [] (In w) w (.v (.int .u8 k)) v2) :
    Calls Tryd.prog 5 #[v0, v1, v2] w fun e w' => e = .returned (.bool true) ∧ Below w.heap.size w w' := by
  obtain ⟨n0, r0, H0, hac, rfl⟩ := pany_ok 0 [] n hn l k ⟨hk0, hk1⟩
  refine (calls_of_acall sig_ok (f := 5) rfl hac ⟨rfl, ?_⟩ hT).mono fun e w' ⟨x0, I', he, hx0, hb⟩ => ?_
  · intro j a y0 ha hy0
    match j, ha, hy0 with
    | 0, ha, hy0 => cases ha; cases hy0; exact D0
    | 1, ha, hy0 => cases ha; cases hy0; exact D1
    | 2, ha, hy0 => cases ha; cases hy0; exact D2
  · rw [den_v hx0] at he
    exact ⟨he, hb⟩

set_option maxRecDepth 100000 in
theorem pointsAny_lifted (os : Os) (started : os.Started) (H : Type) (enc : TypeId × Value → H) :
    ReturnsInHanded {} Tryd.checked os 5 .any (fun w args => (Rows.pointsAnySpec.pre enc Tryd.prog Tryd.f5 Rows.pointsAnyRow.domain false w args ∧ laidMet Tryd.prog Rows.pointsAnyRow.laid w) ∧ sizedMet enc Tryd.prog Tryd.f5 (OpenSpec.ofChange Rows.pointsAnySpec) false w args) (Rows.pointsAnySpec.post enc Tryd.prog Tryd.f5 false true false false) := by
  refine returnsInHanded_of_change_and (C := Tryd.checked) (X := fun w _ => laidMet Tryd.prog Rows.pointsAnyRow.laid w) (fun _ _ _ hh h => h.of_heap hh) pointsAny_own started (by kernel_rfl) Tryd.func5
    (ChangeSpec.witness_at (enc := enc) (C := Tryd.checked) (os := os) (X := fun w _ => laidMet Tryd.prog Rows.pointsAnyRow.laid w) false (ldWorld os) #[.int .i64 0, .slice none 0 0, .int .u8 0] 8 rfl (by kernel_rfl) (by kernel_rfl) (by kernel_rfl) (by kernel_rfl) (by kernel_rfl) (ld_met os _)) ?_
  intro W base args ds gs before hval0 hW hcnd _ hL _
  have hval : ∀ (j : Nat) t v, Tryd.f5.params[j]? = some t → args[j]? = some v → Value.okWide Tryd.prog W .any base t v := hval0
  have hW' := hW
  obtain ⟨p, q, hA0, hV, rfl, hfz, hnd⟩ := hW
  have hA : DataW.TrodAll enc Tryd.prog W 0 (fun _ => true) true Tryd.f5.params.toList args.toList ds p := hA0
  rw [Tryd.params5] at hA hval
  obtain ⟨v0, vs0, d0, ds0, p0, q0, hargs, rfl, rfl, h0, s0⟩ := trodAll_cons hA
  obtain ⟨v1, vs1, d1, ds1, p1, q1, rfl, rfl, rfl, h1, s1⟩ := trodAll_cons s0
  obtain ⟨v2, vs2, d2, ds2, p2, q2, rfl, rfl, rfl, h2, s2⟩ := trodAll_cons s1
  obtain ⟨rfl, rfl, rfl⟩ := trodAll_nil s2
  obtain rfl : args = #[v0, v1, v2] := by cases args; simp_all
  obtain ⟨rfl, rfl⟩ := trodVars_none hV
  have k0 := h0
  have lt0 : ∀ x ∈ p0, x.block < W.heap.size := by obtain ⟨m, hm⟩ := k0; exact DataW.trod_lt m _ _ _ hm
  obtain ⟨n, hn, D0⟩ := open_3 (hval 0 3 v0 rfl rfl) h0
  have k1 := h1
  have lt1 : ∀ x ∈ p1, x.block < W.heap.size := by obtain ⟨m, hm⟩ := k1; exact DataW.trod_lt m _ _ _ hm
  obtain ⟨l, D1⟩ := open_32 (hval 1 32 v1 rfl rfl) h1
  have k2 := h2
  have lt2 : ∀ x ∈ p2, x.block < W.heap.size := by obtain ⟨m, hm⟩ := k2; exact DataW.trod_lt m _ _ _ hm
  obtain ⟨k, hk0, hk1, D2⟩ := open_5 (hval 2 5 v2 rfl rfl) h2
  clear hA0 hval0
  refine (pointsAny_walk W (fun w1 => tb_keep (ldTab hL)) v0 v1 v2 n l k hn hk0 hk1 D0 D1 D2).mono fun e W' ⟨he, bel⟩ => ?_
  subst he
  exact ⟨_, rfl, _, _, _, [], _, [], hW', trodAll_mk1 (shut_bool Tryd.underlying4 _), (trodAll_cons_mk (Below.trod pointsAny_laidOut (by kernel_rfl) (of_decide_eq_true (by kernel_rfl)) k0 bel lt0) (trodAll_cons_mk (Below.trod pointsAny_laidOut (by kernel_rfl) (of_decide_eq_true (by kernel_rfl)) k1 bel lt1) (trodAll_cons_mk (Below.trod pointsAny_laidOut (by kernel_rfl) (of_decide_eq_true (by kernel_rfl)) k2 bel lt2) trodAll_mk0))), rfl, bel.frame _, fun h => by cases h⟩

theorem pointsAny_over : Rows.pointsAnyRow.holds Tryd.pinned (OpenSpec.ofChange Rows.pointsAnySpec) :=
  OpenClaim.holds_of_wide 5 Tryd.f5 rfl rfl rfl rfl rfl rfl rfl ⟨rfl, rfl, rfl, rfl, rfl⟩ rfl rfl rfl rfl rfl (by kernel_rfl) Tryd.func5 (by kernel_rfl)
    (of_decide_eq_true (by kernel_rfl)) (by unfold Func.isWrapper; first | (rw [if_pos (by decide +kernel)]; kernel_rfl) | (rw [if_neg (by decide +kernel)]; exact ⟨rfl, rfl⟩))
    (fun os started H enc _ => pointsAny_lifted os started H enc)

theorem pointsAny_holds : Rows.PointsAnyCardSaid :=
  Claim7.holds_tied_plain_at .later [] [.data, .data, .data] true (true, "30ca8dafd1132894d3827c3a83ab2b4681a0c4dd19686dabbba2eaa9bbe71a2a") false
    pointsAny_over (fun _ h => by cases h) (by kernel_rfl) (fun _ h => by cases h) pointsAny_row_tie rfl ⟨rfl, rfl⟩ (by kernel_rfl) rfl
    (fun f fn hf hfn => by
      obtain rfl : f = 5 := Option.some.inj ((show Tryd.prog.funcNamed Rows.pointsAnyRow.func = some 5 by kernel_rfl).symm.trans hf) |>.symm
      obtain rfl : fn = Tryd.f5 := (Option.some.inj (Tryd.func5.symm.trans hfn)).symm
      exact ⟨by kernel_rfl, fun j t ht => by
        rw [Tryd.params5] at ht
        rcases j with _ | j
        · obtain rfl : t = 3 := by simpa using ht.symm
          exact (show Tryd.prog.wantsStandIn 3 = false by kernel_rfl)
        rcases j with _ | j
        · obtain rfl : t = 32 := by simpa using ht.symm
          exact (show Tryd.prog.wantsStandIn 32 = false by kernel_rfl)
        rcases j with _ | j
        · obtain rfl : t = 5 := by simpa using ht.symm
          exact (show Tryd.prog.wantsStandIn 5 = false by kernel_rfl)
        · simp at ht⟩)
    (by kernel_rfl)
end Go.Proofs.YtfnapmdedmbdbaaDoor
end
