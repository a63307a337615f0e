/-
  What is proved: TopRace returns true for every input, and each argument reads behind the call as it read before. No conditions. (The step from the walk to the row, written by program.)
-/
import Derived.Test.YtdicnojnkbmdlaaKTopRace3
import Derived.Test.YtdicnojnkbmdlaaKTopRace14
import Derived.KernelRfl
import Derived.Test.YtdicnojnkbmdlaaKTopRace5
import Derived.Test.YtdicnojnkbmdlaaRows
import Derived.ProofKit
import Derived.OpenShut
import Derived.ChangeOld
import Derived.Below
section
set_option linter.unusedVariables false
namespace Go.Proofs.Ytdicnojnkbmdlaa
open Go Go.Am

instance : Inhabited I64 := ⟨⟨0, by decide⟩⟩
instance : Inhabited U16 := ⟨⟨0, by decide⟩⟩
theorem flat_one {α : Type} (g : α → AV) (l : List α) : (l.map fun d => [g d]).flatten = l.map g := by induction l with | nil => rfl | cons a l ih => rw [List.map_cons, List.flatten_cons, ih]; rfl
theorem co43 : Try.prog.cellsOf 43 = 2 := by kernel_rfl
theorem co40 : Try.prog.cellsOf 40 = 1 := by kernel_rfl
theorem co3 : Try.prog.cellsOf 3 = 1 := by kernel_rfl
abbrev D3 := I64
abbrev c3 : D3 → List AV := fun d => [.v (.int .i64 d.val)]
theorem cl3 (d : D3) : (c3 d).length = 1 := rfl
theorem opens3 : Opens Try.prog 3 c3 := opens_i64 Try.underlying3
abbrev D40 := List D3
abbrev c40 : D40 → List AV := fun l => [.sl l.length (l.map c3).flatten]
theorem cl40 (d : D40) : (c40 d).length = 1 := rfl
theorem opens40 : Opens Try.prog 40 c40 := opens_slice Try.underlying40 co3 (by decide) opens3 cl3
theorem co41 : Try.prog.cellsOf 41 = 1 := by kernel_rfl
theorem co58 : Try.prog.cellsOf 58 = 2 := by kernel_rfl
abbrev D58 := {l : List D3 // l.length = 2}
abbrev c58 : D58 → List AV := fun l => (l.val.map c3).flatten
theorem cl58 (d : D58) : (c58 d).length = 2 := by rw [flat_unilen cl3, d.property]
theorem opens58 : Opens Try.prog 58 c58 := opens_array Try.underlying58 co3 (by rw [co58]) opens3 cl3
abbrev D41 := List D58
abbrev c41 : D41 → List AV := fun l => [.sl l.length (l.map c58).flatten]
theorem cl41 (d : D41) : (c41 d).length = 1 := rfl
theorem opens41 : Opens Try.prog 41 c41 := opens_slice Try.underlying41 co58 (by decide) opens58 cl58
abbrev D43 := D40 × D41
abbrev c43 : D43 → List AV := fun d => c40 d.1 ++ (c41 d.2 ++ ([]))
theorem cl43 (d : D43) : (c43 d).length = 2 := rfl
theorem opens43 : Opens Try.prog 43 c43 := by
  intro H enc w held n cs x h
  obtain ⟨xs, m, _, rfl, hl, hlen, hf⟩ := DataW.trod_struct Try.underlying43 h
  rw [co43] at hl
  have g0 := hf 0 _ rfl
  rw [List.getElem?_eq_getElem (by rw [hlen]; decide)] at g0
  obtain ⟨d0, E0⟩ := opens40 _ _ _ _ _ _ _ g0
  have D0 : DLs w (c40 d0) ((cs.drop 0).take (Try.prog.cellsOf 40)) := E0
  rw [co40] at D0
  have g1 := hf 1 _ rfl
  rw [List.getElem?_eq_getElem (by rw [hlen]; decide)] at g1
  obtain ⟨d1, E1⟩ := opens41 _ _ _ _ _ _ _ g1
  have D1 : DLs w (c41 d1) ((cs.drop 1).take (Try.prog.cellsOf 41)) := E1
  rw [co41] at D1
  refine ⟨(d0, d1), ?_⟩
  have key : DLs w (c43 (d0, d1)) (cs.drop 0) := dls_split D0 (cl40 _) (dls_split D1 (cl41 _) (dls_end (by rw [hl])))
  rwa [List.drop_zero] at key
theorem co46 : Try.prog.cellsOf 46 = 3 := by kernel_rfl
theorem co4 : Try.prog.cellsOf 4 = 1 := by kernel_rfl
abbrev D4 := Bool
abbrev c4 : D4 → List AV := fun d => [.v (.bool d)]
theorem cl4 (d : D4) : (c4 d).length = 1 := rfl
theorem opens4 : Opens Try.prog 4 c4 := opens_bool Try.underlying4
abbrev D46 := D4 × D40 × D40
abbrev c46 : D46 → List AV := fun d => c4 d.1 ++ (c40 d.2.1 ++ (c40 d.2.2 ++ ([])))
theorem cl46 (d : D46) : (c46 d).length = 3 := rfl
theorem opens46 : Opens Try.prog 46 c46 := by
  intro H enc w held n cs x h
  obtain ⟨xs, m, _, rfl, hl, hlen, hf⟩ := DataW.trod_struct Try.underlying46 h
  rw [co46] at hl
  have g0 := hf 0 _ rfl
  rw [List.getElem?_eq_getElem (by rw [hlen]; decide)] at g0
  obtain ⟨d0, E0⟩ := opens4 _ _ _ _ _ _ _ g0
  have D0 : DLs w (c4 d0) ((cs.drop 0).take (Try.prog.cellsOf 4)) := E0
  rw [co4] at D0
  have g1 := hf 1 _ rfl
  rw [List.getElem?_eq_getElem (by rw [hlen]; decide)] at g1
  obtain ⟨d1, E1⟩ := opens40 _ _ _ _ _ _ _ g1
  have D1 : DLs w (c40 d1) ((cs.drop 1).take (Try.prog.cellsOf 40)) := E1
  rw [co40] at D1
  have g2 := hf 2 _ rfl
  rw [List.getElem?_eq_getElem (by rw [hlen]; decide)] at g2
  obtain ⟨d2, E2⟩ := opens40 _ _ _ _ _ _ _ g2
  have D2 : DLs w (c40 d2) ((cs.drop 2).take (Try.prog.cellsOf 40)) := E2
  rw [co40] at D2
  refine ⟨(d0, d1, d2), ?_⟩
  have key : DLs w (c46 (d0, d1, d2)) (cs.drop 0) := dls_split D0 (cl4 _) (dls_split D1 (cl40 _) (dls_split D2 (cl40 _) (dls_end (by rw [hl]))))
  rwa [List.drop_zero] at key
theorem co24 : Try.prog.cellsOf 24 = 4 := by kernel_rfl
theorem co22 : Try.prog.cellsOf 22 = 1 := by kernel_rfl
theorem co66 : Try.prog.cellsOf 66 = 3 := by kernel_rfl
theorem co2 : Try.prog.cellsOf 2 = 1 := by kernel_rfl
abbrev D2 := I64
abbrev c2 : D2 → List AV := fun d => [.v (.int .i64 d.val)]
theorem cl2 (d : D2) : (c2 d).length = 1 := rfl
theorem opens2 : Opens Try.prog 2 c2 := opens_i64 Try.underlying2
abbrev D66 := D3 × D3 × D2
abbrev c66 : D66 → List AV := fun d => c3 d.1 ++ (c3 d.2.1 ++ (c2 d.2.2 ++ ([])))
theorem cl66 (d : D66) : (c66 d).length = 3 := rfl
theorem opens66 : Opens Try.prog 66 c66 := by
  intro H enc w held n cs x h
  obtain ⟨xs, m, _, rfl, hl, hlen, hf⟩ := DataW.trod_struct Try.underlying66 h
  rw [co66] at hl
  have g0 := hf 0 _ rfl
  rw [List.getElem?_eq_getElem (by rw [hlen]; decide)] at g0
  obtain ⟨d0, E0⟩ := opens3 _ _ _ _ _ _ _ g0
  have D0 : DLs w (c3 d0) ((cs.drop 0).take (Try.prog.cellsOf 3)) := E0
  rw [co3] at D0
  have g1 := hf 1 _ rfl
  rw [List.getElem?_eq_getElem (by rw [hlen]; decide)] at g1
  obtain ⟨d1, E1⟩ := opens3 _ _ _ _ _ _ _ g1
  have D1 : DLs w (c3 d1) ((cs.drop 1).take (Try.prog.cellsOf 3)) := E1
  rw [co3] at D1
  have g2 := hf 2 _ rfl
  rw [List.getElem?_eq_getElem (by rw [hlen]; decide)] at g2
  obtain ⟨d2, E2⟩ := opens2 _ _ _ _ _ _ _ g2
  have D2 : DLs w (c2 d2) ((cs.drop 2).take (Try.prog.cellsOf 2)) := E2
  rw [co2] at D2
  refine ⟨(d0, d1, d2), ?_⟩
  have key : DLs w (c66 (d0, d1, d2)) (cs.drop 0) := dls_split D0 (cl3 _) (dls_split D1 (cl3 _) (dls_split D2 (cl2 _) (dls_end (by rw [hl]))))
  rwa [List.drop_zero] at key
abbrev D22 := List D66
abbrev c22 : D22 → List AV := fun l => [.sl l.length (l.map c66).flatten]
theorem cl22 (d : D22) : (c22 d).length = 1 := rfl
theorem opens22 : Opens Try.prog 22 c22 := opens_slice Try.underlying22 co66 (by decide) opens66 cl66
abbrev D24 := D3 × D3 × D3 × D22
abbrev c24 : D24 → List AV := fun d => c3 d.1 ++ (c3 d.2.1 ++ (c3 d.2.2.1 ++ (c22 d.2.2.2 ++ ([]))))
theorem cl24 (d : D24) : (c24 d).length = 4 := rfl
theorem opens24 : Opens Try.prog 24 c24 := by
  intro H enc w held n cs x h
  obtain ⟨xs, m, _, rfl, hl, hlen, hf⟩ := DataW.trod_struct Try.underlying24 h
  rw [co24] at hl
  have g0 := hf 0 _ rfl
  rw [List.getElem?_eq_getElem (by rw [hlen]; decide)] at g0
  obtain ⟨d0, E0⟩ := opens3 _ _ _ _ _ _ _ g0
  have D0 : DLs w (c3 d0) ((cs.drop 0).take (Try.prog.cellsOf 3)) := E0
  rw [co3] at D0
  have g1 := hf 1 _ rfl
  rw [List.getElem?_eq_getElem (by rw [hlen]; decide)] at g1
  obtain ⟨d1, E1⟩ := opens3 _ _ _ _ _ _ _ g1
  have D1 : DLs w (c3 d1) ((cs.drop 1).take (Try.prog.cellsOf 3)) := E1
  rw [co3] at D1
  have g2 := hf 2 _ rfl
  rw [List.getElem?_eq_getElem (by rw [hlen]; decide)] at g2
  obtain ⟨d2, E2⟩ := opens3 _ _ _ _ _ _ _ g2
  have D2 : DLs w (c3 d2) ((cs.drop 2).take (Try.prog.cellsOf 3)) := E2
  rw [co3] at D2
  have g3 := hf 3 _ rfl
  rw [List.getElem?_eq_getElem (by rw [hlen]; decide)] at g3
  obtain ⟨d3, E3⟩ := opens22 _ _ _ _ _ _ _ g3
  have D3 : DLs w (c22 d3) ((cs.drop 3).take (Try.prog.cellsOf 22)) := E3
  rw [co22] at D3
  refine ⟨(d0, d1, d2, d3), ?_⟩
  have key : DLs w (c24 (d0, d1, d2, d3)) (cs.drop 0) := dls_split D0 (cl3 _) (dls_split D1 (cl3 _) (dls_split D2 (cl3 _) (dls_split D3 (cl22 _) (dls_end (by rw [hl])))))
  rwa [List.drop_zero] at key
theorem co27 : Try.prog.cellsOf 27 = 1 := by kernel_rfl
abbrev D27 := List D2
abbrev c27 : D27 → List AV := fun l => [.sl l.length (l.map c2).flatten]
theorem cl27 (d : D27) : (c27 d).length = 1 := rfl
theorem opens27 : Opens Try.prog 27 c27 := opens_slice Try.underlying27 co2 (by decide) opens2 cl2
theorem co28 : Try.prog.cellsOf 28 = 1 := by kernel_rfl
abbrev D28 := List D4
abbrev c28 : D28 → List AV := fun l => [.sl l.length (l.map c4).flatten]
theorem cl28 (d : D28) : (c28 d).length = 1 := rfl
theorem opens28 : Opens Try.prog 28 c28 := opens_slice Try.underlying28 co4 (by decide) opens4 cl4
end Go.Proofs.Ytdicnojnkbmdlaa
end
section
set_option linter.unusedVariables false
set_option linter.unusedSimpArgs false
set_option maxRecDepth 10000
namespace Go.Proofs.Ytdicnojnkbmdlaa
open Go Go.Am Go.ChangeShapes Go.WideShapes Go.ChangeAt Go.RowKit
theorem list2 {α : Type} {l : List α} (h : l.length = 2) : ∃ x y, l = [x, y] := by
  match l, h with
  | [x, y], _ => exact ⟨x, y, rfl⟩
def prOf (d : D58) : Pr := ⟨(gt d.val 0).val, (gt d.val 1).val⟩
theorem c58_eq (d : D58) : c58 d = prC (prOf d) := by
  obtain ⟨l, h⟩ := d
  obtain ⟨x, y, rfl⟩ := list2 h
  rfl
theorem c41_eq (d : D41) : c41 d = [prsAV (d.map prOf)] := by
  have e : (d.map c58) = (d.map prOf).map prC := by
    rw [List.map_map]
    exact List.map_congr_left fun x _ => c58_eq x
  show [AV.sl d.length (d.map c58).flatten] = _
  rw [e]
  simp only [prsAV, flatP, List.length_map]
abbrev intOf (d : D40) : List Int := d.map (·.val)
theorem c40_eq (d : D40) : c40 d = [intsAV (intOf d)] := by
  simp only [c40, c3, flat_one, intsAV, intOf, List.length_map, List.map_map, Function.comp_def]
section
variable {H : Type} {enc : TypeId × Value → H} {W : World} {base : Nat} {r : Reach} {v : Value} {d : DataW H} {p : List MemPlace}
theorem open_43 (hval : Value.okWide Try.prog W r base 43 v) (h : DataW.Trod enc Try.prog W 0 (fun _ => true) true 43 v d p) :
    ∃ (P : List Int) (L : List Pr), Den [] (In W) W (.agg (raceC P L)) v := by
  obtain ⟨cs, rfl, hs⟩ := okWide_struct Try.underlying43 hval
  obtain ⟨x, hx⟩ := open_agg opens43 h
  have e : c43 x = raceC (intOf x.1) (x.2.map prOf) := by
    show c40 x.1 ++ (c41 x.2 ++ []) = _
    rw [c40_eq, c41_eq]; rfl
  rw [e] at hx
  exact ⟨_, _, hx⟩
theorem open_40 (hval : Value.okWide Try.prog W r base 40 v) (h : DataW.Trod enc Try.prog W 0 (fun _ => true) true 40 v d p) :
    ∃ l : List Int, Den [] (In W) W (intsAV l) v := by
  obtain ⟨a, len, cap, rfl⟩ := okWide_slice Try.underlying40 hval
  obtain ⟨fuel, hf⟩ := h
  obtain ⟨x, hx⟩ := opens40 _ _ _ _ _ _ _ hf
  rw [c40_eq] at hx
  exact ⟨intOf x, hx.2 0 _ _ rfl rfl⟩
theorem open_3 (hval : Value.okWide Try.prog W r base 3 v) (h : DataW.Trod enc Try.prog W 0 (fun _ => true) true 3 v d p) : ∃ n : Int, Den [] (In W) W (AV.i n) v := by
  obtain ⟨fuel, hf⟩ := h
  obtain ⟨n, rfl⟩ := okWide_int Try.underlying3 hval
  exact ⟨n, by obtain ⟨m, hm, _⟩ := DataW.trod_int Try.underlying3 hf; cases hm; exact .v _⟩
end
end Go.Proofs.Ytdicnojnkbmdlaa
end
section
namespace Go.Proofs.Ytdicnojnkbmdlaa
open Go Go.Am Go.ChangeShapes Go.WideShapes Go.ChangeAt Go.RowKit
set_option linter.unusedVariables false

theorem topRace_own : ownKnob Try.prog.godebug = none := by kernel_rfl
theorem topRace_laidOut : laidOutB Try.prog = true := by kernel_rfl

theorem topRace_walk (w : World) (v0 v1 : Value) (P : List Int) (L : List Pr) (t : Int)  (D0 : Den [] (In w) w (.agg (raceC P L)) v0) (D1 : Den [] (In w) w (AV.i t) v1) :
    Calls Try.prog 6 #[v0, v1] w fun e w' => e = .returned (.bool true) ∧ Below w.heap.size w w' := by
  obtain ⟨n, r, H', h, rfl⟩ := toprace_gen 0 [] P L t
  refine (calls_of_acall sig_ok (f := 6) rfl h ⟨rfl, ?_⟩).mono fun e w' ⟨x, I', he, hx, hb⟩ => ?_
  · intro j a y ha hy
    match j, ha, hy with
    | 0, ha, hy => cases ha; cases hy; exact D0
    | 1, ha, hy => cases ha; cases hy; exact D1
  · rw [den_v hx] at he
    exact ⟨he, hb⟩

set_option maxRecDepth 100000 in
theorem topRace_lifted (os : Os) (started : os.Started) (H : Type) (enc : TypeId × Value → H) :
    ReturnsInHanded {} Try.checked os 6 .any (Rows.topRaceSpec.pre6 enc Try.prog Try.f6 Rows.topRaceRow.domain false) (Rows.topRaceSpec.post enc Try.prog Try.f6 false true false false) := by
  refine returnsInHanded_of_change (C := Try.checked) topRace_own started (by kernel_rfl) Try.func6
    (ChangeSpec.witness6 (enc := enc) (C := Try.checked) false ⟨#[], #[.agg #[.slice none 0 0, .slice none 0 0], .int .i64 0], []⟩ 8 (by kernel_rfl) (by kernel_rfl) (by kernel_rfl) (by kernel_rfl)) ?_
  intro W base args ds gs before hval0 hW hcnd _
  have hval : ∀ (j : Nat) t v, Try.f6.params[j]? = some t → args[j]? = some v → Value.okWide Try.prog W .any base t v := hval0
  have hW' := hW
  obtain ⟨p, q, hA0, hV, rfl, hfz, hnd⟩ := hW
  have hA : DataW.TrodAll enc Try.prog W 0 (fun _ => true) true Try.f6.params.toList args.toList ds p := hA0
  rw [Try.params6] at hA hval
  obtain ⟨v0, vs0, d0, ds0, p0, q0, hargs, rfl, rfl, h0, s0⟩ := trodAll_cons hA
  obtain ⟨v1, vs1, d1, ds1, p1, q1, rfl, rfl, rfl, h1, s1⟩ := trodAll_cons s0
  obtain ⟨rfl, rfl, rfl⟩ := trodAll_nil s1
  obtain rfl : args = #[v0, v1] := by cases args; simp_all
  obtain ⟨rfl, rfl⟩ := trodVars_none hV
  have k0 := h0
  have lt0 : ∀ x ∈ p0, x.block < W.heap.size := by obtain ⟨m, hm⟩ := k0; exact DataW.trod_lt m _ _ _ hm
  obtain ⟨P, L, D0⟩ := open_43 (hval 0 43 v0 rfl rfl) h0
  have k1 := h1
  have lt1 : ∀ x ∈ p1, x.block < W.heap.size := by obtain ⟨m, hm⟩ := k1; exact DataW.trod_lt m _ _ _ hm
  obtain ⟨t, D1⟩ := open_3 (hval 1 3 v1 rfl rfl) h1
  clear hA0 hval0
  refine (topRace_walk W v0 v1 P L t D0 D1).mono fun e W' ⟨he, bel⟩ => ?_
  subst he
  exact ⟨_, rfl, _, _, _, [], _, [], hW', trodAll_mk1 (shut_bool Try.underlying4 _), (trodAll_cons_mk (Below.trod topRace_laidOut (by kernel_rfl) (of_decide_eq_true (by kernel_rfl)) k0 bel lt0) (trodAll_cons_mk (Below.trod topRace_laidOut (by kernel_rfl) (of_decide_eq_true (by kernel_rfl)) k1 bel lt1) trodAll_mk0)), rfl, bel.frame _, fun h => by cases h⟩

theorem topRace_over : Rows.topRaceRow.holds Try.pinned (OpenSpec.ofChange Rows.topRaceSpec) :=
  OpenClaim.holds_of_wide 6 Try.f6 rfl rfl rfl rfl rfl rfl rfl ⟨rfl, rfl, rfl, rfl, rfl⟩ rfl rfl rfl rfl rfl (by kernel_rfl) Try.func6 (by kernel_rfl)
    (of_decide_eq_true (by kernel_rfl)) (by unfold Func.isWrapper; first | (rw [if_pos (by decide +kernel)]; kernel_rfl) | (rw [if_neg (by decide +kernel)]; exact ⟨rfl, rfl⟩))
    (fun os started H enc _ => topRace_lifted os started H enc)

theorem topRace_holds : Rows.TopRaceSaid := topRace_over
end Go.Proofs.Ytdicnojnkbmdlaa
end
