/-
  Texts of PointsTexts, part 7 of 10. slices.SortFunc laid at the standings of this program. Written by the shelf's own tools (lay-plain).
-/
import Derived.Shelf.SlSortCmp.WholeK
import Derived.Test.YtfnapmdedmbdbaaDoorProg
import Derived.KernelRfl
import Derived.Test.YtfnapmdedmbdbaaDoorKPointsTexts5
import Derived.Laws.Externs
import Derived.Test.YtfnapmdedmbdbaaDoorKPointsTexts3
import Derived.Test.YtfnapmdedmbdbaaDoorKPointsTexts4
import Derived.Lib.ItoaNum
import Derived.Lib.Repeat
import Derived.Lib.Strings
import Derived.Laws.Strings
section
namespace Go.Proofs
open Go.Shelf
def Tryd.sortSt_ren : Go.Shelf.Ren := ⟨fun | 6 => 38 | 15 => 59 | 14 => 58 | 28 => 79 | 29 => 80 | 20 => 71 | 21 => 72 | 22 => 73 | 23 => 74 | 24 => 75 | 25 => 76 | 26 => 77 | 27 => 78 | 46 => 90 | 47 => 91 | 48 => 92 | 49 => 93 | 50 => 94 | 57 => 101 | n => n, fun | 22 => 27 | 24 => 23 | 25 => 25 | 3 => 3 | 39 => 92 | 0 => 0 | 53 => 114 | 55 => 49 | 4 => 4 | 46 => 107 | 45 => 106 | 50 => 111 | 5 => 5 | 9 => 9 | 66 => 127 | 70 => 131 | 76 => 138 | 77 => 139 | n => n, fun | n => n⟩
theorem Tryd.sortSt : Go.Proofs.SlLaysF0.n6 Tryd.prog Tryd.sortSt_ren := {
  mixed := by kernel_rfl
  f6 := ⟨Tryd.f38.name, by decide, Tryd.func38.trans (congrArg some (by kernel_rfl))⟩
  f14 := ⟨Tryd.f58.name, by decide, Tryd.func58.trans (congrArg some (by kernel_rfl))⟩
  f15 := Tryd.func59.trans (congrArg some (by kernel_rfl))
  f20 := ⟨Tryd.f71.name, by decide, Tryd.func71.trans (congrArg some (by kernel_rfl))⟩
  f21 := ⟨Tryd.f72.name, by decide, Tryd.func72.trans (congrArg some (by kernel_rfl))⟩
  f22 := ⟨Tryd.f73.name, by decide, Tryd.func73.trans (congrArg some (by kernel_rfl))⟩
  f23 := ⟨Tryd.f74.name, by decide, Tryd.func74.trans (congrArg some (by kernel_rfl))⟩
  f24 := ⟨Tryd.f75.name, by decide, Tryd.func75.trans (congrArg some (by kernel_rfl))⟩
  f25 := ⟨Tryd.f76.name, by decide, Tryd.func76.trans (congrArg some (by kernel_rfl))⟩
  f26 := ⟨Tryd.f77.name, by decide, Tryd.func77.trans (congrArg some (by kernel_rfl))⟩
  f27 := ⟨Tryd.f78.name, by decide, Tryd.func78.trans (congrArg some (by kernel_rfl))⟩
  f28 := Tryd.func79.trans (congrArg some (by kernel_rfl))
  f29 := Tryd.func80.trans (congrArg some (by kernel_rfl))
  f46 := ⟨Tryd.f90.name, by decide, Tryd.func90.trans (congrArg some (by kernel_rfl))⟩
  f47 := Tryd.func91.trans (congrArg some (by kernel_rfl))
  f48 := Tryd.func92.trans (congrArg some (by kernel_rfl))
  f49 := ⟨Tryd.f93.name, by decide, Tryd.func93.trans (congrArg some (by kernel_rfl))⟩
  f50 := ⟨Tryd.f94.name, by decide, Tryd.func94.trans (congrArg some (by kernel_rfl))⟩
  f57 := ⟨Tryd.f101.name, by decide, Tryd.func101.trans (congrArg some (by kernel_rfl))⟩
  t0 := Tryd.underlying0
  a0 := Tryd.isAgg0
  z0 := Tryd.sizeOf0
  v0 := Tryd.zeroValue0
  t3 := Tryd.underlying3
  a3 := Tryd.isAgg3
  z3 := Tryd.sizeOf3
  v3 := Tryd.zeroValue3
  t4 := Tryd.underlying4
  a4 := Tryd.isAgg4
  z4 := Tryd.sizeOf4
  v4 := Tryd.zeroValue4
  t5 := Tryd.underlying5
  a5 := Tryd.isAgg5
  z5 := Tryd.sizeOf5
  v5 := Tryd.zeroValue5
  t9 := Tryd.underlying9
  a9 := Tryd.isAgg9
  z9 := Tryd.sizeOf9
  v9 := Tryd.zeroValue9
  t22 := Tryd.underlying27
  a22 := Tryd.isAgg27
  z22 := Tryd.sizeOf27
  v22 := Tryd.zeroValue27
  t25 := Tryd.underlying25
  a25 := Tryd.isAgg25
  z25 := Tryd.sizeOf25
  v25 := Tryd.zeroValue25
  t39 := Tryd.underlying92
  a39 := Tryd.isAgg92
  z39 := Tryd.sizeOf92
  v39 := Tryd.zeroValue92
  t45 := Tryd.underlying106
  a45 := Tryd.isAgg106
  z45 := Tryd.sizeOf106
  v45 := Tryd.zeroValue106
  t46 := Tryd.underlying107
  a46 := Tryd.isAgg107
  z46 := Tryd.sizeOf107
  v46 := Tryd.zeroValue107
  t50 := Tryd.underlying111
  a50 := Tryd.isAgg111
  z50 := Tryd.sizeOf111
  v50 := Tryd.zeroValue111
  t53 := Tryd.underlying114
  a53 := Tryd.isAgg114
  z53 := Tryd.sizeOf114
  v53 := Tryd.zeroValue114
  t55 := Tryd.underlying49
  a55 := Tryd.isAgg49
  z55 := Tryd.sizeOf49
  v55 := Tryd.zeroValue49
  t66 := Tryd.underlying127
  a66 := Tryd.isAgg127
  z66 := Tryd.sizeOf127
  v66 := Tryd.zeroValue127
  t70 := Tryd.underlying131
  a70 := Tryd.isAgg131
  z70 := Tryd.sizeOf131
  v70 := Tryd.zeroValue131
  t76 := Tryd.underlying138
  a76 := Tryd.isAgg138
  z76 := Tryd.sizeOf138
  v76 := Tryd.zeroValue138
  t77 := Tryd.underlying139
  a77 := Tryd.isAgg139
  z77 := Tryd.sizeOf139
  v77 := Tryd.zeroValue139 }
end Go.Proofs
end
section
set_option linter.unusedVariables false
namespace Go.Proofs.YtfnapmdedmbdbaaDoor
open Go Go.Am Go.RowKit Go.Sort
instance dnF : Dn := ⟨False⟩
def fmtV : List AV → Heap → Option AV
  | [.v (.int .i64 n), .v (.int .i64 k)], _ => if k = 10 ∧ -9223372036854775808 ≤ n ∧ n ≤ 9223372036854775807 then some (.v (.string ⟨(Lib.itoa n).toArray⟩)) else none
  | _, _ => none
def repV : List AV → Heap → Option AV
  | [.v (.string s), .v (.int .i64 k)], _ => if 0 ≤ k ∧ k ≤ 1000000 ∧ s.size ≤ 1000 then some (.v (.string ⟨(Lib.repeatL s.data.toList k.toNat).toArray⟩)) else none
  | _, _ => none
def cutV : List AV → Heap → Option AV
  | [.v (.string s), .v (.string p)], _ => some (.tup [.v (.string ⟨(Lib.trimPrefix s.data.toList p.data.toList).toArray⟩), .v (.bool (Lib.hasPrefix s.data.toList p.data.toList))])
  | _, _ => none
def primF : FuncId → Option (List AV → Heap → Option AV)
  | 61 => some add64V
  | 50 => some mul64V
  | 55 => some fmtV
  | 57 => some repV
  | 56 => some cutV
  | _ => none
theorem named55 : Named Tryd.prog 55 := ⟨Tryd.f55, Tryd.func55, by kernel_rfl, by kernel_rfl⟩
theorem named57 : Named Tryd.prog 57 := ⟨Tryd.f57, Tryd.func57, by kernel_rfl, by kernel_rfl⟩
theorem named56 : Named Tryd.prog 56 := ⟨Tryd.f56, Tryd.func56, by kernel_rfl, by kernel_rfl⟩
theorem below_gr (w : World) (k : Nat) (os : Array Obj) : Bel w.heap.size w (grow (w.drewN k) os) :=
  ⟨rfl, ⟨rfl, fun _ => Nat.le_add_right _ _⟩, rfl, by show w.heap.size ≤ (w.heap ++ os).size; simp, fun j hj => by show (w.heap ++ os)[j]? = _; rw [Array.getElem?_append_left hj]⟩
theorem prim_ok : ∀ f p, primF f = some p → ∀ args H r, p args H = some r → ∀ (lim : Nat) (φ : Phi) (I : Nat → Prop) (w : World) (cs : Array Value), Tb w → Rel lim φ I w H → DL φ I w args cs → CallW Tryd.prog f cs w (PurePost φ I w lim H r) := by
  intro f p h args H r hr lim φ I w cs hT hR hD
  unfold primF at h
  split at h
  · cases h
    unfold add64V at hr
    split at hr
    · rename_i x y c _
      cases three_args hD
      split at hr
      · rename_i hk
        obtain ⟨hx, hy, hc, hc1⟩ := hk
        obtain ⟨x, rfl⟩ := nat_of hx
        obtain ⟨y, rfl⟩ := nat_of hy
        obtain ⟨c, rfl⟩ := nat_of hc
        cases hr
        exact .inr ⟨_, fun w' => run61 x y c (by omega) w', _, I, rfl, den_two _ _, fun _ h => h, Bel.refl _ _, hR⟩
      · cases hr
    · cases hr
  · cases h
    unfold mul64V at hr
    split at hr
    · rename_i x y _
      cases two_args hD
      split at hr
      · rename_i hk
        obtain ⟨⟨hx, hx1⟩, hy, hy1⟩ := hk
        obtain ⟨x, rfl⟩ := nat_of hx
        obtain ⟨y, rfl⟩ := nat_of hy
        cases hr
        refine .inl ⟨named50, (Tryd.bits_Mul64 x y (by omega) (by omega) w).mono ?_⟩
        rintro e w' ⟨rfl, rfl⟩
        exact ⟨_, I, rfl, den_two _ _, fun _ h => h, Bel.refl _ _, hR⟩
      · cases hr
    · cases hr
  · cases h
    unfold fmtV at hr
    split at hr
    · rename_i n k
      cases two_args hD
      split at hr
      · rename_i hk
        obtain ⟨rfl, h0, h1⟩ := hk
        cases hr
        refine .inl ⟨named55, (Tryd.strconv_FormatInt_10 n h0 h1 w hT).mono ?_⟩
        rintro e w' ⟨rfl, k, os, rfl⟩
        exact ⟨_, I, rfl, .v _, fun _ h => h, below_gr w k os, hR.down (below_gr w k os)⟩
      · cases hr
    · cases hr
  · cases h
    unfold repV at hr
    split at hr
    · rename_i s k
      cases two_args hD
      split at hr
      · rename_i hk
        obtain ⟨h0, h1, h2⟩ := hk
        obtain ⟨k, rfl⟩ := nat_of h0
        cases hr
        refine .inl ⟨named57, (Tryd.strings_Repeat s k w (by omega) (by
          have : s.size * k ≤ 1000 * 1000000 := Nat.mul_le_mul h2 (by omega)
          omega)).mono ?_⟩
        rintro e w' ⟨rfl, hb⟩
        have hb' : Bel w.heap.size w w' := ⟨hb.os, ⟨hb.tape, fun h => False.elim h⟩, hb.output, hb.size, hb.block⟩
        exact ⟨_, I, rfl, .v _, fun _ h => h, hb', hR.down hb'⟩
      · cases hr
    · cases hr
  · cases h
    unfold cutV at hr
    split at hr
    · rename_i s p
      cases two_args hD
      cases hr
      refine .inl ⟨named56, (Tryd.strings_CutPrefix s p w).mono ?_⟩
      rintro e w' ⟨rfl, rfl⟩
      exact ⟨_, I, rfl, den_two _ _, fun _ h => h, Bel.refl _ _, hR⟩
    · cases hr
  · cases h

/-- The library's sort with points.Compare, of standings of different teams in memory of the call's own. -/
def sortV : Nat → List AV → Heap → Option (AV × Heap)
  | lim, [.own 10 b 0 n, .clo 13 []], H =>
    match hget H b with
    | some k =>
      match rdS k with
      | some ps => if lim ≤ b ∧ 1 ≤ n ∧ ps.length = n ∧ n ≤ 1000 ∧ (ps.map (·.1.tm)).Nodup then some (.tup [], hset H b (some (flatS (sortL ps)))) else none
      | none => none
    | none => none
  | _, _, _ => none
def effF : FuncId → Option (Nat → List AV → Heap → Option (AV × Heap))
  | 38 => some sortV
  | _ => none
theorem named38 : Named Tryd.prog 38 := ⟨Tryd.f38, Tryd.func38, by kernel_rfl, by kernel_rfl⟩
theorem named13 : Named Tryd.prog 13 := ⟨Tryd.f13, Tryd.func13, by kernel_rfl, by kernel_rfl⟩
theorem den_nil {φ : Phi} {I : Nat → Prop} {w : World} : Den φ I w (.tup []) (.tuple #[]) := .tup _ _ rfl (fun j x y hx _ => by simp at hx)
theorem sort_calls {lim : Nat} {φ : Phi} {I : Nat → Prop} {w : World} {H : Heap} (hR : Rel lim φ I w H) {b n : Nat} {ps : List SO} (hb : hget H b = some (flatS ps)) (hlim : lim ≤ b) (hn1 : 1 ≤ n) (hn : ps.length = n) (hn2 : n ≤ 1000) (hd : (ps.map (·.1.tm)).Nodup)
    {cs : Array Value} (hD : DL φ I w [.own 10 b 0 n, .clo 13 []] cs) : Calls Tryd.prog 38 cs w (CallPost lim φ I w (hset H b (some (flatS (sortL ps)))) (.tup [])) := by
  obtain ⟨l⟩ := cs
  have hl : l.length = 2 := by simpa using hD.1
  match l, hl, hD with
  | [x, y], _, hD =>
    have h0 := hD.2 0 _ x rfl rfl
    have h1 := hD.2 1 _ y rfl rfl
    cases h1 with
    | clo _ _ cs' hs' _ =>
      obtain rfl : cs' = #[] := by simpa using hs'
      cases h0 with
      | own0 => omega
      | own _ _ _ _ c off L hL hnc hc ho =>
        have ho2 : off = L.base ∧ off + c * 10 ≤ L.S := by rcases ho with h | h <;> omega
        obtain ⟨rfl, ho3⟩ := ho2
        rcases hR.blk b _ hb with ⟨h2, _⟩ | ⟨L', C, T, h2, hC, hS, hO⟩
        · rw [hL] at h2; cases h2
        · obtain rfl : L = L' := by rw [hL] at h2; cases h2; rfl
          have hdis := hR.disj b L hL
          have hH := holds_of (d := ps.toArray) (by simp) hC hO
          have hT : ∀ (m : Nat) (os : Array Obj) (dk : Array SO) (w1 : World), (∀ k, k < (sortWorldK encS 10 w L.k L.base m dk os).heap.size → w1.heap[k]? = (sortWorldK encS 10 w L.k L.base m dk os).heap[k]?) → Tb w1 := by
            intro m os dk w1 hw1
            refine hR.tab w1 fun k hk => ?_
            have hlt := hR.Ilt k hk
            have hsz := size_sortWorldK_c encS 10 w L.k L.base m dk os
            rw [hw1 k (by omega), sw_other (fun e : k = L.k => hdis.1 (by rw [← e]; exact hk)) hlt]
          have hcon := AnyQ.slices_SortFunc Tryd.sortSt 10 (fun w => Go.Am.run_isAgg ty23 w) (fun w => Go.Am.run_sizeOf ty23 w) encS (fun _ => rfl) (fun x v hv => by simp [encS] at hv; rcases hv with rfl | rfl | rfl | rfl | rfl | rfl | rfl | rfl | rfl | rfl <;> rfl) cmO swoS 13 #[] L.k L.base c ps.toArray w (fun args w' => named_run named13 args w') (cmp_lays L.k L.base ps.toArray.size w hT) hH hdis.2 (by simp; omega)
          have e : #[Value.slice (some ⟨L.k, L.base, none⟩) n c, Value.func (.func 13) #[] #[]] = #[Value.slice (some ⟨L.k, L.base, none⟩) ps.toArray.size c, Value.func (.func 13) #[] #[]] := by simp [hn]
          rw [show (⟨[Value.slice (some ⟨L.k, L.base, none⟩) n c, Value.func (.func 13) #[] #[]]⟩ : Array Value) = #[Value.slice (some ⟨L.k, L.base, none⟩) ps.toArray.size c, Value.func (.func 13) #[] #[]] from e]
          refine Calls.mono (show Calls Tryd.prog 38 _ _ _ from hcon) ?_
          rintro e w' ⟨rfl, d', q, os, hp, hs, rfl⟩
          have hd' := sorted_is hp hs (by simpa using hd)
          obtain ⟨r1, e1⟩ := sorted_rel hR hb hL hlim hC hS hO (q := q) (os := os) (by simpa using hd')
          exact ⟨_, φ, I, rfl, den_nil, r1, e1⟩
theorem eff_ok : ∀ f p, effF f = some p → ∀ lim args H r H', p lim args H = some (r, H') → ∀ (φ : Phi) (I : Nat → Prop) (w : World) (cs : Array Value), Tb w → Rel lim φ I w H → DL φ I w args cs → Calls Tryd.prog f cs w (CallPost lim φ I w H' r) ∧ Named Tryd.prog f := by
  intro f p h lim args H r H' hr φ I w cs hT hR hD
  unfold effF at h
  split at h
  · cases h
    unfold sortV at hr
    split at hr
    · split at hr
      · rename_i hb
        split at hr
        · rename_i hps
          split at hr
          · rename_i hk
            obtain ⟨h1, h2, h3, h4, h5⟩ := hk
            cases hr
            exact ⟨sort_calls hR (by rw [hb, rdS_eq hps]) h1 h2 h3 h4 h5 hD, named38⟩
          · cases hr
        · cases hr
      · cases hr
    · cases hr
  · cases h
end Go.Proofs.YtfnapmdedmbdbaaDoor
end
section
set_option linter.unusedSimpArgs false
set_option linter.unusedVariables false
namespace Go.Proofs.YtfnapmdedmbdbaaDoor
open Go Go.Am
noncomputable def fns : FuncId → Option FnA
  | 3 => some fa3
  | 4 => some fa4
  | 5 => some fa5
  | 6 => some fa6
  | 7 => some fa7
  | 8 => some fa8
  | 9 => some fa9
  | 10 => some fa10
  | 11 => some fa11
  | 12 => some fa12
  | 13 => some fa13
  | 14 => some fa14
  | 15 => some fa15
  | 16 => some fa16
  | 17 => some fa17
  | 18 => some fa18
  | 19 => some fa19
  | 20 => some fa20
  | 21 => some fa21
  | 22 => some fa22
  | 23 => some fa23
  | 24 => some fa24
  | 25 => some fa25
  | 26 => some fa26
  | 27 => some fa27
  | 28 => some fa28
  | 29 => some fa29
  | 30 => some fa30
  | 31 => some fa31
  | 32 => some fa32
  | 33 => some fa33
  | 34 => some fa34
  | 35 => some fa35
  | 36 => some fa36
  | 37 => some fa37
  | 39 => some fa39
  | 40 => some fa40
  | 41 => some fa41
  | 42 => some fa42
  | 43 => some fa43
  | 44 => some fa44
  | 45 => some fa45
  | 46 => some fa46
  | 47 => some fa47
  | 48 => some fa48
  | 49 => some fa49
  | 51 => some fa51
  | 52 => some fa52
  | 53 => some fa53
  | 54 => some fa54
  | 62 => some fa62
  | 63 => some fa63
  | 64 => some fa64
  | 82 => some fa82
  | 95 => some fa95
  | _ => none

noncomputable def sig : Sig := { P := Tryd.prog, fns := fns, prim := primF, own := fun f => f == 37 || f == 38, fz := fun f => f == 10, eff := effF }

theorem fnOK3 : FnOK Tryd.prog sig.pure 3 fa3 := ⟨Tryd.func3, by kernel_rfl, fun c hc => by cases hc; kernel_rfl⟩
theorem fnOK4 : FnOK Tryd.prog sig.pure 4 fa4 := ⟨Tryd.func4, by kernel_rfl, fun c hc => by cases hc; kernel_rfl⟩
theorem fnOK5 : FnOK Tryd.prog sig.pure 5 fa5 := ⟨Tryd.func5, by kernel_rfl, fun c hc => by cases hc; kernel_rfl⟩
theorem fnOK6 : FnOK Tryd.prog sig.pure 6 fa6 := ⟨Tryd.func6, by kernel_rfl, fun c hc => by cases hc; kernel_rfl⟩
theorem fnOK7 : FnOK Tryd.prog sig.pure 7 fa7 := ⟨Tryd.func7, by kernel_rfl, fun c hc => by cases hc; kernel_rfl⟩
theorem fnOK8 : FnOK Tryd.prog sig.pure 8 fa8 := ⟨Tryd.func8, by kernel_rfl, fun c hc => by cases hc; kernel_rfl⟩
theorem fnOK9 : FnOK Tryd.prog sig.pure 9 fa9 := ⟨Tryd.func9, by kernel_rfl, fun c hc => by cases hc; kernel_rfl⟩
theorem fnOK10 : FnOK Tryd.prog sig.pure 10 fa10 := ⟨Tryd.func10, by kernel_rfl, fun c hc => by cases hc; kernel_rfl⟩
theorem fnOK11 : FnOK Tryd.prog sig.pure 11 fa11 := ⟨Tryd.func11, by kernel_rfl, fun c hc => by cases hc; kernel_rfl⟩
theorem fnOK12 : FnOK Tryd.prog sig.pure 12 fa12 := ⟨Tryd.func12, by kernel_rfl, fun c hc => by cases hc; kernel_rfl⟩
theorem fnOK13 : FnOK Tryd.prog sig.pure 13 fa13 := ⟨Tryd.func13, by kernel_rfl, fun c hc => by cases hc; kernel_rfl⟩
theorem fnOK14 : FnOK Tryd.prog sig.pure 14 fa14 := ⟨Tryd.func14, by kernel_rfl, fun c hc => by cases hc; kernel_rfl⟩
theorem fnOK15 : FnOK Tryd.prog sig.pure 15 fa15 := ⟨Tryd.func15, by kernel_rfl, fun c hc => by cases hc; kernel_rfl⟩
theorem fnOK16 : FnOK Tryd.prog sig.pure 16 fa16 := ⟨Tryd.func16, by kernel_rfl, fun c hc => by cases hc; kernel_rfl⟩
theorem fnOK17 : FnOK Tryd.prog sig.pure 17 fa17 := ⟨Tryd.func17, by kernel_rfl, fun c hc => by cases hc; kernel_rfl⟩
theorem fnOK18 : FnOK Tryd.prog sig.pure 18 fa18 := ⟨Tryd.func18, by kernel_rfl, fun c hc => by cases hc; kernel_rfl⟩
theorem fnOK19 : FnOK Tryd.prog sig.pure 19 fa19 := ⟨Tryd.func19, by kernel_rfl, fun c hc => by cases hc; kernel_rfl⟩
theorem fnOK20 : FnOK Tryd.prog sig.pure 20 fa20 := ⟨Tryd.func20, by kernel_rfl, fun c hc => by cases hc; kernel_rfl⟩
theorem fnOK21 : FnOK Tryd.prog sig.pure 21 fa21 := ⟨Tryd.func21, by kernel_rfl, fun c hc => by cases hc; kernel_rfl⟩
theorem fnOK22 : FnOK Tryd.prog sig.pure 22 fa22 := ⟨Tryd.func22, by kernel_rfl, fun c hc => by cases hc; kernel_rfl⟩
theorem fnOK23 : FnOK Tryd.prog sig.pure 23 fa23 := ⟨Tryd.func23, by kernel_rfl, fun c hc => by cases hc; kernel_rfl⟩
theorem fnOK24 : FnOK Tryd.prog sig.pure 24 fa24 := ⟨Tryd.func24, by kernel_rfl, fun c hc => by cases hc; kernel_rfl⟩
theorem fnOK25 : FnOK Tryd.prog sig.pure 25 fa25 := ⟨Tryd.func25, by kernel_rfl, fun c hc => by cases hc; kernel_rfl⟩
theorem fnOK26 : FnOK Tryd.prog sig.pure 26 fa26 := ⟨Tryd.func26, by kernel_rfl, fun c hc => by cases hc; kernel_rfl⟩
theorem fnOK27 : FnOK Tryd.prog sig.pure 27 fa27 := ⟨Tryd.func27, by kernel_rfl, fun c hc => by cases hc; kernel_rfl⟩
theorem fnOK28 : FnOK Tryd.prog sig.pure 28 fa28 := ⟨Tryd.func28, by kernel_rfl, fun c hc => by cases hc; kernel_rfl⟩
theorem fnOK29 : FnOK Tryd.prog sig.pure 29 fa29 := ⟨Tryd.func29, by kernel_rfl, fun c hc => by cases hc; kernel_rfl⟩
theorem fnOK30 : FnOK Tryd.prog sig.pure 30 fa30 := ⟨Tryd.func30, by kernel_rfl, fun c hc => by cases hc; kernel_rfl⟩
theorem fnOK31 : FnOK Tryd.prog sig.pure 31 fa31 := ⟨Tryd.func31, by kernel_rfl, fun c hc => by cases hc; kernel_rfl⟩
theorem fnOK32 : FnOK Tryd.prog sig.pure 32 fa32 := ⟨Tryd.func32, by kernel_rfl, fun c hc => by cases hc; kernel_rfl⟩
theorem fnOK33 : FnOK Tryd.prog sig.pure 33 fa33 := ⟨Tryd.func33, by kernel_rfl, fun c hc => by cases hc; kernel_rfl⟩
theorem fnOK34 : FnOK Tryd.prog sig.pure 34 fa34 := ⟨Tryd.func34, by kernel_rfl, fun c hc => by cases hc; kernel_rfl⟩
theorem fnOK35 : FnOK Tryd.prog sig.pure 35 fa35 := ⟨Tryd.func35, by kernel_rfl, fun c hc => by cases hc; kernel_rfl⟩
theorem fnOK36 : FnOK Tryd.prog sig.pure 36 fa36 := ⟨Tryd.func36, by kernel_rfl, fun c hc => by cases hc; kernel_rfl⟩
theorem fnOK37 : FnOK Tryd.prog sig.pure 37 fa37 := ⟨Tryd.func37, by kernel_rfl, fun c hc => by cases hc; kernel_rfl⟩
theorem fnOK39 : FnOK Tryd.prog sig.pure 39 fa39 := ⟨Tryd.func39, by kernel_rfl, fun c hc => by cases hc; kernel_rfl⟩
theorem fnOK40 : FnOK Tryd.prog sig.pure 40 fa40 := ⟨Tryd.func40, by kernel_rfl, fun c hc => by cases hc; kernel_rfl⟩
theorem fnOK41 : FnOK Tryd.prog sig.pure 41 fa41 := ⟨Tryd.func41, by kernel_rfl, fun c hc => by cases hc; kernel_rfl⟩
theorem fnOK42 : FnOK Tryd.prog sig.pure 42 fa42 := ⟨Tryd.func42, by kernel_rfl, fun c hc => by cases hc; kernel_rfl⟩
theorem fnOK43 : FnOK Tryd.prog sig.pure 43 fa43 := ⟨Tryd.func43, by kernel_rfl, fun c hc => by cases hc; kernel_rfl⟩
theorem fnOK44 : FnOK Tryd.prog sig.pure 44 fa44 := ⟨Tryd.func44, by kernel_rfl, fun c hc => by cases hc; kernel_rfl⟩
theorem fnOK45 : FnOK Tryd.prog sig.pure 45 fa45 := ⟨Tryd.func45, by kernel_rfl, fun c hc => by cases hc; kernel_rfl⟩
theorem fnOK46 : FnOK Tryd.prog sig.pure 46 fa46 := ⟨Tryd.func46, by kernel_rfl, fun c hc => by cases hc; kernel_rfl⟩
theorem fnOK47 : FnOK Tryd.prog sig.pure 47 fa47 := ⟨Tryd.func47, by kernel_rfl, fun c hc => by cases hc; kernel_rfl⟩
theorem fnOK48 : FnOK Tryd.prog sig.pure 48 fa48 := ⟨Tryd.func48, by kernel_rfl, fun c hc => by cases hc; kernel_rfl⟩
theorem fnOK49 : FnOK Tryd.prog sig.pure 49 fa49 := ⟨Tryd.func49, by kernel_rfl, fun c hc => by cases hc; kernel_rfl⟩
theorem fnOK51 : FnOK Tryd.prog sig.pure 51 fa51 := ⟨Tryd.func51, by kernel_rfl, fun c hc => by cases hc; kernel_rfl⟩
theorem fnOK52 : FnOK Tryd.prog sig.pure 52 fa52 := ⟨Tryd.func52, by kernel_rfl, fun c hc => by cases hc; kernel_rfl⟩
theorem fnOK53 : FnOK Tryd.prog sig.pure 53 fa53 := ⟨Tryd.func53, by kernel_rfl, fun c hc => by cases hc; kernel_rfl⟩
theorem fnOK54 : FnOK Tryd.prog sig.pure 54 fa54 := ⟨Tryd.func54, by kernel_rfl, fun c hc => by cases hc; kernel_rfl⟩
theorem fnOK62 : FnOK Tryd.prog sig.pure 62 fa62 := ⟨Tryd.func62, by kernel_rfl, fun c hc => by cases hc; kernel_rfl⟩
theorem fnOK63 : FnOK Tryd.prog sig.pure 63 fa63 := ⟨Tryd.func63, by kernel_rfl, fun c hc => by cases hc; kernel_rfl⟩
theorem fnOK64 : FnOK Tryd.prog sig.pure 64 fa64 := ⟨Tryd.func64, by kernel_rfl, fun c hc => by cases hc; kernel_rfl⟩
theorem fnOK82 : FnOK Tryd.prog sig.pure 82 fa82 := ⟨Tryd.func82, by kernel_rfl, fun c hc => by cases hc; kernel_rfl⟩
theorem fnOK95 : FnOK Tryd.prog sig.pure 95 fa95 := ⟨Tryd.func95, by kernel_rfl, fun c hc => by cases hc; kernel_rfl⟩

theorem fns_ok : ∀ f fa, fns f = some fa → FnOK Tryd.prog sig.pure f fa := by
  intro f fa h
  unfold fns at h
  split at h <;> first | (cases h; done) | skip
  · cases h; exact fnOK3
  · cases h; exact fnOK4
  · cases h; exact fnOK5
  · cases h; exact fnOK6
  · cases h; exact fnOK7
  · cases h; exact fnOK8
  · cases h; exact fnOK9
  · cases h; exact fnOK10
  · cases h; exact fnOK11
  · cases h; exact fnOK12
  · cases h; exact fnOK13
  · cases h; exact fnOK14
  · cases h; exact fnOK15
  · cases h; exact fnOK16
  · cases h; exact fnOK17
  · cases h; exact fnOK18
  · cases h; exact fnOK19
  · cases h; exact fnOK20
  · cases h; exact fnOK21
  · cases h; exact fnOK22
  · cases h; exact fnOK23
  · cases h; exact fnOK24
  · cases h; exact fnOK25
  · cases h; exact fnOK26
  · cases h; exact fnOK27
  · cases h; exact fnOK28
  · cases h; exact fnOK29
  · cases h; exact fnOK30
  · cases h; exact fnOK31
  · cases h; exact fnOK32
  · cases h; exact fnOK33
  · cases h; exact fnOK34
  · cases h; exact fnOK35
  · cases h; exact fnOK36
  · cases h; exact fnOK37
  · cases h; exact fnOK39
  · cases h; exact fnOK40
  · cases h; exact fnOK41
  · cases h; exact fnOK42
  · cases h; exact fnOK43
  · cases h; exact fnOK44
  · cases h; exact fnOK45
  · cases h; exact fnOK46
  · cases h; exact fnOK47
  · cases h; exact fnOK48
  · cases h; exact fnOK49
  · cases h; exact fnOK51
  · cases h; exact fnOK52
  · cases h; exact fnOK53
  · cases h; exact fnOK54
  · cases h; exact fnOK62
  · cases h; exact fnOK63
  · cases h; exact fnOK64
  · cases h; exact fnOK82
  · cases h; exact fnOK95

theorem prim_own : ∀ f p, primF f = some p → sig.own f = false := by
  intro f p h
  unfold primF at h
  split at h <;> first | rfl | cases h
theorem eff_own : ∀ f p, effF f = some p → sig.own f = true := by
  intro f p h
  unfold effF at h
  split at h <;> first | rfl | cases h
theorem sig_ok : SigOK sig := ⟨by kernel_rfl, fns_ok, fun f h => by
  have h := (show (f == 10) = true from h)
  simp only [Bool.or_eq_true, beq_iff_eq] at h
  rcases h with rfl <;> rfl, fun f p h => ⟨prim_own f p h, prim_ok f p h⟩, fun f p h => ⟨eff_own f p h, eff_ok f p h⟩⟩
theorem sigP : sig.P = Tryd.prog := rfl
attribute [go_sem] sigP
end Go.Proofs.YtfnapmdedmbdbaaDoor
end
section
set_option linter.unusedVariables false
namespace Go.Proofs.YtfnapmdedmbdbaaDoor
open Go Go.Am
/-! ### The callees that are taken by contract -/
end Go.Proofs.YtfnapmdedmbdbaaDoor
end
section
set_option linter.unusedVariables false
namespace Go.Proofs.YtfnapmdedmbdbaaDoor
open Go Go.Am
def pw : Nat → Int
  | 0 => 1
  | n + 1 => pw n * 4294967296
def val : List Int → Int
  | [] => 0
  | x :: r => x + 4294967296 * val r
def lm (m : Int) : List Int := [m % 4294967296, m / 4294967296 % 4294967296, m / 18446744073709551616 % 4294967296, m / 79228162514264337593543950336 % 4294967296]
theorem lm_len (m : Int) : (lm m).length = 4 := rfl
attribute [simp] lm_len
/-- A number as the array of its four limbs. -/
abbrev lv (m : Int) : AV := .agg ((lm m).map u6)
set_option maxRecDepth 20000
theorem take4 (x y z w : AV) : List.take 4 [x, y, z, w] = [x, y, z, w] := rfl
theorem sL4 (x y z w a b c d : AV) : setL [x, y, z, w] 0 [a, b, c, d] = [a, b, c, d] := rfl
attribute [go_sem] take4 sL4
end Go.Proofs.YtfnapmdedmbdbaaDoor
end
section
set_option linter.unusedVariables false
namespace Go.Proofs.YtfnapmdedmbdbaaDoor
open Go Go.Am
abbrev DD (n : Nat) : List UInt8 := Lib.decDigits n
abbrev bs (l : List UInt8) : ByteArray := ⟨l.toArray⟩
abbrev sv (l : List UInt8) : AV := .v (.string (bs l))
theorem dd_small {n : Nat} (h : n < 10) : DD n = [UInt8.ofNat (48 + n)] := by show Lib.decDigits n = _; rw [Lib.decDigits, dif_pos h]
theorem dd_big {n : Nat} (h : ¬ n < 10) : DD n = DD (n / 10) ++ [UInt8.ofNat (48 + n % 10)] := by show Lib.decDigits n = _; rw [Lib.decDigits, dif_neg h]
theorem dd_len_le : ∀ (k n : Nat), 0 < k → n < 10 ^ k → (DD n).length ≤ k
  | 0, _, h, _ => by omega
  | k + 1, n, _, hn => by
    by_cases h : n < 10
    · rw [dd_small h]; simp
    · rw [dd_big h, List.length_append]
      have hk : 0 < k := by
        rcases k with _ | k
        · simp at hn; omega
        · omega
      have := dd_len_le k (n / 10) hk (by rw [Nat.pow_succ] at hn; omega)
      simp only [List.length_cons, List.length_nil]
      omega
theorem dd_len_pos (n : Nat) : 0 < (DD n).length := by
  by_cases h : n < 10
  · rw [dd_small h]; simp
  · rw [dd_big h]; simp
/-- A number with k digits, filled up with zeros. -/
def padN (k r : Nat) : List UInt8 := List.replicate (k - (DD r).length) 48 ++ DD r
theorem rep_zero : ∀ k, Lib.repeatL [48] k = List.replicate k (48 : UInt8)
  | 0 => rfl
  | k + 1 => by rw [Lib.repeatL, rep_zero k, List.replicate_succ]; rfl
/-- The text of a wide integer. -/
def txW (x : Int) : List UInt8 := (if x < 0 then [45] else []) ++ DD (ab x).toNat
theorem txW_neg {x : Int} (h : x < 0) : txW x = 45 :: DD (ab x).toNat := by rw [txW, if_pos h]; rfl
theorem txW_pos {x : Int} (h : ¬ x < 0) : txW x = DD (ab x).toNat := by rw [txW, if_neg h]; rfl
/-! ### Steps over texts -/
theorem bs_app (l m : List UInt8) : bs l ++ bs m = bs (l ++ m) := by
  apply ByteArray.ext
  rw [ByteArray.data_append]
  simp
theorem bs_size (l : List UInt8) : (bs l).size = l.length := by simp [ByteArray.size]
theorem bin_bs (P : Program) (t : TypeId) (l m : List UInt8) (h : l.length + m.length ≤ 1000) : binV P .add t (sv l) (sv m) = some (sv (l ++ m)) := by
  have hl := bs_size l
  have hm := bs_size m
  simp only [binV, strBin]
  rw [if_pos (by omega), bs_app]
  rfl
theorem rep_ok (lim : Nat) (H : Heap) (k : Int) (h : 0 ≤ k ∧ k ≤ 100) : ACall sig lim 57 [sv [48], AV.i k] H fun r H' => r = sv (List.replicate k.toNat 48) ∧ H' = H :=
  ⟨1, _, H, by
    show Option.map _ (repV [sv [48], AV.i k] H) = _
    simp only [repV, if_pos (show 0 ≤ k ∧ k ≤ 1000000 ∧ (bs [48]).size ≤ 1000 from ⟨h.1, by omega, by decide⟩)]
    rw [← rep_zero]
    rfl, rfl, rfl⟩
theorem cut_ok (lim : Nat) (H : Heap) (l : List UInt8) : ACall sig lim 56 [sv l, sv [45]] H fun r H' => r = .tup [sv (Lib.trimPrefix l [45]), .v (.bool (Lib.hasPrefix l [45]))] ∧ H' = H :=
  ⟨1, _, H, by show Option.map (fun x => (x, H)) (cutV [sv l, sv [45]] H) = _; rfl, rfl, rfl⟩
attribute [go_sem] List.size_toArray bin_bs
end Go.Proofs.YtfnapmdedmbdbaaDoor
end
section
set_option linter.unusedVariables false
set_option linter.unusedSimpArgs false
namespace Go.Proofs.YtfnapmdedmbdbaaDoor
open Go Go.Am
def okR (z : St) (b : Int) : Prop := okS z ∧ 1 ≤ b ∧ b ≤ 8
instance (z : St) (b : Int) : Decidable (okR z b) := by unfold okR; exact inferInstance
/-- The rate in thousandths of a run. -/
def rq (z : St) (b : Int) : Int := (2 * ab (rxn z * (b * 1000)) + rxd z) / (2 * rxd z)
def rtx (z : St) (b : Int) : List UInt8 := (if rxn z < 0 ∧ 0 < rq z b then 45 else 43) :: (DD (rq z b / 1000).toNat ++ 46 :: padN 3 (rq z b % 1000).toNat)
def rtS (z : St) (b : Int) : List UInt8 × Int := if okR z b then (rtx z b, 0) else ([], 2)
theorem rtS_y {z : St} {b : Int} (h : okR z b) : rtS z b = (rtx z b, 0) := if_pos h
theorem rtS_n {z : St} {b : Int} (h : ¬ okR z b) : rtS z b = ([], 2) := if_neg h
theorem scal_rng {n b : Int} (hn : -1099511627776 ≤ n ∧ n ≤ 1099511627776) (hb : 1 ≤ b ∧ b ≤ 8) : -8796093022208000 ≤ n * (b * 1000) ∧ n * (b * 1000) ≤ 8796093022208000 ∧ n * b = n * (b * 1000) / 1000 ∧ n * b * 2000 = 2 * (n * (b * 1000)) ∧ (0 - n) * b * 2000 = -(2 * (n * (b * 1000))) ∧ n * b * 1000 = n * (b * 1000) ∧ (n < 0 ↔ n * (b * 1000) < 0) := by
  have h : b = 1 ∨ b = 2 ∨ b = 3 ∨ b = 4 ∨ b = 5 ∨ b = 6 ∨ b = 7 ∨ b = 8 := by omega
  rcases h with rfl | rfl | rfl | rfl | rfl | rfl | rfl | rfl <;> omega
theorem rq_rng {z : St} {b : Int} (h : okR z b) : 0 ≤ rq z b ∧ rq z b ≤ 8796093022208001 := by
  have h1 := rxn_rng h.1
  have h2 := rxd_rng h.1
  have h3 := scal_rng h1 h.2
  have h4 : ab (rxn z * (b * 1000)) ≤ 8796093022208000 ∧ 0 ≤ ab (rxn z * (b * 1000)) := by unfold ab; split <;> omega
  unfold rq
  constructor
  · exact Int.ediv_nonneg (by omega) (by omega)
  · have : (2 * ab (rxn z * (b * 1000)) + rxd z) / (2 * rxd z) ≤ (8796093022208001 * (2 * rxd z)) / (2 * rxd z) := Int.ediv_le_ediv (by omega) (by omega)
    rw [Int.mul_ediv_cancel _ (by omega)] at this
    exact this
theorem dd_len3 {n : Nat} (h : n < 1000) : 0 < (DD n).length ∧ (DD n).length ≤ 3 := ⟨dd_len_pos n, dd_len_le 3 n (by decide) (by simpa using h)⟩
theorem pad_len3 {n : Nat} (h : n < 1000) : (padN 3 n).length = 3 := by
  have := dd_len3 h
  unfold padN
  rw [List.length_append, List.length_replicate]
  omega
theorem dd_len20 {n : Nat} (h : n < 10000000000000000000) : (DD n).length ≤ 19 := dd_len_le 19 n (by decide) (by simpa using h)
theorem rtx_len {z : St} {b : Int} (h : okR z b) : (rtx z b).length ≤ 24 := by
  have := rq_rng h
  have h1 := dd_len20 (n := (rq z b / 1000).toNat) (by omega)
  have h2 := pad_len3 (n := (rq z b % 1000).toNat) (by omega)
  unfold rtx
  rw [List.length_cons, List.length_append, List.length_cons]
  omega
/-- What is written of a number by its digits, from the last one on. -/
theorem pad_one (n : Nat) : padN 1 n = DD n := by
  have := dd_len_pos n
  unfold padN
  rw [show 1 - (DD n).length = 0 by omega]
  rfl

/-! ### Numerals -/
theorem dd_dig : ∀ (n : Nat) (c : UInt8), c ∈ DD n → 48 ≤ c.toNat ∧ c.toNat ≤ 57 := by
  intro n
  induction n using Nat.strongRecOn with
  | ind n ih =>
    intro c hc
    by_cases h : n < 10
    · rw [dd_small h] at hc
      obtain rfl := List.mem_singleton.mp hc
      rw [UInt8.toNat_ofNat']
      omega
    · rw [dd_big h] at hc
      rcases List.mem_append.mp hc with h1 | h1
      · exact ih _ (by omega) c h1
      · obtain rfl := List.mem_singleton.mp h1
        rw [UInt8.toNat_ofNat']
        omega
theorem dd_cut (n : Nat) : Lib.hasPrefix (DD n) [45] = false ∧ Lib.trimPrefix (DD n) [45] = DD n := by
  have h : Lib.hasPrefix (DD n) [45] = false := by
    cases hd : DD n with
    | nil => rfl
    | cons c l =>
      have := dd_dig n c (by rw [hd]; exact List.mem_cons_self)
      have hc : ¬ (45 : UInt8) = c := fun e => by rw [← e] at this; exact absurd this.1 (by decide)
      simp [Lib.hasPrefix, List.isPrefixOf, hc]
  exact ⟨h, by rw [Lib.trimPrefix, h]; rfl⟩
theorem itoa_tx (n : Int) : Lib.itoa n = txW n := by
  unfold Lib.itoa
  by_cases h : n < 0
  · rw [if_pos h, txW_neg h]
    congr 2
    unfold ab
    split <;> omega
  · rw [if_neg h, txW_pos h]
    congr 1
    unfold ab
    split <;> omega
/-- What is still to be written: the digits of u ahead of s, with w digits in all or more. -/
def otx (w u : Nat) (s : List UInt8) : List UInt8 := if u = 0 ∧ w ≤ s.length then s else padN (w - s.length) u ++ s
theorem otx_end {w : Nat} {s : List UInt8} (h : w ≤ s.length) : otx w 0 s = s := if_pos ⟨rfl, h⟩
theorem otx_start {w u : Nat} (h : 0 < w) : otx w u [] = padN w u := by
  rw [otx, if_neg (by simp; omega)]
  simp
theorem otx_step {w u : Nat} {s : List UInt8} (h : ¬ (u = 0 ∧ w ≤ s.length)) : otx w (u / 10) (UInt8.ofNat (48 + u % 10) :: s) = otx w u s := by
  unfold otx
  rw [if_neg h]
  unfold padN
  simp only [List.length_cons]
  by_cases h1 : u < 10
  · rw [dd_small h1, show u / 10 = 0 by omega, show u % 10 = u by omega, dd_small (show 0 < 10 by decide)]
    by_cases h2 : w ≤ s.length + 1
    · rw [if_pos ⟨rfl, h2⟩]
      simp only [List.length_cons, List.length_nil]
      rw [show w - s.length - (0 + 1) = 0 by omega]
      rfl
    · rw [if_neg (by omega)]
      simp only [List.length_cons, List.length_nil]
      rw [show w - s.length - (0 + 1) = (w - (s.length + 1) - (0 + 1)) + 1 by omega, List.replicate_succ']
      simp
  · rw [if_neg (by omega), dd_big h1, List.length_append]
    simp only [List.length_cons, List.length_nil]
    rw [show w - s.length - ((DD (u / 10)).length + (0 + 1)) = w - (s.length + 1) - (DD (u / 10)).length by omega]
    simp
theorem otx_len (w u : Nat) (s : List UInt8) : s.length ≤ (otx w u s).length := by
  unfold otx
  split
  · exact Nat.le_refl _
  · rw [List.length_append]; omega
theorem pad_len (w m : Nat) (hw : w ≤ 20) (hm : m ≤ 9223372036854775808) : (padN w m).length ≤ 20 := by
  have := dd_len20 (n := m) (by omega)
  unfold padN
  rw [List.length_append, List.length_replicate]
  omega
theorem dig_slice : ∀ v : Nat, v < 10 → sliceV Tryd.prog 9 (sv [48, 49, 50, 51, 52, 53, 54, 55, 56, 57]) (some (u6 (v : Int))) (some (u6 ((v : Int) + 1))) = some (sv [UInt8.ofNat (48 + v)]) := by
  intro v hv
  have hs : (bs [48, 49, 50, 51, 52, 53, 54, 55, 56, 57]).size = 10 := rfl
  simp only [sliceV, tk9, bound]
  rw [if_pos ⟨by omega, by omega, by rw [hs]; omega⟩]
  rw [show ((v : Int)).toNat = v by omega, show ((v : Int) + 1).toNat = v + 1 by omega]
  have : v = 0 ∨ v = 1 ∨ v = 2 ∨ v = 3 ∨ v = 4 ∨ v = 5 ∨ v = 6 ∨ v = 7 ∨ v = 8 ∨ v = 9 := by omega
  rcases this with rfl | rfl | rfl | rfl | rfl | rfl | rfl | rfl | rfl | rfl <;> rfl
theorem txW_nn {n : Int} (h : 0 ≤ n) : txW n = DD n.toNat := by
  rw [txW_pos (by omega)]
  congr 1
  unfold ab
  split <;> omega
theorem txW_len {n : Int} (h : -9223372036854775808 ≤ n ∧ n ≤ 9223372036854775807) : (txW n).length ≤ 20 := by
  have hb : 0 ≤ ab n ∧ ab n ≤ 9223372036854775808 := by unfold ab; split <;> omega
  have := dd_len20 (n := (ab n).toNat) (by omega)
  unfold txW
  split <;> simp <;> omega
theorem fmt_ok (lim : Nat) (H : Heap) (n : Int) (h : -9223372036854775808 ≤ n ∧ n ≤ 9223372036854775807) : ACall sig lim 55 [AV.i n, AV.i 10] H fun r H' => r = sv (txW n) ∧ H' = H :=
  ⟨1, _, H, by
    show Option.map (fun x => (x, H)) (if (10 : Int) = 10 ∧ -9223372036854775808 ≤ n ∧ n ≤ 9223372036854775807 then some (AV.v (.string ⟨(Lib.itoa n).toArray⟩)) else none) = _
    rw [if_pos ⟨rfl, h⟩, itoa_tx]
    rfl, rfl, rfl⟩
theorem rq_at {z : St} {b T : Int} (hT : T = rxn z * (b * 1000)) : rq z b = (2 * ab T + rxd z) / (2 * rxd z) := by rw [rq, hT]
theorem q_wrap {X D Y E q : Int} (h1 : X = Y) (h2 : D = E) (hq : q = Y / E) (hr : 0 ≤ q ∧ q ≤ 8796093022208001) : IntKind.i64.wrap (X / D) = q := by
  subst h1 h2 hq
  exact wrap_i64 _ (by omega)
theorem rtS_err {z : St} {b : Int} (h : (rtS z b).2 = 0) : okR z b := by
  by_cases h1 : okR z b
  · exact h1
  · rw [rtS_n h1] at h; cases h
/-- Three standings in a row. -/
def g3 (x y z : St) (i : Nat) : St := if i = 0 then x else if i = 1 then y else z
abbrev S3 (x y z : St) : List AV := stL x ++ (stL y ++ stL z)
theorem rtx_m {z : St} {b : Int} (h : rxn z < 0 ∧ 0 < rq z b) : rtx z b = 45 :: (DD (rq z b / 1000).toNat ++ 46 :: padN 3 (rq z b % 1000).toNat) := by rw [rtx, if_pos h]
theorem rtx_p {z : St} {b : Int} (h : ¬ (rxn z < 0 ∧ 0 < rq z b)) : rtx z b = 43 :: (DD (rq z b / 1000).toNat ++ 46 :: padN 3 (rq z b % 1000).toNat) := by rw [rtx, if_neg h]
end Go.Proofs.YtfnapmdedmbdbaaDoor
end
section
set_option linter.unusedVariables false
set_option linter.unusedSimpArgs false
namespace Go.Proofs.YtfnapmdedmbdbaaDoor
open Go Go.Am
structure Pl where
  (ho aw hr hb ar ab wi : Int) (vo : Bool)
deriving DecidableEq
instance : Inhabited Pl := ⟨⟨0, 0, 0, 0, 0, 0, 0, false⟩⟩
abbrev plC (p : Pl) : List AV := [AV.i p.ho, AV.i p.aw, AV.i p.hr, AV.i p.hb, AV.i p.ar, AV.i p.ab, AV.i p.wi, .v (.bool p.vo)]
def flatP (l : List Pl) : List AV := (l.map plC).flatten
abbrev plsAV (l : List Pl) : AV := .sl l.length (flatP l)
abbrev gp (l : List Pl) (u : Nat) : Pl := l.getD u default
theorem cut_of {F : List AV} {C : List AV} {z o : Nat} (hC : C.length = z) (h : ∀ k, k < z → F[o + k]? = C[k]?) : (F.drop o).take z = C := by
  apply List.ext_getElem?
  intro j
  rw [List.getElem?_take, List.getElem?_drop]
  by_cases hj : j < z
  · rw [if_pos hj, h j hj]
  · rw [if_neg hj, List.getElem?_eq_none (by omega)]
/-! ### The first nonzero of a row -/
def ferr (f : Nat → Int) : Nat → Int
  | 0 => 0
  | n + 1 => if ferr f n ≠ 0 then ferr f n else f n
theorem ferr_at {f : Nat → Int} {u : Nat} (h : ferr f u = 0) (hf : f u ≠ 0) : ∀ n, u < n → ferr f n = f u
  | 0, hn => by omega
  | n + 1, hn => by
    unfold ferr
    by_cases hu : u = n
    · subst hu; rw [if_neg (by simp [h])]
    · rw [ferr_at h hf n (by omega), if_pos hf]
theorem ferr_ok {f : Nat → Int} {u : Nat} (h : ferr f u = 0) (hf : f u = 0) : ferr f (u + 1) = 0 := by
  unfold ferr
  rw [if_neg (by simp [h]), hf]
theorem ferr_all {f : Nat → Int} : ∀ {n : Nat}, ferr f n = 0 → ∀ i, i < n → f i = 0
  | 0, _, i, hi => by omega
  | n + 1, h, i, hi => by
    unfold ferr at h
    by_cases h0 : ferr f n ≠ 0
    · rw [if_pos h0] at h; exact absurd h h0
    · rw [if_neg h0] at h
      by_cases hi2 : i = n
      · subst hi2; exact h
      · exact ferr_all (Decidable.not_not.mp h0) i (by omega)
/-- The error of a result of n teams. -/
def plE (n : Int) (p : Pl) : Int :=
  if p.ho < 0 ∨ n ≤ p.ho ∨ p.aw < 0 ∨ n ≤ p.aw ∨ p.ho = p.aw then 1
  else if p.hr < 0 ∨ 2000 < p.hr ∨ p.ar < 0 ∨ 2000 < p.ar ∨ p.hb < 0 ∨ 1000 < p.hb ∨ p.ab < 0 ∨ 1000 < p.ab then 2
  else if p.wi < 0 ∨ 2 < p.wi then 3
  else if p.vo = true ∧ (p.wi ≠ 0 ∨ p.hr ≠ 0 ∨ p.hb ≠ 0 ∨ p.ar ≠ 0 ∨ p.ab ≠ 0) then 11 else 0
def chS (n : Int) (l : List Pl) : Int := if n < 2 ∨ 20 < n then 2 else if 400 < l.length then 9 else ferr (fun i => plE n (gp l i)) l.length
/-- A result counted for one of its teams. -/
def cnS (s : St) (wi r b o a w : Int) : St :=
  { s with pl := s.pl + 1, rf := s.rf + r, bf := s.bf + b, ra := s.ra + o, ba := s.ba + a, sh := if wi = 0 then s.sh + 1 else s.sh, wn := if wi ≠ 0 ∧ wi = w then s.wn + 1 else s.wn, ls := if wi ≠ 0 ∧ wi ≠ w then s.ls + 1 else s.ls, pt := if wi = 0 then s.pt + 1 else if wi = w then s.pt + 2 else s.pt }
def upS (t : Int) (s : St) (p : Pl) : St := if p.aw = t then cnS s p.wi p.ar p.ab p.hr p.hb 2 else if p.ho = t then cnS s p.wi p.hr p.hb p.ar p.ab 1 else s
/-- The standing of a team after results. -/
def stdS (l : List Pl) (t : Int) : St := l.foldl (upS t) ⟨t, 0, 0, 0, 0, 0, 0, 0, 0, 0⟩
/-- What holds of a standing after u results. -/
def StI (u : Nat) (t : Int) (s : St) : Prop := s.tm = t ∧ s.pt = 2 * s.wn + s.sh ∧ s.pl = s.wn + s.sh + s.ls ∧ (0 ≤ s.wn ∧ 0 ≤ s.sh ∧ 0 ≤ s.ls ∧ s.pl ≤ u) ∧ (0 ≤ s.rf ∧ s.rf ≤ 2000 * u) ∧ (0 ≤ s.bf ∧ s.bf ≤ 1000 * u) ∧ (0 ≤ s.ra ∧ s.ra ≤ 2000 * u) ∧ 0 ≤ s.ba ∧ s.ba ≤ 1000 * u
/-- The standings of n teams after results, in the order of their numbers. -/
def stds (n : Nat) (l : List Pl) : List St := (List.range n).map fun t : Nat => stdS l (t : Int)
end Go.Proofs.YtfnapmdedmbdbaaDoor
end
section
set_option linter.unusedVariables false
set_option linter.unusedSimpArgs false
namespace Go.Proofs.YtfnapmdedmbdbaaDoor
open Go Go.Am
/-- Standings as cells. -/
def flatZ (l : List St) : List AV := (l.map stL).flatten
abbrev stsAV (l : List St) : AV := .sl l.length (flatZ l)
abbrev gz (l : List St) (u : Nat) : St := l.getD u ⟨0, 0, 0, 0, 0, 0, 0, 0, 0, 0⟩
theorem flatZ_len (l : List St) : (flatZ l).length = l.length * 10 := by
  induction l with
  | nil => rfl
  | cons s l ih => unfold flatZ at ih ⊢; rw [List.map_cons, List.flatten_cons, List.length_append, ih]; simp; omega
theorem flatZ_get : ∀ (l : List St) (u k : Nat), u < l.length → k < 10 → (flatZ l)[u * 10 + k]? = (stL (gz l u))[k]?
  | [], u, k, h, _ => by simp at h
  | s :: l, 0, k, _, hk => by
    unfold flatZ
    rw [List.map_cons, List.flatten_cons, Nat.zero_mul, Nat.zero_add, List.getElem?_append_left (by simpa using hk)]
    rfl
  | s :: l, u + 1, k, h, hk => by
    have ih := flatZ_get l u k (by simpa using h) hk
    unfold flatZ at ih ⊢
    rw [List.map_cons, List.flatten_cons, List.getElem?_append_right (by simp; omega)]
    rw [show (u + 1) * 10 + k - (stL s).length = u * 10 + k by simp; omega, ih]
    rfl
theorem ld_st (l : List St) (u : Nat) (h : u < l.length) : partL { size := 10, bytes := 80, agg := true, k := TyK.struct [(0, 3), (1, 3), (2, 3), (3, 3), (4, 3), (5, 3), (6, 3), (7, 3), (8, 3), (9, 3)], zero := some [.int .i64 0, .int .i64 0, .int .i64 0, .int .i64 0, .int .i64 0, .int .i64 0, .int .i64 0, .int .i64 0, .int .i64 0, .int .i64 0] } (flatZ l) (u * 10) = some (stA (gz l u)) := by
  rw [pl23 _ _ (by rw [flatZ_len]; omega)]
  exact congrArg (fun c => some (AV.agg c)) (cut_of rfl fun k hk => flatZ_get l u k h hk)
/-- A standing whose points are not reckoned yet. -/
abbrev stW (s : St) : List AV := [AV.i s.tm, AV.i s.pl, AV.i s.wn, AV.i s.sh, AV.i s.ls, AV.i 0, AV.i s.rf, AV.i s.bf, AV.i s.ra, AV.i s.ba]
/-- One block was written, others made: the older ones but that one are as they were. -/
structure But (b : Nat) (H H' : Heap) : Prop where
  len : H.length ≤ H'.length
  old : ∀ c, c < H.length → c ≠ b → hget H' c = hget H c
theorem But.new {b : Nat} {H H' : Heap} {k : Blk} (n : MNew H H' k) : But b H H' := ⟨by rw [n.len]; omega, fun c hc _ => n.old c hc⟩
attribute [go_sem] ld_st
end Go.Proofs.YtfnapmdedmbdbaaDoor
end
section
set_option linter.unusedVariables false
set_option linter.unusedSimpArgs false
namespace Go.Proofs.YtfnapmdedmbdbaaDoor
open Go Go.Am
abbrev z0 : St := ⟨0, 0, 0, 0, 0, 0, 0, 0, 0, 0⟩
theorem gz_get {l : List St} {h : Nat} (hh : h < l.length) : gz l h = l[h] := by simp [gz, List.getD, List.getElem?_eq_getElem hh]
def toO (l : List St) : List SO := l.filterMap fun z => if h : okS z then some ⟨z, h⟩ else none
/-- The table. -/
def tbS (l : List St) : List St := (sortL (toO l)).map (·.1)
def tabS (n : Int) (l : List Pl) : List St := if chS n l = 0 then tbS (stds n.toNat l) else []
abbrev nilZ : AV := .v (.slice none 0 0)
def tbAV (l : List St) : AV := if l = [] then nilZ else stsAV l
end Go.Proofs.YtfnapmdedmbdbaaDoor
end
section
set_option linter.unusedVariables false
set_option linter.unusedSimpArgs false
namespace Go.Proofs.YtfnapmdedmbdbaaDoor
open Go Go.Am
theorem all_step {p : Nat → Prop} {u : Nat} (h : ∀ i, i < u → p i) (hu : p u) : ∀ i, i < u + 1 → p i := fun i hi => by
  by_cases hiu : i = u
  · subst hiu; exact hu
  · exact h i (by omega)
/-! ### Names -/
def bt (s : ByteArray) (i : Nat) : Int := ((s.data[i]?.getD 0).toNat : Int)
def badN (s : ByteArray) (i : Nat) : Prop := ¬ (65 ≤ bt s i ∧ bt s i ≤ 90) ∧ (i = 0 ∨ (bt s i ≠ 95 ∧ bt s i ≠ 45 ∧ (bt s i < 48 ∨ 57 < bt s i)))
instance (s : ByteArray) (i : Nat) : Decidable (badN s i) := by unfold badN; infer_instance
def nameS (s : ByteArray) : Bool := decide (1 ≤ s.size ∧ s.size ≤ 16 ∧ ∀ i, i < s.size → ¬ badN s i)
theorem name_bad {s : ByteArray} {i : Nat} (hi : i < s.size) (h : badN s i) : nameS s = false := by
  unfold nameS
  exact decide_eq_false fun hh => hh.2.2 i hi h
theorem name_len {s : ByteArray} (h : ¬ (1 ≤ s.size ∧ s.size ≤ 16)) : nameS s = false := by
  unfold nameS
  exact decide_eq_false fun hh => h ⟨hh.1, hh.2.1⟩
theorem name_ok {s : ByteArray} (h1 : 1 ≤ s.size) (h2 : s.size ≤ 16) (h : ∀ i, i < s.size → ¬ badN s i) : nameS s = true := by
  unfold nameS
  exact decide_eq_true ⟨h1, h2, h⟩
theorem bt_ld (s : ByteArray) (i : Nat) (h : i < s.size) : (s.data.toList.map (fun c => AV.v (.int .u8 (c.toNat : Int))))[i]? = some (.v (.int .u8 (bt s i))) := by
  have h' : i < s.data.size := h
  rw [List.getElem?_map, Array.getElem?_toList]
  unfold bt
  rw [Array.getElem?_eq_getElem h']
  rfl
theorem str_nil (s : ByteArray) : (s.toList == ByteArray.toList ⟨#[]⟩) = decide (s.size = 0) := by
  rw [Bool.eq_iff_iff]
  simp only [beq_iff_eq, decide_eq_true_eq]
  constructor
  · intro h
    have e : s.data.toList = [] := by
      rw [ByteArray.toList_eq, ByteArray.toList_eq] at h
      exact h
    have := congrArg List.length e
    simpa using this
  · intro h
    have : s = ⟨#[]⟩ := by
      cases s with | mk d => congr; exact Array.eq_empty_of_size_eq_zero h
    rw [this]
theorem str_e (s : ByteArray) : s.toList = ByteArray.toList ⟨#[]⟩ ↔ s.size = 0 := by
  have h := str_nil s
  rw [Bool.eq_iff_iff] at h
  simpa using h
theorem cv66 (s : ByteArray) : convV Tryd.prog 9 66 (.v (.string s)) = none := by
  simp only [convV, tk66]
  cases tyOf Tryd.prog 9 <;> rfl
theorem tk5u : tk Tryd.prog 5 = some (.int .u8) := by rw [tk, ty5]; rfl
theorem ix_str (s : ByteArray) (u : Nat) (h : u < s.size) : indexV Tryd.prog 9 (.v (.string s)) (AV.i u) = some (.v (.int .u8 (bt s u))) := by
  have t9 : tk Tryd.prog 9 = some .string := by rw [tk, ty9]; rfl
  simp only [indexV, t9]
  rw [if_pos ⟨by omega, by simpa using h⟩]
  rfl

/-! ### The text of a table -/
def nmG (ns : List (List UInt8)) (t : Int) : List UInt8 := ns.getD t.toNat []
abbrev nmsAV (ns : List (List UInt8)) : AV := .sl ns.length (ns.map sv)
def rgI (n : Int) : Prop := -9223372036854775808 ≤ n ∧ n ≤ 9223372036854775807
def n5 (z : St) (j : Nat) : Int := if j = 0 then z.pl else if j = 1 then z.wn else if j = 2 then z.sh else if j = 3 then z.ls else z.pt
def rgS (z : St) : Prop := ∀ j, rgI (n5 z j)
def rwE (ns : List (List UInt8)) (z : St) : Int := if z.tm < 0 ∨ (ns.length : Int) ≤ z.tm then 1 else if nameS (bs (nmG ns z.tm)) = false then 5 else (rtS z 6).2
theorem rwE_1 {ns : List (List UInt8)} {z : St} (h : z.tm < 0 ∨ (ns.length : Int) ≤ z.tm) : rwE ns z = 1 := if_pos h
theorem rwE_5 {ns : List (List UInt8)} {z : St} (h : ¬ (z.tm < 0 ∨ (ns.length : Int) ≤ z.tm)) (h2 : nameS (bs (nmG ns z.tm)) = false) : rwE ns z = 5 := by rw [rwE, if_neg h, if_pos h2]
theorem rwE_r {ns : List (List UInt8)} {z : St} (h : ¬ (z.tm < 0 ∨ (ns.length : Int) ≤ z.tm)) (h2 : nameS (bs (nmG ns z.tm)) = true) : rwE ns z = (rtS z 6).2 := by rw [rwE, if_neg h, if_neg (by rw [h2]; decide)]
def rwA (ns : List (List UInt8)) (z : St) (u : Nat) : List UInt8 := txW ((u : Int) + 1) ++ [32] ++ nmG ns z.tm
def rwB (z : St) : Nat → List UInt8
  | 0 => []
  | j + 1 => rwB z j ++ ([32] ++ txW (n5 z j))
def rwX (ns : List (List UInt8)) (z : St) (u : Nat) : List UInt8 := rwA ns z u ++ rwB z 5 ++ ([32] ++ (rtS z 6).1 ++ [10])
def accX (ns : List (List UInt8)) (zs : List St) : Nat → List UInt8
  | 0 => []
  | u + 1 => accX ns zs u ++ rwX ns (gz zs u) u
abbrev erT (ns : List (List UInt8)) (zs : List St) (u : Nat) : Int := rwE ns (gz zs u)
def txtS (zs : List St) (ns : List (List UInt8)) : List UInt8 × Int :=
  if 20 < zs.length then ([], 9) else if ferr (erT ns zs) zs.length = 0 then (accX ns zs zs.length, 0) else ([], ferr (erT ns zs) zs.length)
theorem txtS_9 {zs : List St} {ns : List (List UInt8)} (h : 20 < zs.length) : txtS zs ns = ([], 9) := if_pos h
theorem txtS_e {zs : List St} {ns : List (List UInt8)} {u : Nat} {e : Int} (h : ¬ 20 < zs.length) (hu : u < zs.length) (hf : ferr (erT ns zs) u = 0) (he : erT ns zs u = e) (h0 : e ≠ 0) : txtS zs ns = ([], e) := by
  have h1 := ferr_at hf (by rw [he]; exact h0) zs.length hu
  rw [txtS, if_neg h, if_neg (by rw [h1, he]; exact h0), h1, he]
theorem txtS_y {zs : List St} {ns : List (List UInt8)} (h : ¬ 20 < zs.length) (hf : ferr (erT ns zs) zs.length = 0) : txtS zs ns = (accX ns zs zs.length, 0) := by
  rw [txtS, if_neg h, if_pos hf]
theorem nmG_get {ns : List (List UInt8)} {t : Int} (h0 : ¬ t < 0) (h : t < ns.length) : ns[t.toNat]? = some (nmG ns t) := by
  have h' : t.toNat < ns.length := by omega
  unfold nmG
  rw [List.getD, List.getElem?_eq_getElem h']
  rfl
theorem name_small {l : List UInt8} (h1 : nameS (bs l) = true) : l.length ≤ 16 := by
  unfold nameS at h1
  have := (of_decide_eq_true h1).2.1
  rw [bs_size] at this
  exact this
theorem rt_small {z : St} (h : (rtS z 6).2 = 0) : (rtS z 6).1.length ≤ 24 := by
  have h1 := rtS_err h
  rw [rtS_y h1]
  exact rtx_len h1
theorem rwA_len {ns : List (List UInt8)} {z : St} {u : Nat} (hu : u ≤ 1000) (h : nameS (bs (nmG ns z.tm)) = true) : (rwA ns z u).length ≤ 37 := by
  have h1 := name_small h
  have h2 := txW_len (n := (u : Int) + 1) (by omega)
  unfold rwA
  simp only [List.length_append, List.length_cons, List.length_nil]
  omega
theorem rwB_len {z : St} (hz : rgS z) : ∀ j, (rwB z j).length ≤ 21 * j
  | 0 => by simp [rwB]
  | j + 1 => by
    have h1 := rwB_len hz j
    have h2 := txW_len (hz j)
    simp only [rwB, List.length_append, List.length_cons, List.length_nil]
    omega
theorem rwE_z {ns : List (List UInt8)} {z : St} (h : rwE ns z = 0) : (0 ≤ z.tm ∧ z.tm < ns.length) ∧ nameS (bs (nmG ns z.tm)) = true ∧ (rtS z 6).2 = 0 := by
  by_cases h1 : z.tm < 0 ∨ (ns.length : Int) ≤ z.tm
  · rw [rwE_1 h1] at h; exact absurd h (by decide)
  by_cases h2 : nameS (bs (nmG ns z.tm)) = false
  · rw [rwE_5 h1 h2] at h; exact absurd h (by decide)
  have h2 : nameS (bs (nmG ns z.tm)) = true := by simpa using h2
  rw [rwE_r h1 h2] at h
  exact ⟨by omega, h2, h⟩
theorem rwX_len {ns : List (List UInt8)} {z : St} {u : Nat} (hu : u ≤ 1000) (hz : rgS z) (h : rwE ns z = 0) : (rwX ns z u).length ≤ 200 := by
  obtain ⟨_, h2, h3⟩ := rwE_z h
  have a := rwA_len hu h2
  have b := rwB_len hz 5
  have c := rt_small h3
  unfold rwX
  simp only [List.length_append, List.length_cons, List.length_nil]
  omega
theorem accX_len {ns : List (List UInt8)} {zs : List St} (hz : ∀ u, rgS (gz zs u)) : ∀ u, u ≤ 1000 → ferr (erT ns zs) u = 0 → (accX ns zs u).length ≤ 200 * u
  | 0, _, _ => by simp [accX]
  | u + 1, hu, hf => by
    have h0 := ferr_all hf u (by omega)
    have h1 : ferr (erT ns zs) u = 0 := by
      unfold ferr at hf
      by_cases hh : ferr (erT ns zs) u = 0
      · exact hh
      · rw [if_pos hh] at hf; exact absurd hf hh
    have := accX_len hz u (by omega) h1
    have := rwX_len (u := u) (by omega) (hz u) h0
    simp only [accX, List.length_append]
    omega
theorem bin_bs2 (P : Program) (t : TypeId) (l m : List UInt8) (h : l.length + m.length ≤ 1000000) : binV P .add t (sv l) (sv m) = some (sv (l ++ m)) := by
  have hl := bs_size l
  have hm := bs_size m
  simp only [binV, strBin]
  rw [if_pos (by omega), bs_app]
  rfl
attribute [go_sem] bin_bs2
theorem ld_nm {ns : List (List UInt8)} {t : Int} (h0 : ¬ t < 0) (h : t < ns.length) : (ns.map sv)[t.toNat]? = some (sv (nmG ns t)) := by
  rw [List.getElem?_map, nmG_get h0 h]; rfl
theorem bs76 (lim : Nat) (H : Heap) (a b c d e : Operand) (ev : Operand → AV) (z : St) (ha : ev a = AV.i z.pl) (hb : ev b = AV.i z.wn) (hc : ev c = AV.i z.sh) (hd : ev d = AV.i z.ls) (he : ev e = AV.i z.pt) : effV Tryd.prog lim (.buildSlice 76 5 #[(0, a), (1, b), (2, c), (3, d), (4, e)]) ev H = some (.own 1 H.length 0 5, H ++ [some [AV.i z.pl, AV.i z.wn, AV.i z.sh, AV.i z.ls, AV.i z.pt]]) := by
  simp only [effV, tk76, ty3]
  rw [if_pos ⟨rfl, by decide, by decide⟩]
  simp only [List.map_cons, List.map_nil, ha, hb, hc, hd, he]
  rfl
theorem hg2 (A : Heap) (x y : Option (List AV)) (k : List AV) : hget (A ++ [x] ++ [some k]) (A ++ [y]).length = some k := by
  rw [show (A ++ [y]).length = (A ++ [x]).length by simp]
  simp [hget]
theorem n5_get (z : St) (j : Nat) (h : j < 5) : [AV.i z.pl, AV.i z.wn, AV.i z.sh, AV.i z.ls, AV.i z.pt][j]? = some (AV.i (n5 z j)) := by
  have h : j = 0 ∨ j = 1 ∨ j = 2 ∨ j = 3 ∨ j = 4 := by omega
  rcases h with rfl | rfl | rfl | rfl | rfl <;> rfl
end Go.Proofs.YtfnapmdedmbdbaaDoor
end
