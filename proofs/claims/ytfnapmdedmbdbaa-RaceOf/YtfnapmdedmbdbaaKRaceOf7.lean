/-
  Texts of RaceOf, part 8 of 16. The callees that the abstract machine takes by contract: math/bits.Add64, Mul64, strconv.FormatInt, strings.Repeat, strings.CutPrefix, and slices.SortFunc with points.Compare.
-/
import Derived.Test.YtfnapmdedmbdbaaKRaceOf6
import Derived.KernelRfl
import Derived.Laws.Externs
import Derived.Test.YtfnapmdedmbdbaaKRaceOf4
import Derived.Test.YtfnapmdedmbdbaaKRaceOf5
import Derived.Test.YtfnapmdedmbdbaaKRaceOf1
section
set_option linter.unusedVariables false
namespace Go.Proofs.Ytfnapmdedmbdbaa
open Go Go.Am Go.RowKit Go.Sort
instance dnF : Dn := ⟨False⟩
def primF : FuncId → Option (List AV → Heap → Option AV)
  | 86 => some add64V
  | 80 => some mul64V
  | 13 => some cloneV
  | _ => none
theorem primD_ok : ∀ f p, primC f = some p → ∀ args H r, p args H = some r → ∀ (lim : Nat) (φ : Phi) (I : Nat → Prop) (w : World) (cs : Array Value), Tb w → Rel lim φ I w H → DL φ I w args cs → CallW Try.prog f cs w (PurePost φ I w lim H r) := by
  intro f p h args H r hr lim φ I w cs hT hR hD
  unfold primC at h
  split at h
  · cases h
    unfold add64V at hr
    split at hr
    · rename_i x y c _
      cases three_args hD
      split at hr
      · rename_i hk
        obtain ⟨hx, hy, hc, hc1⟩ := hk
        obtain ⟨x, rfl⟩ := nat_of hx
        obtain ⟨y, rfl⟩ := nat_of hy
        obtain ⟨c, rfl⟩ := nat_of hc
        cases hr
        exact .inr ⟨_, fun w' => run61 x y c (by omega) w', _, I, rfl, den_two _ _, fun _ h => h, Bel.refl _ _, hR⟩
      · cases hr
    · cases hr
  · cases h
    unfold mul64V at hr
    split at hr
    · rename_i x y _
      cases two_args hD
      split at hr
      · rename_i hk
        obtain ⟨⟨hx, hx1⟩, hy, hy1⟩ := hk
        obtain ⟨x, rfl⟩ := nat_of hx
        obtain ⟨y, rfl⟩ := nat_of hy
        cases hr
        refine .inl ⟨named80, (Try.bits_Mul64 x y (by omega) (by omega) w).mono ?_⟩
        rintro e w' ⟨rfl, rfl⟩
        exact ⟨_, I, rfl, den_two _ _, fun _ h => h, Bel.refl _ _, hR⟩
      · cases hr
    · cases hr
  · cases h
theorem prim_ok : ∀ f p, primF f = some p → ∀ args H r, p args H = some r → ∀ (lim : Nat) (φ : Phi) (I : Nat → Prop) (w : World) (cs : Array Value), Tb w → Rel lim φ I w H → DL φ I w args cs → CallW Try.prog f cs w (PurePost φ I w lim H r) := by
  intro f p h args H r hr lim φ I w cs hT hR hD
  by_cases hf : f = 13
  · subst hf
    cases h
    exact clone_prim (fun h => h) hr hR hD
  · refine primD_ok f p (h ▸ ?_) args H r hr lim φ I w cs hT hR hD
    unfold primC primF
    split
    · rfl
    · rfl
    · split
      · exact absurd rfl (by assumption)
      · exact absurd rfl (by assumption)
      · exact absurd rfl hf
      · rfl
/-- The library's sort with points.Compare, of standings of different teams in memory of the call's own. -/
def sortV : Nat → List AV → Heap → Option (AV × Heap)
  | lim, [.own 10 b 0 n, .clo 27 []], H =>
    match hget H b with
    | some k =>
      match rdS k with
      | some ps => if lim ≤ b ∧ 1 ≤ n ∧ ps.length = n ∧ n ≤ 1000 ∧ (ps.map (·.1.tm)).Nodup then some (.tup [], hset H b (some (flatS (sortL ps)))) else none
      | none => none
    | none => none
  | _, _, _ => none
def effF : FuncId → Option (Nat → List AV → Heap → Option (AV × Heap))
  | 26 => some sortV
  | _ => none
theorem named26 : Named Try.prog 26 := ⟨Try.f26, Try.func26, by kernel_rfl, by kernel_rfl⟩
theorem named27 : Named Try.prog 27 := ⟨Try.f27, Try.func27, by kernel_rfl, by kernel_rfl⟩
theorem den_nil {φ : Phi} {I : Nat → Prop} {w : World} : Den φ I w (.tup []) (.tuple #[]) := .tup _ _ rfl (fun j x y hx _ => by simp at hx)
theorem sort_calls {lim : Nat} {φ : Phi} {I : Nat → Prop} {w : World} {H : Heap} (hR : Rel lim φ I w H) {b n : Nat} {ps : List SO} (hb : hget H b = some (flatS ps)) (hlim : lim ≤ b) (hn1 : 1 ≤ n) (hn : ps.length = n) (hn2 : n ≤ 1000) (hd : (ps.map (·.1.tm)).Nodup)
    {cs : Array Value} (hD : DL φ I w [.own 10 b 0 n, .clo 27 []] cs) : Calls Try.prog 26 cs w (CallPost lim φ I w (hset H b (some (flatS (sortL ps)))) (.tup [])) := by
  obtain ⟨l⟩ := cs
  have hl : l.length = 2 := by simpa using hD.1
  match l, hl, hD with
  | [x, y], _, hD =>
    have h0 := hD.2 0 _ x rfl rfl
    have h1 := hD.2 1 _ y rfl rfl
    cases h1 with
    | clo _ _ cs' hs' _ =>
      obtain rfl : cs' = #[] := by simpa using hs'
      cases h0 with
      | own0 => omega
      | own _ _ _ _ c off L hL hnc hc ho =>
        have ho2 : off = L.base ∧ off + c * 10 ≤ L.S := by rcases ho with h | h <;> omega
        obtain ⟨rfl, ho3⟩ := ho2
        rcases hR.blk b _ hb with ⟨h2, _⟩ | ⟨L', C, T, h2, hC, hS, hO⟩
        · rw [hL] at h2; cases h2
        · obtain rfl : L = L' := by rw [hL] at h2; cases h2; rfl
          have hdis := hR.disj b L hL
          have hH := holds_of (d := ps.toArray) (by simp) hC hO
          have hT : ∀ (m : Nat) (os : Array Obj) (dk : Array SO) (w1 : World), (∀ k, k < (sortWorldK encS 10 w L.k L.base m dk os).heap.size → w1.heap[k]? = (sortWorldK encS 10 w L.k L.base m dk os).heap[k]?) → Tb w1 := by
            intro m os dk w1 hw1
            refine hR.tab w1 fun k hk => ?_
            have hlt := hR.Ilt k hk
            have hsz := size_sortWorldK_c encS 10 w L.k L.base m dk os
            rw [hw1 k (by omega), sw_other (fun e : k = L.k => hdis.1 (by rw [← e]; exact hk)) hlt]
          have hcon := AnyQ.slices_SortFunc Try.sortSt 10 (fun w => Go.Am.run_isAgg ty47 w) (fun w => Go.Am.run_sizeOf ty47 w) encS (fun _ => rfl) (fun x v hv => by simp [encS] at hv; rcases hv with rfl | rfl | rfl | rfl | rfl | rfl | rfl | rfl | rfl | rfl <;> rfl) cmO swoS 27 #[] L.k L.base c ps.toArray w (fun args w' => named_run named27 args w') (cmp_lays L.k L.base ps.toArray.size w hT) hH hdis.2 (by simp; omega)
          have e : #[Value.slice (some ⟨L.k, L.base, none⟩) n c, Value.func (.func 27) #[] #[]] = #[Value.slice (some ⟨L.k, L.base, none⟩) ps.toArray.size c, Value.func (.func 27) #[] #[]] := by simp [hn]
          rw [show (⟨[Value.slice (some ⟨L.k, L.base, none⟩) n c, Value.func (.func 27) #[] #[]]⟩ : Array Value) = #[Value.slice (some ⟨L.k, L.base, none⟩) ps.toArray.size c, Value.func (.func 27) #[] #[]] from e]
          refine Calls.mono (show Calls Try.prog 26 _ _ _ from hcon) ?_
          rintro e w' ⟨rfl, d', q, os, hp, hs, rfl⟩
          have hd' := sorted_is hp hs (by simpa using hd)
          obtain ⟨r1, e1⟩ := sorted_rel hR hb hL hlim hC hS hO (q := q) (os := os) (by simpa using hd')
          exact ⟨_, φ, I, rfl, den_nil, r1, e1⟩
theorem eff_ok : ∀ f p, effF f = some p → ∀ lim args H r H', p lim args H = some (r, H') → ∀ (φ : Phi) (I : Nat → Prop) (w : World) (cs : Array Value), Tb w → Rel lim φ I w H → DL φ I w args cs → Calls Try.prog f cs w (CallPost lim φ I w H' r) ∧ Named Try.prog f := by
  intro f p h lim args H r H' hr φ I w cs hT hR hD
  unfold effF at h
  split at h
  · cases h
    unfold sortV at hr
    split at hr
    · split at hr
      · rename_i hb
        split at hr
        · rename_i hps
          split at hr
          · rename_i hk
            obtain ⟨h1, h2, h3, h4, h5⟩ := hk
            cases hr
            exact ⟨sort_calls hR (by rw [hb, rdS_eq hps]) h1 h2 h3 h4 h5 hD, named26⟩
          · cases hr
        · cases hr
      · cases hr
    · cases hr
  · cases h
end Go.Proofs.Ytfnapmdedmbdbaa
end
section
set_option linter.unusedSimpArgs false
set_option linter.unusedVariables false
namespace Go.Proofs.Ytfnapmdedmbdbaa
open Go Go.Am
noncomputable def fns : FuncId → Option FnA
  | 3 => some fa3
  | 4 => some fa4
  | 5 => some fa5
  | 6 => some fa6
  | 7 => some fa7
  | 8 => some fa8
  | 9 => some fa9
  | 10 => some fa10
  | 11 => some fa11
  | 12 => some fa12
  | 14 => some fa14
  | 15 => some fa15
  | 16 => some fa16
  | 17 => some fa17
  | 18 => some fa18
  | 19 => some fa19
  | 20 => some fa20
  | 21 => some fa21
  | 22 => some fa22
  | 23 => some fa23
  | 24 => some fa24
  | 25 => some fa25
  | 27 => some fa27
  | 28 => some fa28
  | 29 => some fa29
  | 30 => some fa30
  | 31 => some fa31
  | 32 => some fa32
  | 33 => some fa33
  | 34 => some fa34
  | 35 => some fa35
  | 36 => some fa36
  | 37 => some fa37
  | 38 => some fa38
  | 39 => some fa39
  | 40 => some fa40
  | 41 => some fa41
  | 42 => some fa42
  | 45 => some fa45
  | 46 => some fa46
  | 47 => some fa47
  | 48 => some fa48
  | 49 => some fa49
  | 50 => some fa50
  | 51 => some fa51
  | 52 => some fa52
  | 53 => some fa53
  | 54 => some fa54
  | 55 => some fa55
  | 66 => some fa66
  | 67 => some fa67
  | 68 => some fa68
  | 69 => some fa69
  | 70 => some fa70
  | 71 => some fa71
  | 72 => some fa72
  | 73 => some fa73
  | 79 => some fa79
  | 81 => some fa81
  | 82 => some fa82
  | 83 => some fa83
  | 84 => some fa84
  | 87 => some fa87
  | 88 => some fa88
  | 89 => some fa89
  | 90 => some fa90
  | 91 => some fa91
  | _ => none

noncomputable def sig : Sig := { P := Try.prog, fns := fns, prim := primF, own := fun f => f == 25 || f == 26 || f == 54, fz := fun f => f == 4 || f == 14 || f == 16, eff := effF }

theorem fnOK3 : FnOK Try.prog sig.pure 3 fa3 := ⟨Try.func3, by kernel_rfl, fun c hc => by cases hc; kernel_rfl⟩
theorem fnOK4 : FnOK Try.prog sig.pure 4 fa4 := ⟨Try.func4, by kernel_rfl, fun c hc => by cases hc; kernel_rfl⟩
theorem fnOK5 : FnOK Try.prog sig.pure 5 fa5 := ⟨Try.func5, by kernel_rfl, fun c hc => by cases hc; kernel_rfl⟩
theorem fnOK6 : FnOK Try.prog sig.pure 6 fa6 := ⟨Try.func6, by kernel_rfl, fun c hc => by cases hc; kernel_rfl⟩
theorem fnOK7 : FnOK Try.prog sig.pure 7 fa7 := ⟨Try.func7, by kernel_rfl, fun c hc => by cases hc; kernel_rfl⟩
theorem fnOK8 : FnOK Try.prog sig.pure 8 fa8 := ⟨Try.func8, by kernel_rfl, fun c hc => by cases hc; kernel_rfl⟩
theorem fnOK9 : FnOK Try.prog sig.pure 9 fa9 := ⟨Try.func9, by kernel_rfl, fun c hc => by cases hc; kernel_rfl⟩
theorem fnOK10 : FnOK Try.prog sig.pure 10 fa10 := ⟨Try.func10, by kernel_rfl, fun c hc => by cases hc; kernel_rfl⟩
theorem fnOK11 : FnOK Try.prog sig.pure 11 fa11 := ⟨Try.func11, by kernel_rfl, fun c hc => by cases hc; kernel_rfl⟩
theorem fnOK12 : FnOK Try.prog sig.pure 12 fa12 := ⟨Try.func12, by kernel_rfl, fun c hc => by cases hc; kernel_rfl⟩
theorem fnOK14 : FnOK Try.prog sig.pure 14 fa14 := ⟨Try.func14, by kernel_rfl, fun c hc => by cases hc; kernel_rfl⟩
theorem fnOK15 : FnOK Try.prog sig.pure 15 fa15 := ⟨Try.func15, by kernel_rfl, fun c hc => by cases hc; kernel_rfl⟩
theorem fnOK16 : FnOK Try.prog sig.pure 16 fa16 := ⟨Try.func16, by kernel_rfl, fun c hc => by cases hc; kernel_rfl⟩
theorem fnOK17 : FnOK Try.prog sig.pure 17 fa17 := ⟨Try.func17, by kernel_rfl, fun c hc => by cases hc; kernel_rfl⟩
theorem fnOK18 : FnOK Try.prog sig.pure 18 fa18 := ⟨Try.func18, by kernel_rfl, fun c hc => by cases hc; kernel_rfl⟩
theorem fnOK19 : FnOK Try.prog sig.pure 19 fa19 := ⟨Try.func19, by kernel_rfl, fun c hc => by cases hc; kernel_rfl⟩
theorem fnOK20 : FnOK Try.prog sig.pure 20 fa20 := ⟨Try.func20, by kernel_rfl, fun c hc => by cases hc; kernel_rfl⟩
theorem fnOK21 : FnOK Try.prog sig.pure 21 fa21 := ⟨Try.func21, by kernel_rfl, fun c hc => by cases hc; kernel_rfl⟩
theorem fnOK22 : FnOK Try.prog sig.pure 22 fa22 := ⟨Try.func22, by kernel_rfl, fun c hc => by cases hc; kernel_rfl⟩
theorem fnOK23 : FnOK Try.prog sig.pure 23 fa23 := ⟨Try.func23, by kernel_rfl, fun c hc => by cases hc; kernel_rfl⟩
theorem fnOK24 : FnOK Try.prog sig.pure 24 fa24 := ⟨Try.func24, by kernel_rfl, fun c hc => by cases hc; kernel_rfl⟩
theorem fnOK25 : FnOK Try.prog sig.pure 25 fa25 := ⟨Try.func25, by kernel_rfl, fun c hc => by cases hc; kernel_rfl⟩
theorem fnOK27 : FnOK Try.prog sig.pure 27 fa27 := ⟨Try.func27, by kernel_rfl, fun c hc => by cases hc; kernel_rfl⟩
theorem fnOK28 : FnOK Try.prog sig.pure 28 fa28 := ⟨Try.func28, by kernel_rfl, fun c hc => by cases hc; kernel_rfl⟩
theorem fnOK29 : FnOK Try.prog sig.pure 29 fa29 := ⟨Try.func29, by kernel_rfl, fun c hc => by cases hc; kernel_rfl⟩
theorem fnOK30 : FnOK Try.prog sig.pure 30 fa30 := ⟨Try.func30, by kernel_rfl, fun c hc => by cases hc; kernel_rfl⟩
theorem fnOK31 : FnOK Try.prog sig.pure 31 fa31 := ⟨Try.func31, by kernel_rfl, fun c hc => by cases hc; kernel_rfl⟩
theorem fnOK32 : FnOK Try.prog sig.pure 32 fa32 := ⟨Try.func32, by kernel_rfl, fun c hc => by cases hc; kernel_rfl⟩
theorem fnOK33 : FnOK Try.prog sig.pure 33 fa33 := ⟨Try.func33, by kernel_rfl, fun c hc => by cases hc; kernel_rfl⟩
theorem fnOK34 : FnOK Try.prog sig.pure 34 fa34 := ⟨Try.func34, by kernel_rfl, fun c hc => by cases hc; kernel_rfl⟩
theorem fnOK35 : FnOK Try.prog sig.pure 35 fa35 := ⟨Try.func35, by kernel_rfl, fun c hc => by cases hc; kernel_rfl⟩
theorem fnOK36 : FnOK Try.prog sig.pure 36 fa36 := ⟨Try.func36, by kernel_rfl, fun c hc => by cases hc; kernel_rfl⟩
theorem fnOK37 : FnOK Try.prog sig.pure 37 fa37 := ⟨Try.func37, by kernel_rfl, fun c hc => by cases hc; kernel_rfl⟩
theorem fnOK38 : FnOK Try.prog sig.pure 38 fa38 := ⟨Try.func38, by kernel_rfl, fun c hc => by cases hc; kernel_rfl⟩
theorem fnOK39 : FnOK Try.prog sig.pure 39 fa39 := ⟨Try.func39, by kernel_rfl, fun c hc => by cases hc; kernel_rfl⟩
theorem fnOK40 : FnOK Try.prog sig.pure 40 fa40 := ⟨Try.func40, by kernel_rfl, fun c hc => by cases hc; kernel_rfl⟩
theorem fnOK41 : FnOK Try.prog sig.pure 41 fa41 := ⟨Try.func41, by kernel_rfl, fun c hc => by cases hc; kernel_rfl⟩
theorem fnOK42 : FnOK Try.prog sig.pure 42 fa42 := ⟨Try.func42, by kernel_rfl, fun c hc => by cases hc; kernel_rfl⟩
theorem fnOK45 : FnOK Try.prog sig.pure 45 fa45 := ⟨Try.func45, by kernel_rfl, fun c hc => by cases hc; kernel_rfl⟩
theorem fnOK46 : FnOK Try.prog sig.pure 46 fa46 := ⟨Try.func46, by kernel_rfl, fun c hc => by cases hc; kernel_rfl⟩
theorem fnOK47 : FnOK Try.prog sig.pure 47 fa47 := ⟨Try.func47, by kernel_rfl, fun c hc => by cases hc; kernel_rfl⟩
theorem fnOK48 : FnOK Try.prog sig.pure 48 fa48 := ⟨Try.func48, by kernel_rfl, fun c hc => by cases hc; kernel_rfl⟩
theorem fnOK49 : FnOK Try.prog sig.pure 49 fa49 := ⟨Try.func49, by kernel_rfl, fun c hc => by cases hc; kernel_rfl⟩
theorem fnOK50 : FnOK Try.prog sig.pure 50 fa50 := ⟨Try.func50, by kernel_rfl, fun c hc => by cases hc; kernel_rfl⟩
theorem fnOK51 : FnOK Try.prog sig.pure 51 fa51 := ⟨Try.func51, by kernel_rfl, fun c hc => by cases hc; kernel_rfl⟩
theorem fnOK52 : FnOK Try.prog sig.pure 52 fa52 := ⟨Try.func52, by kernel_rfl, fun c hc => by cases hc; kernel_rfl⟩
theorem fnOK53 : FnOK Try.prog sig.pure 53 fa53 := ⟨Try.func53, by kernel_rfl, fun c hc => by cases hc; kernel_rfl⟩
theorem fnOK54 : FnOK Try.prog sig.pure 54 fa54 := ⟨Try.func54, by kernel_rfl, fun c hc => by cases hc; kernel_rfl⟩
theorem fnOK55 : FnOK Try.prog sig.pure 55 fa55 := ⟨Try.func55, by kernel_rfl, fun c hc => by cases hc; kernel_rfl⟩
theorem fnOK66 : FnOK Try.prog sig.pure 66 fa66 := ⟨Try.func66, by kernel_rfl, fun c hc => by cases hc; kernel_rfl⟩
theorem fnOK67 : FnOK Try.prog sig.pure 67 fa67 := ⟨Try.func67, by kernel_rfl, fun c hc => by cases hc; kernel_rfl⟩
theorem fnOK68 : FnOK Try.prog sig.pure 68 fa68 := ⟨Try.func68, by kernel_rfl, fun c hc => by cases hc; kernel_rfl⟩
theorem fnOK69 : FnOK Try.prog sig.pure 69 fa69 := ⟨Try.func69, by kernel_rfl, fun c hc => by cases hc; kernel_rfl⟩
theorem fnOK70 : FnOK Try.prog sig.pure 70 fa70 := ⟨Try.func70, by kernel_rfl, fun c hc => by cases hc; kernel_rfl⟩
theorem fnOK71 : FnOK Try.prog sig.pure 71 fa71 := ⟨Try.func71, by kernel_rfl, fun c hc => by cases hc; kernel_rfl⟩
theorem fnOK72 : FnOK Try.prog sig.pure 72 fa72 := ⟨Try.func72, by kernel_rfl, fun c hc => by cases hc; kernel_rfl⟩
theorem fnOK73 : FnOK Try.prog sig.pure 73 fa73 := ⟨Try.func73, by kernel_rfl, fun c hc => by cases hc; kernel_rfl⟩
theorem fnOK79 : FnOK Try.prog sig.pure 79 fa79 := ⟨Try.func79, by kernel_rfl, fun c hc => by cases hc; kernel_rfl⟩
theorem fnOK81 : FnOK Try.prog sig.pure 81 fa81 := ⟨Try.func81, by kernel_rfl, fun c hc => by cases hc; kernel_rfl⟩
theorem fnOK82 : FnOK Try.prog sig.pure 82 fa82 := ⟨Try.func82, by kernel_rfl, fun c hc => by cases hc; kernel_rfl⟩
theorem fnOK83 : FnOK Try.prog sig.pure 83 fa83 := ⟨Try.func83, by kernel_rfl, fun c hc => by cases hc; kernel_rfl⟩
theorem fnOK84 : FnOK Try.prog sig.pure 84 fa84 := ⟨Try.func84, by kernel_rfl, fun c hc => by cases hc; kernel_rfl⟩
theorem fnOK87 : FnOK Try.prog sig.pure 87 fa87 := ⟨Try.func87, by kernel_rfl, fun c hc => by cases hc; kernel_rfl⟩
theorem fnOK88 : FnOK Try.prog sig.pure 88 fa88 := ⟨Try.func88, by kernel_rfl, fun c hc => by cases hc; kernel_rfl⟩
theorem fnOK89 : FnOK Try.prog sig.pure 89 fa89 := ⟨Try.func89, by kernel_rfl, fun c hc => by cases hc; kernel_rfl⟩
theorem fnOK90 : FnOK Try.prog sig.pure 90 fa90 := ⟨Try.func90, by kernel_rfl, fun c hc => by cases hc; kernel_rfl⟩
theorem fnOK91 : FnOK Try.prog sig.pure 91 fa91 := ⟨Try.func91, by kernel_rfl, fun c hc => by cases hc; kernel_rfl⟩

theorem fns_ok : ∀ f fa, fns f = some fa → FnOK Try.prog sig.pure f fa := by
  intro f fa h
  unfold fns at h
  split at h <;> first | (cases h; done) | skip
  · cases h; exact fnOK3
  · cases h; exact fnOK4
  · cases h; exact fnOK5
  · cases h; exact fnOK6
  · cases h; exact fnOK7
  · cases h; exact fnOK8
  · cases h; exact fnOK9
  · cases h; exact fnOK10
  · cases h; exact fnOK11
  · cases h; exact fnOK12
  · cases h; exact fnOK14
  · cases h; exact fnOK15
  · cases h; exact fnOK16
  · cases h; exact fnOK17
  · cases h; exact fnOK18
  · cases h; exact fnOK19
  · cases h; exact fnOK20
  · cases h; exact fnOK21
  · cases h; exact fnOK22
  · cases h; exact fnOK23
  · cases h; exact fnOK24
  · cases h; exact fnOK25
  · cases h; exact fnOK27
  · cases h; exact fnOK28
  · cases h; exact fnOK29
  · cases h; exact fnOK30
  · cases h; exact fnOK31
  · cases h; exact fnOK32
  · cases h; exact fnOK33
  · cases h; exact fnOK34
  · cases h; exact fnOK35
  · cases h; exact fnOK36
  · cases h; exact fnOK37
  · cases h; exact fnOK38
  · cases h; exact fnOK39
  · cases h; exact fnOK40
  · cases h; exact fnOK41
  · cases h; exact fnOK42
  · cases h; exact fnOK45
  · cases h; exact fnOK46
  · cases h; exact fnOK47
  · cases h; exact fnOK48
  · cases h; exact fnOK49
  · cases h; exact fnOK50
  · cases h; exact fnOK51
  · cases h; exact fnOK52
  · cases h; exact fnOK53
  · cases h; exact fnOK54
  · cases h; exact fnOK55
  · cases h; exact fnOK66
  · cases h; exact fnOK67
  · cases h; exact fnOK68
  · cases h; exact fnOK69
  · cases h; exact fnOK70
  · cases h; exact fnOK71
  · cases h; exact fnOK72
  · cases h; exact fnOK73
  · cases h; exact fnOK79
  · cases h; exact fnOK81
  · cases h; exact fnOK82
  · cases h; exact fnOK83
  · cases h; exact fnOK84
  · cases h; exact fnOK87
  · cases h; exact fnOK88
  · cases h; exact fnOK89
  · cases h; exact fnOK90
  · cases h; exact fnOK91

theorem prim_own : ∀ f p, primF f = some p → sig.own f = false := by
  intro f p h
  unfold primF at h
  split at h <;> first | rfl | cases h
theorem eff_own : ∀ f p, effF f = some p → sig.own f = true := by
  intro f p h
  unfold effF at h
  split at h <;> first | rfl | cases h
theorem sig_ok : SigOK sig := ⟨by kernel_rfl, fns_ok, fun f h => by
  have h := (show (f == 4 || f == 14 || f == 16) = true from h)
  simp only [Bool.or_eq_true, beq_iff_eq] at h
  rcases h with ((rfl | rfl) | rfl) <;> rfl, fun f p h => ⟨prim_own f p h, prim_ok f p h⟩, fun f p h => ⟨eff_own f p h, eff_ok f p h⟩⟩
theorem sigP : sig.P = Try.prog := rfl
attribute [go_sem] sigP
end Go.Proofs.Ytfnapmdedmbdbaa
end
section
set_option linter.unusedSimpArgs false
set_option linter.unusedVariables false
set_option maxHeartbeats 4000000
set_option maxRecDepth 20000
namespace Go.Proofs.Ytfnapmdedmbdbaa
open Go Go.Am
abbrev intsAV (l : List Int) : AV := .sl l.length (l.map AV.i)
theorem setL_map (l : List Int) (w : Nat) (x : Int) : setL (l.map AV.i) w [AV.i x] = (l.set w x).map AV.i := by
  rw [setL_one, List.map_set]
theorem ms25 (lim : Nat) (H : Heap) (n : Int) (x y : Operand) (ev : Operand → AV) (h0 : 0 ≤ n) (hn : n ≤ 1000000) (h : ev x = AV.i n) (h' : ev y = AV.i n) :
    effV Try.prog lim (.makeSlice 25 x y) ev H = some (.own 1 H.length 0 n.toNat, H ++ [some ((List.replicate n.toNat (0 : Int)).map AV.i)]) := by
  simp only [effV, tk25, ty3, h, h']
  rw [if_pos ⟨rfl, by decide, by omega, by omega, by omega, by omega⟩]
  have key : ∀ k, (List.replicate k ([Value.int .i64 0].map AV.v)).flatten = (List.replicate k (0 : Int)).map AV.i := by
    intro k
    induction k with
    | zero => rfl
    | succ k ih => rw [List.replicate_succ, List.flatten_cons, ih, List.replicate_succ]; rfl
  rw [key]
theorem frz_ownB {H : Heap} {base d z b o n : Nat} {k : Blk} (hb : ¬ b < base) (hk : hget H b = some k) : frz H base (d + 1) (.own z b o n) = .sl n ((k.drop o).map (frz H base d)) := by
  simp [frz, hb, hk]
theorem frz_ints (H : Heap) (b d : Nat) (l : List Int) : (l.map AV.i).map (frz H b (d + 1)) = l.map AV.i := by
  rw [List.map_map]; rfl
theorem frz_ownI {H : Heap} {base d b n : Nat} {l : List Int} (hb : ¬ b < base) (hk : hget H b = some (l.map AV.i)) (hn : n = l.length) : frz H base (d + 2) (.own 1 b 0 n) = intsAV l := by
  rw [frz_ownB hb hk, List.drop_zero, frz_ints, hn]
structure Pr where
  a : Int
  b : Int
deriving DecidableEq
instance : Inhabited Pr := ⟨⟨0, 0⟩⟩
abbrev prC (p : Pr) : List AV := [AV.i p.a, AV.i p.b]
def flatQ (l : List Pr) : List AV := (l.map prC).flatten
abbrev prsAV (l : List Pr) : AV := .sl l.length (flatQ l)
abbrev raceC (P : List Int) (L : List Pr) : List AV := [intsAV P, prsAV L]
abbrev nilP : AV := .v (.slice none 0 0)
theorem flatQ_len (l : List Pr) : (flatQ l).length = l.length * 2 := by
  induction l with
  | nil => rfl
  | cons s l ih => unfold flatQ at ih ⊢; rw [List.map_cons, List.flatten_cons, List.length_append, ih]; simp; omega
theorem flatQ_get : ∀ (l : List Pr) (u k : Nat), u < l.length → k < 2 → (flatQ l)[u * 2 + k]? = (prC (gt l u))[k]?
  | [], u, k, h, _ => by simp at h
  | s :: l, 0, k, _, hk => by
    unfold flatQ
    rw [List.map_cons, List.flatten_cons, Nat.zero_mul, Nat.zero_add, List.getElem?_append_left (by simpa using hk)]
    rfl
  | s :: l, u + 1, k, h, hk => by
    have ih := flatQ_get l u k (by simpa using h) hk
    unfold flatQ at ih ⊢
    rw [List.map_cons, List.flatten_cons, List.getElem?_append_right (by simp; omega)]
    rw [show (u + 1) * 2 + k - (prC s).length = u * 2 + k by simp; omega, ih]
    rfl
theorem ld_pr (l : List Pr) (u : Nat) (h : u < l.length) : partL { size := 2, bytes := 16, agg := true, k := TyK.array 2 3, zero := some [.int .i64 0, .int .i64 0] } (flatQ l) (u * 2) = some (.agg (prC (gt l u))) := by
  rw [pl33 _ _ (by rw [flatQ_len]; omega)]
  congr 2
  apply List.ext_getElem?
  intro j
  rw [List.getElem?_take, List.getElem?_drop]
  by_cases hj : j < 2
  · rw [if_pos hj, flatQ_get l u j h hj]
  · rw [if_neg hj, List.getElem?_eq_none (by simp; omega)]
theorem flatQ_app (w : List Pr) (c : Pr) : flatQ (w ++ [c]) = flatQ w ++ prC c := by
  unfold flatQ
  rw [List.map_append, List.flatten_append]
  simp
theorem bld58 (x y : Int) : buildV Try.prog 33 [(0, AV.i x), (1, AV.i y)] = some (.agg [AV.i x, AV.i y]) := by
  simp only [buildV, ty33, ty3]
  rfl
theorem eq58 (p q : Pr) : binV Try.prog .eql 33 (.agg (prC p)) (.agg (prC q)) = some (.v (.bool (decide (p = q)))) := by
  have h : ∀ a b : Int, scalEq (tyOf Try.prog 3) (AV.i a) (AV.i b) = some (a == b) := fun a b => by simp only [scalEq, ty3, kOf, Option.map_some, if_true]
  have e : eqOk Try.prog 33 = true := eqOk33
  simp only [binV, aggEq, e, tk33, ty3]
  obtain ⟨pa, pb⟩ := p
  obtain ⟨qa, qb⟩ := q
  have c : cellsEq (tyOf Try.prog 3) (prC ⟨pa, pb⟩) (prC ⟨qa, qb⟩) 0 2 = some (decide (Pr.mk pa pb = Pr.mk qa qb)) := by
    simp only [cellsEq, List.getElem?_cons_zero, List.getElem?_cons_succ, h]
    by_cases h1 : pa = qa
    · subst h1
      rw [show (pa == pa) = true by simp]
      by_cases h2 : pb = qb
      · subst h2
        rw [show (pb == pb) = true by simp]
        simp
      · rw [show (pb == qb) = false by simpa using h2]
        simp [h2]
    · rw [show (pa == qa) = false by simpa using h1]
      simp [h1]
  simp only [ty3] at c
  simp [c]
theorem ne58 (p q : Pr) : binV Try.prog .neq 33 (.agg (prC p)) (.agg (prC q)) = some (.v (.bool (!decide (p = q)))) := by
  have h : ∀ a b : Int, scalEq (tyOf Try.prog 3) (AV.i a) (AV.i b) = some (a == b) := fun a b => by simp only [scalEq, ty3, kOf, Option.map_some, if_true]
  have e : eqOk Try.prog 33 = true := eqOk33
  simp only [binV, aggEq, e, tk33, ty3]
  obtain ⟨pa, pb⟩ := p
  obtain ⟨qa, qb⟩ := q
  have c : cellsEq (tyOf Try.prog 3) (prC ⟨pa, pb⟩) (prC ⟨qa, qb⟩) 0 2 = some (decide (Pr.mk pa pb = Pr.mk qa qb)) := by
    simp only [cellsEq, List.getElem?_cons_zero, List.getElem?_cons_succ, h]
    by_cases h1 : pa = qa
    · subst h1
      rw [show (pa == pa) = true by simp]
      by_cases h2 : pb = qb
      · subst h2
        rw [show (pb == pb) = true by simp]
        simp
      · rw [show (pb == qb) = false by simpa using h2]
        simp [h2]
    · rw [show (pa == qa) = false by simpa using h1]
      simp [h1]
  simp only [ty3] at c
  simp [c]
attribute [go_sem] ld_pr bld58 eq58 ne58

def norm (p : Pr) : Pr := ⟨min p.a p.b, max p.a p.b⟩
theorem norm_iff (p q : Pr) : (p.a = q.a ∧ p.b = q.b ∨ p.a = q.b ∧ p.b = q.a) ↔ norm p = norm q := by
  simp only [norm, Pr.mk.injEq]
  omega
/-- The different pairs of the first matches. -/
def pairsN (L : List Pr) : Nat → List Pr
  | 0 => []
  | u + 1 => if norm (gt L u) ∈ pairsN L u then pairsN L u else pairsN L u ++ [norm (gt L u)]
def refN (L : List Pr) : Nat → List Pr
  | 0 => []
  | u + 1 => if norm (gt L u) ∈ (refN L u).map norm then refN L u else refN L u ++ [gt L u]
theorem ref_norm (L : List Pr) : ∀ u, (refN L u).map norm = pairsN L u
  | 0 => rfl
  | u + 1 => by
    rw [refN, pairsN, ref_norm L u]
    split
    · exact ref_norm L u
    · rw [List.map_append, ref_norm L u]; rfl
theorem pairs_len (L : List Pr) : ∀ u, (pairsN L u).length ≤ u
  | 0 => Nat.le_refl _
  | u + 1 => by
    have := pairs_len L u
    rw [pairsN]
    split
    · omega
    · simp; omega
theorem ref_len (L : List Pr) (u : Nat) : (refN L u).length = (pairsN L u).length := by rw [← ref_norm, List.length_map]

/-- A list of pairs as it is gathered: nothing yet, or a block. -/
def OutP (lo : Nat) (H : Heap) (o : AV) (w : List Pr) : Prop := (w = [] ∧ o = nilP) ∨ (w ≠ [] ∧ ∃ b, o = .own 2 b 0 w.length ∧ lo ≤ b ∧ hget H b = some (flatQ w))
theorem OutP.mono {lo : Nat} {H H' : Heap} {o : AV} {w : List Pr} (h : OutP lo H o w) (hh : ∀ b, lo ≤ b → ∀ k, hget H b = some k → hget H' b = some k) : OutP lo H' o w := by
  rcases h with h | ⟨h0, b, h1, h2, h3⟩
  · exact .inl h
  · exact .inr ⟨h0, b, h1, h2, hh b h2 _ h3⟩
theorem OutP.lt {lo b : Nat} {H : Heap} {o : AV} {w : List Pr} (h : OutP lo H o w) (ho : o = .own 2 b 0 w.length) : b < H.length := by
  rcases h with ⟨_, h⟩ | ⟨_, b', h1, _, h3⟩
  · rw [h] at ho; cases ho
  · rw [h1] at ho; cases ho; exact hget_lt h3
theorem bs41 (lim : Nat) (H : Heap) (x : Operand) (ev : Operand → AV) (c : Pr) (h : ev x = .agg (prC c)) :
    effV Try.prog lim (.buildSlice 23 1 #[(0, x)]) ev H = some (.own 2 H.length 0 1, H ++ [some (prC c)]) := by
  simp only [effV, tk23, ty33]
  rw [if_pos ⟨rfl, by decide, by decide⟩]
  simp only [List.map_cons, List.map_nil, h]
  rfl
theorem outP_append {lim lo hi : Nat} {H : Heap} {o : AV} {w : List Pr} {c : Pr} {b' : Nat} (h : OutP lo H o w) (hob : ∀ b, o = .own 2 b 0 w.length → b < hi) (hc : hget H b' = some (prC c)) (hl : lim ≤ lo) (hlo : lo ≤ H.length) (hw : w.length ≤ 100000) :
    ∃ b, lo ≤ b ∧ (b < hi ∨ b = H.length) ∧ ∃ H', appendV Try.prog lim H 23 o (.own 2 b' 0 1) = some (.own 2 H.length 0 (w.length + 1), H') ∧ MGrew H b H' (flatQ (w ++ [c])) := by
  rcases h with ⟨rfl, rfl⟩ | ⟨h0, b, rfl, h2, h3⟩
  · refine ⟨H.length, hlo, .inr rfl, _, ?_, MGrew.ofNew _ (MNew.of _ _)⟩
    simp only [appendV, tk23, ty33, srcCells, hc]
    rw [if_pos (by simp)]
    simp only [List.length_cons, List.length_nil]
    rw [if_pos ⟨trivial, by decide, rfl⟩]
    rw [if_pos ⟨by omega, by omega⟩]
    rfl
  · refine ⟨b, h2, .inl (hob b rfl), _, ?_, MGrew.of _ _ _⟩
    simp only [appendV, tk23, ty33, srcCells, hc, h3]
    rw [if_pos (by simp)]
    simp only [List.length_cons, List.length_nil]
    rw [if_pos ⟨trivial, by decide, rfl⟩]
    simp only [List.drop_zero, flatQ_len]
    rw [if_pos ⟨by omega, trivial, by omega, by omega, by omega⟩]
    rw [List.take_of_length_le (by rw [flatQ_len]; omega), flatQ_app]
    rfl
theorem frz_prs (H : Heap) (b d : Nat) (l : List Pr) : (flatQ l).map (frz H b (d + 1)) = flatQ l := by
  unfold flatQ
  rw [List.map_flatten, List.map_map]
  congr 1
theorem OutP.frz {H : Heap} {base d : Nat} {o : AV} {w : List Pr} (h : OutP base H o w) : Go.Am.frz H base (d + 2) o = if w = [] then nilP else prsAV w := by
  rcases h with ⟨rfl, rfl⟩ | ⟨h0, b, rfl, h2, h3⟩
  · rfl
  · rw [frz_ownB (by omega) h3, List.drop_zero, frz_prs]
    rw [if_neg h0]
def pairsA (L : List Pr) : AV := if pairsN L L.length = [] then nilP else prsAV (pairsN L L.length)
theorem pairsA_len (L : List Pr) : lenV (tyOf Try.prog 23) (pairsA L) = some (AV.i ((pairsN L L.length).length : Nat)) := by
  unfold pairsA
  split
  · rename_i h; rw [h]; simp only [lenV, ty23, kOf, Option.map_some]; rfl
  · simp only [lenV, ty23, kOf, Option.map_some]
theorem pairs_new {lo b : Nat} {H H' : Heap} {L : List Pr} {u : Nat} (g : MGrew H b H' (flatQ (pairsN L u ++ [norm (gt L u)]))) (hlo : lo ≤ H.length) (hn : ¬ norm (gt L u) ∈ pairsN L u) : OutP lo H' (.own 2 H.length 0 ((pairsN L u).length + 1)) (pairsN L (u + 1)) := by
  rw [pairsN, if_neg hn]
  exact .inr ⟨by simp, H.length, by simp, hlo, g.new⟩
theorem pairs_old {lo : Nat} {H : Heap} {o : AV} {L : List Pr} {u : Nat} (h : OutP lo H o (pairsN L u)) (hn : norm (gt L u) ∈ pairsN L u) : OutP lo H o (pairsN L (u + 1)) := by
  rw [pairsN, if_pos hn]; exact h
def prErr (n : Int) (p : Pr) : Int := if p.a < 0 ∨ n ≤ p.a ∨ p.b < 0 ∨ n ≤ p.b ∨ p.a = p.b then 1 else 0
theorem pr_of {n : Int} {p : Pr} (h : prErr n p = 0) : 0 ≤ p.a ∧ 0 ≤ p.b := by
  unfold prErr at h
  split at h
  · cases h
  · exact ⟨by omega, by omega⟩
def ptErr (x : Int) : Int := if x < 0 ∨ 800 < x then 2 else 0
def rchkS (P : List Int) (L : List Pr) : Int :=
  if P.length < 2 ∨ 20 < P.length then 2 else if ferr (fun i => ptErr (gt P i)) P.length ≠ 0 then ferr (fun i => ptErr (gt P i)) P.length else if 400 < L.length then 9 else
  if ferr (fun i => prErr P.length (gt L i)) L.length ≠ 0 then ferr (fun i => prErr P.length (gt L i)) L.length else if 40 < (pairsN L L.length).length then 9 else 0
/-- What a race without an error is. -/
structure ROK (P : List Int) (L : List Pr) : Prop where
  n2 : 2 ≤ P.length
  n20 : P.length ≤ 20
  pt : ∀ i, i < P.length → 0 ≤ gt P i ∧ gt P i ≤ 800
  el : L.length ≤ 400
  ed : ∀ i, i < L.length → 0 ≤ (gt L i).a ∧ (gt L i).a < P.length ∧ 0 ≤ (gt L i).b ∧ (gt L i).b < P.length ∧ (gt L i).a ≠ (gt L i).b
  pr : (pairsN L L.length).length ≤ 40
theorem rok_of {P : List Int} {L : List Pr} (h : rchkS P L = 0) : ROK P L := by
  unfold rchkS at h
  split at h
  · cases h
  split at h
  · rename_i h1; exact absurd h h1
  split at h
  · cases h
  split at h
  · rename_i h1; exact absurd h h1
  split at h
  · cases h
  rename_i h1 h2 h3 h4 h5
  refine ⟨by omega, by omega, fun i hi => ?_, by omega, fun i hi => ?_, by omega⟩
  · have := ferr_all (Decidable.not_not.mp h2) i hi
    simp only [ptErr] at this
    split at this
    · cases this
    · omega
  · have := ferr_all (Decidable.not_not.mp h4) i hi
    simp only [prErr] at this
    split at this
    · cases this
    · exact ⟨by omega, by omega, by omega, by omega, by omega⟩
/-- Two lists as they are gathered: nothing yet, or a block each. -/
def OutPN (lo : Nat) (H : Heap) (o1 o2 : AV) (l : List Pr) (N : List Int) : Prop :=
  (l = [] ∧ N = [] ∧ o1 = nilP ∧ o2 = nilP) ∨ (l ≠ [] ∧ N.length = l.length ∧ ∃ b1 b2, o1 = .own 2 b1 0 l.length ∧ o2 = .own 1 b2 0 l.length ∧ lo ≤ b1 ∧ lo ≤ b2 ∧ b1 ≠ b2 ∧ hget H b1 = some (flatQ l) ∧ hget H b2 = some (N.map AV.i))
theorem OutPN.mono {lo : Nat} {H H' : Heap} {o1 o2 : AV} {l : List Pr} {N : List Int} (h : OutPN lo H o1 o2 l N) (hh : ∀ b, lo ≤ b → ∀ k, hget H b = some k → hget H' b = some k) : OutPN lo H' o1 o2 l N := by
  rcases h with h | ⟨h0, h1, b1, b2, h2, h3, h4, h5, h6, h7, h8⟩
  · exact .inl h
  · exact .inr ⟨h0, h1, b1, b2, h2, h3, h4, h5, h6, hh _ h4 _ h7, hh _ h5 _ h8⟩
theorem OutPN.len {lo : Nat} {H : Heap} {o1 o2 : AV} {l : List Pr} {N : List Int} (h : OutPN lo H o1 o2 l N) : lenV (tyOf Try.prog 23) o1 = some (AV.i (l.length : Nat)) := by
  rcases h with ⟨rfl, _, rfl, _⟩ | ⟨h0, h1, b1, b2, rfl, _⟩
  · simp only [lenV, ty23, kOf, Option.map_some]; rfl
  · simp only [lenV, ty23, kOf, Option.map_some]
theorem bs40' (lim : Nat) (H : Heap) (x : Operand) (ev : Operand → AV) (v : Int) (h : ev x = AV.i v) :
    effV Try.prog lim (.buildSlice 25 1 #[(0, x)]) ev H = some (.own 1 H.length 0 1, H ++ [some [AV.i v]]) := by
  simp only [effV, tk25, ty3]
  rw [if_pos ⟨rfl, by decide, by decide⟩]
  simp only [List.map_cons, List.map_nil, h]
  rfl
/-- The first append: the pairs. -/
theorem pn_append1 {lim lo : Nat} {H : Heap} {o1 o2 : AV} {l : List Pr} {N : List Int} {c : Pr} {b' : Nat} (h : OutPN lo H o1 o2 l N) (hc : hget H b' = some (prC c)) (hl : lim ≤ lo) (hlo : lo ≤ H.length) (hw : l.length ≤ 100000) :
    ∃ b, lo ≤ b ∧ (∀ b2, o2 = .own 1 b2 0 l.length → b ≠ b2) ∧ ∃ H', appendV Try.prog lim H 23 o1 (.own 2 b' 0 1) = some (.own 2 H.length 0 (l.length + 1), H') ∧ MGrew H b H' (flatQ (l ++ [c])) := by
  rcases h with ⟨rfl, rfl, rfl, rfl⟩ | ⟨h0, h1, b1, b2, rfl, rfl, h4, h5, h6, h7, h8⟩
  · obtain ⟨b, q1, _, q3⟩ := outP_append (lim := lim) (lo := lo) (hi := 0) (H := H) (o := nilP) (w := []) (.inl ⟨rfl, rfl⟩) (fun b hb => by cases hb) hc hl hlo (by simp)
    exact ⟨b, q1, fun b2 hb => (by cases hb), q3⟩
  · refine ⟨b1, h4, fun b2' hb => by cases hb; exact h6, _, ?_, MGrew.of _ _ _⟩
    simp only [appendV, tk23, ty33, srcCells, hc, h7]
    rw [if_pos (by simp)]
    simp only [List.length_cons, List.length_nil]
    rw [if_pos ⟨trivial, by decide, rfl⟩]
    simp only [List.drop_zero, flatQ_len]
    rw [if_pos ⟨by omega, trivial, by omega, by omega, by omega⟩]
    rw [List.take_of_length_le (by rw [flatQ_len]; omega), flatQ_app]
    rfl
/-- The numbers, while the pairs are one ahead. -/
def OutN (lo : Nat) (H : Heap) (o2 : AV) (n : Nat) (N : List Int) : Prop := (n = 0 ∧ N = [] ∧ o2 = nilP) ∨ (N.length = n ∧ ∃ b2, o2 = .own 1 b2 0 n ∧ lo ≤ b2 ∧ hget H b2 = some (N.map AV.i))
theorem OutPN.num {lo : Nat} {H : Heap} {o1 o2 : AV} {l : List Pr} {N : List Int} (h : OutPN lo H o1 o2 l N) : OutN lo H o2 l.length N := by
  rcases h with ⟨rfl, rfl, rfl, rfl⟩ | ⟨h0, h1, b1, b2, rfl, rfl, h4, h5, h6, h7, h8⟩
  · exact .inl ⟨rfl, rfl, rfl⟩
  · exact .inr ⟨h1, b2, rfl, h5, h8⟩
theorem OutN.keep {lo n : Nat} {H H' : Heap} {o2 : AV} {N : List Int} (h : OutN lo H o2 n N) (hh : ∀ b2 k, o2 = .own 1 b2 0 n → hget H b2 = some k → hget H' b2 = some k) : OutN lo H' o2 n N := by
  rcases h with h | ⟨h1, b2, h2, h3, h4⟩
  · exact .inl h
  · exact .inr ⟨h1, b2, h2, h3, hh _ _ h2 h4⟩
theorem pn_append2 {lim lo n p : Nat} {H : Heap} {o2 : AV} {N : List Int} {v : Int} {b' : Nat} (h : OutN lo H o2 n N) (hp : ∀ b2, o2 = .own 1 b2 0 n → p ≠ b2) (hpl : p < H.length) (hc : hget H b' = some [AV.i v]) (hl : lim ≤ lo) (hlo : lo ≤ H.length) (hw : n ≤ 100000) :
    ∃ b, lo ≤ b ∧ p ≠ b ∧ ∃ H', appendV Try.prog lim H 25 o2 (.own 1 b' 0 1) = some (.own 1 H.length 0 (n + 1), H') ∧ MGrew H b H' ((N ++ [v]).map AV.i) := by
  rcases h with ⟨rfl, rfl, rfl⟩ | ⟨h1, b2, rfl, h3, h4⟩
  · refine ⟨H.length, hlo, by omega, _, ?_, MGrew.ofNew _ (MNew.of _ _)⟩
    simp only [appendV, tk25, ty3, srcCells, hc]
    rw [if_pos (by simp)]
    simp only [List.length_cons, List.length_nil]
    rw [if_pos ⟨trivial, by decide, rfl⟩]
    rw [if_pos ⟨by omega, by omega⟩]
    rfl
  · refine ⟨b2, h3, hp b2 rfl, _, ?_, MGrew.of _ _ _⟩
    simp only [appendV, tk25, ty3, srcCells, hc, h4]
    rw [if_pos (by simp)]
    simp only [List.length_cons, List.length_nil]
    rw [if_pos ⟨trivial, by decide, rfl⟩]
    simp only [List.drop_zero, List.length_map, Nat.mul_one]
    rw [if_pos ⟨by omega, trivial, by omega, by omega, by omega⟩]
    rw [List.take_of_length_le (by simp; omega), List.map_append]
    rfl
def refA (L : List Pr) : AV := if refN L L.length = [] then nilP else prsAV (refN L L.length)
theorem refA_len (L : List Pr) : lenV (tyOf Try.prog 23) (refA L) = some (AV.i ((pairsN L L.length).length : Nat)) := by
  rw [← ref_len]
  unfold refA
  split
  · rename_i h; rw [h]; simp only [lenV, ty23, kOf, Option.map_some]; rfl
  · simp only [lenV, ty23, kOf, Option.map_some]
theorem OutPN.frz {H : Heap} {base d : Nat} {o1 o2 : AV} {l : List Pr} {N : List Int} (h : OutPN base H o1 o2 l N) : Go.Am.frz H base (d + 2) o1 = (if l = [] then nilP else prsAV l) ∧ Go.Am.frz H base (d + 2) o2 = (if N = [] then nilP else intsAV N) := by
  rcases h with ⟨rfl, rfl, rfl, rfl⟩ | ⟨h0, h1, b1, b2, rfl, rfl, h4, h5, h6, h7, h8⟩
  · exact ⟨rfl, rfl⟩
  · have hN : N ≠ [] := fun hh => by subst hh; exact h0 (List.length_eq_zero_iff.1 h1.symm)
    rw [frz_ownB (by omega) h7, List.drop_zero, frz_prs, frz_ownB (by omega) h8, List.drop_zero, frz_ints, if_neg h0, if_neg hN]
    exact ⟨rfl, by show AV.sl l.length _ = AV.sl N.length _; rw [h1]⟩
theorem OutPN.lo {lo lo' : Nat} {H : Heap} {o1 o2 : AV} {l : List Pr} {N : List Int} (h : OutPN lo H o1 o2 l N) (hl : lo' ≤ lo) : OutPN lo' H o1 o2 l N := by
  rcases h with h | ⟨h0, h1, b1, b2, h2, h3, h4, h5, h6⟩
  · exact .inl h
  · exact .inr ⟨h0, h1, b1, b2, h2, h3, by omega, by omega, h6⟩
theorem pn_new {lo p m b3 : Nat} {H H' : Heap} {o2 : AV} {L : List Pr} {N : List Int} {u : Nat} (hmn : ¬ norm (gt L u) ∈ (refN L u).map norm) (qq : hget H' p = some (flatQ (refN L u ++ [gt L u]))) (qz : hget H' m = some ((N ++ [1]).map AV.i)) (hN : OutN lo H o2 (refN L u).length N) (hp : p ≠ b3) (hlo : lo ≤ p) (hlm : lo ≤ m) {k1 k2 : Nat} (e1 : k1 = (refN L u).length + 1) (e2 : k2 = (refN L u).length + 1) (hpm : p ≠ m := by omega) :
    OutPN lo H' (.own 2 p 0 k1) (.own 1 m 0 k2) (refN L (u + 1)) (N ++ [1]) := by
  subst e1 e2
  rw [refN, if_neg hmn]
  have hl : N.length = (refN L u).length := by
    rcases hN with ⟨h1, h2, _⟩ | ⟨h1, _⟩
    · rw [h2, h1]; rfl
    · exact h1
  exact .inr ⟨by simp, by simp [hl], p, m, by simp, by simp, hlo, hlm, hpm, qq, qz⟩
theorem pn_old {lo : Nat} {H : Heap} {o1 o2 : AV} {L : List Pr} {N : List Int} {u : Nat} (h : OutPN lo H o1 o2 (refN L u) N) (hn : norm (gt L u) ∈ (refN L u).map norm) : OutPN lo H o1 o2 (refN L (u + 1)) N := by
  rw [refN, if_pos hn]; exact h
theorem mem_norm {l : List Pr} {p : Pr} : norm p ∈ l.map norm ↔ ∃ i, i < l.length ∧ norm (gt l i) = norm p := by
  rw [List.mem_map]
  constructor
  · rintro ⟨q, hq, he⟩
    obtain ⟨i, hi, h⟩ := List.mem_iff_getElem.1 hq
    exact ⟨i, hi, by rw [gt_eq _ _ hi, h, he]⟩
  · rintro ⟨i, hi, he⟩
    exact ⟨gt l i, by rw [gt_eq _ _ hi]; exact List.getElem_mem _, he⟩
theorem gt_app' {α : Type} [Inhabited α] (l : List α) (x : α) (i : Nat) : gt (l ++ [x]) i = if i < l.length then gt l i else if i = l.length then x else default := by
  simp only [gt, List.getD_eq_getElem?_getD, List.getElem?_append]
  by_cases h : i < l.length
  · simp [h]
  · rw [if_neg h, if_neg h]
    by_cases h2 : i = l.length
    · simp [h2]
    · rw [if_neg h2, List.getElem?_eq_none (by simp; omega)]; rfl
abbrev raceO (b : Nat) (P : List Int) (L : List Pr) : List AV := [.own 1 b 0 P.length, prsAV L]
theorem frz_raceO {H : Heap} {b : Nat} {P : List Int} (L : List Pr) (hb : hget H b = some (P.map AV.i)) : frz H 0 8 (.agg (raceO b P L)) = .agg (raceC P L) := by
  show AV.agg [frz H 0 7 (.own 1 b 0 P.length), AV.sl _ ((flatQ L).map (frz H 0 6))] = _
  rw [frz_ownI (d := 5) (by omega) hb rfl, frz_prs]

end Go.Proofs.Ytfnapmdedmbdbaa
end
section
set_option linter.unusedVariables false
set_option linter.unusedSimpArgs false
namespace Go.Proofs.Ytfnapmdedmbdbaa
open Go Go.Am
theorem ld_pl (l : List Pl) (u : Nat) (h : u < l.length) : partL { size := 8, bytes := 64, agg := true, k := TyK.struct [(0, 3), (1, 3), (2, 3), (3, 3), (4, 3), (5, 3), (6, 3), (7, 4)], zero := some [.int .i64 0, .int .i64 0, .int .i64 0, .int .i64 0, .int .i64 0, .int .i64 0, .int .i64 0, .bool false] } (flatP l) (u * 8) = some (.agg (plC (gp l u))) := by
  rw [pl67 _ _ (by rw [flatP_len]; omega)]
  exact congrArg (fun c => some (AV.agg c)) (cut_of rfl fun k hk => flatP_get l u k h hk)
/-- Standings as cells. -/
def flatZ (l : List St) : List AV := (l.map stL).flatten
abbrev stsAV (l : List St) : AV := .sl l.length (flatZ l)
abbrev gz (l : List St) (u : Nat) : St := l.getD u ⟨0, 0, 0, 0, 0, 0, 0, 0, 0, 0⟩
theorem flatZ_len (l : List St) : (flatZ l).length = l.length * 10 := by
  induction l with
  | nil => rfl
  | cons s l ih => unfold flatZ at ih ⊢; rw [List.map_cons, List.flatten_cons, List.length_append, ih]; simp; omega
theorem flatZ_get : ∀ (l : List St) (u k : Nat), u < l.length → k < 10 → (flatZ l)[u * 10 + k]? = (stL (gz l u))[k]?
  | [], u, k, h, _ => by simp at h
  | s :: l, 0, k, _, hk => by
    unfold flatZ
    rw [List.map_cons, List.flatten_cons, Nat.zero_mul, Nat.zero_add, List.getElem?_append_left (by simpa using hk)]
    rfl
  | s :: l, u + 1, k, h, hk => by
    have ih := flatZ_get l u k (by simpa using h) hk
    unfold flatZ at ih ⊢
    rw [List.map_cons, List.flatten_cons, List.getElem?_append_right (by simp; omega)]
    rw [show (u + 1) * 10 + k - (stL s).length = u * 10 + k by simp; omega, ih]
    rfl
theorem ld_st (l : List St) (u : Nat) (h : u < l.length) : partL { size := 10, bytes := 80, agg := true, k := TyK.struct [(0, 3), (1, 3), (2, 3), (3, 3), (4, 3), (5, 3), (6, 3), (7, 3), (8, 3), (9, 3)], zero := some [.int .i64 0, .int .i64 0, .int .i64 0, .int .i64 0, .int .i64 0, .int .i64 0, .int .i64 0, .int .i64 0, .int .i64 0, .int .i64 0] } (flatZ l) (u * 10) = some (stA (gz l u)) := by
  rw [pl47 _ _ (by rw [flatZ_len]; omega)]
  exact congrArg (fun c => some (AV.agg c)) (cut_of rfl fun k hk => flatZ_get l u k h hk)
theorem gAr (pre r : List AV) (i : Nat) : (pre ++ r)[pre.length + i]? = r[i]? := by rw [List.getElem?_append_right (by omega)]; congr 1; omega
theorem gAr0 (pre r : List AV) : (pre ++ r)[pre.length]? = r[0]? := gAr pre r 0
theorem sAr (pre r : List AV) (i : Nat) (x : AV) : (pre ++ r).set (pre.length + i) x = pre ++ r.set i x := by
  rw [List.set_append_right _ _ (by omega)]
  congr 2
  omega
theorem sAr0 (pre r : List AV) (x : AV) : (pre ++ r).set pre.length x = pre ++ r.set 0 x := sAr pre r 0 x
theorem bld23 (t : Int) : buildV Try.prog 47 [(0, AV.i t)] = some (.agg [AV.i t, AV.i 0, AV.i 0, AV.i 0, AV.i 0, AV.i 0, AV.i 0, AV.i 0, AV.i 0, AV.i 0]) := by kernel_rfl
/-- A standing whose points are not reckoned yet. -/
abbrev stW (s : St) : List AV := [AV.i s.tm, AV.i s.pl, AV.i s.wn, AV.i s.sh, AV.i s.ls, AV.i 0, AV.i s.rf, AV.i s.bf, AV.i s.ra, AV.i s.ba]
theorem stW_fin {s : St} (h : s.pt = 2 * s.wn + s.sh) : AV.agg [AV.i s.tm, AV.i s.pl, AV.i s.wn, AV.i s.sh, AV.i s.ls, AV.i (2 * s.wn + s.sh), AV.i s.rf, AV.i s.bf, AV.i s.ra, AV.i s.ba] = stA s := by rw [← h]
attribute [go_sem] bld23
/-- One block was written, others made: the older ones but that one are as they were. -/
structure But (b : Nat) (H H' : Heap) : Prop where
  len : H.length ≤ H'.length
  old : ∀ c, c < H.length → c ≠ b → hget H' c = hget H c
theorem But.new {b : Nat} {H H' : Heap} {k : Blk} (n : MNew H H' k) : But b H H' := ⟨by rw [n.len]; omega, fun c hc _ => n.old c hc⟩
theorem But.wrote {b : Nat} {H H1 H2 : Heap} {k : Blk} (h : But b H H1) (n : MWrote H1 b H2 k) : But b H H2 := ⟨by rw [n.len]; exact h.len, fun c hc hb => (n.old c hb).trans (h.old c hc hb)⟩
theorem st_app (z : St) (post : List AV) : stL z ++ post = AV.i z.tm :: AV.i z.pl :: AV.i z.wn :: AV.i z.sh :: AV.i z.ls :: AV.i z.pt :: AV.i z.rf :: AV.i z.bf :: AV.i z.ra :: AV.i z.ba :: post := rfl
attribute [go_sem] ld_pl ld_st gAr gAr0 sAr sAr0
end Go.Proofs.Ytfnapmdedmbdbaa
end
section
set_option linter.unusedVariables false
set_option linter.unusedSimpArgs false
namespace Go.Proofs.Ytfnapmdedmbdbaa
open Go Go.Am
abbrev z0 : St := ⟨0, 0, 0, 0, 0, 0, 0, 0, 0, 0⟩
theorem frz_Z (H : Heap) (b d : Nat) (l : List St) : (flatZ l).map (frz H b (d + 1)) = flatZ l := by
  induction l with
  | nil => rfl
  | cons s l ih => unfold flatZ at ih ⊢; rw [List.map_cons, List.flatten_cons, List.map_append, ih]; rfl
theorem frz_ownZ {H : Heap} {base d b n : Nat} {l : List St} (hb : ¬ b < base) (hk : hget H b = some (flatZ l)) (hn : n = l.length) : frz H base (d + 2) (.own 10 b 0 n) = stsAV l := by
  rw [frz_own _ _ _ _ _ _ _ hb, hk]
  show AV.sl n (((flatZ l).drop 0).map (frz H base (d + 1))) = _
  rw [List.drop_zero, frz_Z, hn]
theorem flatS_Z (ps : List SO) : flatS ps = flatZ (ps.map (·.1)) := by unfold flatS flatZ; rw [List.map_map]; rfl
theorem flatZ_app (l m : List St) : flatZ (l ++ m) = flatZ l ++ flatZ m := by simp [flatZ]
theorem flatZ_cons (z : St) (l : List St) : flatZ (z :: l) = stL z ++ flatZ l := rfl
theorem gz_get {l : List St} {h : Nat} (hh : h < l.length) : gz l h = l[h] := by simp [gz, List.getD, List.getElem?_eq_getElem hh]
theorem flatZ_cut {l : List St} {h : Nat} (hh : h < l.length) : flatZ l = flatZ (l.take h) ++ (stL (gz l h) ++ flatZ (l.drop (h + 1))) := by
  rw [← flatZ_cons, ← flatZ_app, gz_get hh, ← List.drop_eq_getElem_cons hh, List.take_append_drop]
theorem flatZ_put {l : List St} {h : Nat} (hh : h < l.length) (z : St) : flatZ (l.set h z) = flatZ (l.take h) ++ (stL z ++ flatZ (l.drop (h + 1))) := by
  rw [← flatZ_cons, ← flatZ_app, List.set_eq_take_append_cons_drop, if_pos hh]
theorem take_len {l : List St} {h : Nat} (hh : h < l.length) : (flatZ (l.take h)).length = h * 10 := by
  rw [flatZ_len, List.length_take, Nat.min_eq_left (by omega)]
theorem gz_set {l : List St} {h k : Nat} {z : St} (hh : h < l.length) : gz (l.set h z) k = if h = k then z else gz l k := by
  simp only [gz, List.getD, List.getElem?_set]
  by_cases e : h = k
  · subst e; simp [hh]
  · simp [e]
theorem zs_ext {l m : List St} (hl : l.length = m.length) (h : ∀ t, t < l.length → gz l t = gz m t) : l = m := by
  apply List.ext_getElem hl
  intro t h1 h2
  have := h t h1
  rwa [gz_get h1, gz_get h2] at this
theorem stds_get {n t : Nat} {l : List Pl} (h : t < n) : gz (stds n l) t = stdS l t := by
  rw [gz_get (by rw [stds_len]; exact h)]
  simp [stds]
theorem setz (l : List St) (i : Nat) (t : Int) (h : i < l.length) : setL (flatZ l) (i * 10) [AV.i t] = flatZ (l.set i { gz l i with tm := t }) := by
  rw [flatZ_put h, setL_one]
  conv => lhs; rw [flatZ_cut h, ← take_len h]
  rw [sAr0]
  rfl
theorem ms27 (lim : Nat) (H : Heap) (n : Int) (x y : Operand) (ev : Operand → AV) (h0 : 0 ≤ n) (h1 : n ≤ 1000000) (hx : ev x = AV.i n) (hy : ev y = AV.i n) :
    effV Try.prog lim (.makeSlice 42 x y) ev H = some (.own 10 H.length 0 n.toNat, H ++ [some (flatZ (List.replicate n.toNat z0))]) := by
  simp only [effV, tk42, ty47, hx, hy]
  rw [if_pos ⟨rfl, by decide, h0, Int.le_refl _, by omega, by omega⟩]
  have : ∀ k : Nat, (List.replicate k ([.int .i64 0, .int .i64 0, .int .i64 0, .int .i64 0, .int .i64 0, .int .i64 0, .int .i64 0, .int .i64 0, .int .i64 0, .int .i64 0].map AV.v)).flatten = flatZ (List.replicate k z0) := by
    intro k
    unfold flatZ
    rw [List.map_replicate]
    rfl
  rw [this]
def toO (l : List St) : List SO := l.filterMap fun z => if h : okS z then some ⟨z, h⟩ else none
theorem toO_val : ∀ (l : List St), (∀ z ∈ l, okS z) → (toO l).map (·.1) = l
  | [], _ => rfl
  | z :: l, h => by
    have ih := toO_val l fun y hy => h y (List.mem_cons_of_mem _ hy)
    unfold toO at ih ⊢
    rw [List.filterMap_cons, dif_pos (h z List.mem_cons_self)]
    simp only [List.map_cons]
    rw [ih]
/-- The table. -/
def tbS (l : List St) : List St := (sortL (toO l)).map (·.1)
def tabS (n : Int) (l : List Pl) : List St := if chS n l = 0 then tbS (stds n.toNat l) else []
theorem tbS_perm {l : List St} (h : ∀ z ∈ l, okS z) : (tbS l).Perm l := by
  have := (sortL_perm (toO l)).map (·.1)
  rwa [toO_val l h] at this
theorem tbS_len {l : List St} (h : ∀ z ∈ l, okS z) : (tbS l).length = l.length := (tbS_perm h).length_eq
theorem stds_ok {n : Int} {l : List Pl} (hl : ∀ i, i < l.length → plE n (gp l i) = 0) (h4 : l.length ≤ 400) (N u : Nat) (hu : u ≤ l.length) : ∀ z ∈ stds N (l.take u), okS z := by
  intro z hz
  obtain ⟨t, ht, rfl⟩ := List.mem_map.mp hz
  exact stI_ok (stdS_inv hl t u hu) (by omega)
theorem stds_tm {n : Int} {l : List Pl} (hl : ∀ i, i < l.length → plE n (gp l i) = 0) (N u : Nat) (hu : u ≤ l.length) : (stds N (l.take u)).map (·.tm) = (List.range N).map fun t : Nat => (t : Int) := by
  unfold stds
  rw [List.map_map]
  apply List.map_congr_left
  intro t _
  exact (stdS_inv hl t u hu).1
theorem range_nodup (N : Nat) : ((List.range N).map fun t : Nat => (t : Int)).Nodup := List.pairwise_map.mpr (List.pairwise_lt_range.imp fun h => by omega)
theorem stds_nodup {n : Int} {l : List Pl} (hl : ∀ i, i < l.length → plE n (gp l i) = 0) (h4 : l.length ≤ 400) (N u : Nat) (hu : u ≤ l.length) : ((toO (stds N (l.take u))).map (·.1.tm)).Nodup := by
  have e : (toO (stds N (l.take u))).map (·.1.tm) = (stds N (l.take u)).map (·.tm) := by
    conv => rhs; rw [← toO_val _ (stds_ok hl h4 N u hu), List.map_map]
    rfl
  rw [e, stds_tm hl N u hu]
  exact range_nodup N
theorem toO_len {l : List St} (h : ∀ z ∈ l, okS z) : (toO l).length = l.length := by
  have := congrArg List.length (toO_val l h)
  rwa [List.length_map] at this
theorem sort_eff {lim b n : Nat} {H : Heap} {zs : List St} (hb : hget H b = some (flatZ zs)) (hlim : lim ≤ b) (h1 : 1 ≤ n) (hn : zs.length = n) (h2 : n ≤ 1000) (hok : ∀ z ∈ zs, okS z) (hd : ((toO zs).map (·.1.tm)).Nodup) : sortV lim [.own 10 b 0 n, .clo 27 []] H = some (.tup [], hset H b (some (flatZ (tbS zs)))) := by
  have e : flatZ zs = flatS (toO zs) := by rw [flatS_Z, toO_val zs hok]
  simp only [sortV, hb, e, rdS_flat]
  rw [if_pos ⟨hlim, h1, (toO_len hok).trans hn, h2, hd⟩, flatS_Z]
  rfl
theorem stds_step {n : Int} {l : List Pl} {u N : Nat} (hN : n = N) (hu : u < l.length) (hz : plE n (gp l u) = 0) :
    ((stds N (l.take u)).set (gp l u).ho.toNat (cnS (gz (stds N (l.take u)) (gp l u).ho.toNat) (gp l u).wi (gp l u).hr (gp l u).hb (gp l u).ar (gp l u).ab 1)).set (gp l u).aw.toNat (cnS (gz (stds N (l.take u)) (gp l u).aw.toNat) (gp l u).wi (gp l u).ar (gp l u).ab (gp l u).hr (gp l u).hb 2) = stds N (l.take (u + 1)) := by
  have hp := plE_z hz
  apply zs_ext (by simp [stds_len])
  intro t ht
  have ht' : t < N := by simpa [stds_len] using ht
  rw [gz_set (by rw [List.length_set, stds_len]; omega), gz_set (by rw [stds_len]; omega), stds_get ht', stds_get ht', stds_get (by omega), stds_get (by omega), stdS_snoc l u hu]
  unfold upS
  by_cases h1 : (gp l u).aw = t
  · rw [if_pos (by omega), if_pos h1, show (((gp l u).aw.toNat : Nat) : Int) = t by omega]
  · rw [if_neg (by omega), if_neg h1]
    by_cases h2 : (gp l u).ho = t
    · rw [if_pos (by omega), if_pos h2, show (((gp l u).ho.toNat : Nat) : Int) = t by omega]
    · rw [if_neg (by omega), if_neg h2]
theorem stds_nil (N : Nat) (l : List Pl) {zs : List St} (hl : zs.length = N) (h : ∀ t, t < N → gz zs t = ⟨t, 0, 0, 0, 0, 0, 0, 0, 0, 0⟩) : zs = stds N (l.take 0) := by
  apply zs_ext (by rw [hl, stds_len])
  intro t ht
  rw [h t (by omega), stds_get (by omega), List.take_zero]
  rfl
theorem chS_z {n : Int} {l : List Pl} (h : chS n l = 0) : (2 ≤ n ∧ n ≤ 20) ∧ l.length ≤ 400 ∧ ∀ i, i < l.length → plE n (gp l i) = 0 := by
  unfold chS at h
  split at h
  · cases h
  split at h
  · cases h
  exact ⟨by omega, by omega, fun i hi => ferr_all h i hi⟩
theorem ini_step {zs : List St} {N i : Nat} (hz : zs.length = N) (hi : i < N) (hg : ∀ t, t < N → gz zs t = if t < i then ⟨t, 0, 0, 0, 0, 0, 0, 0, 0, 0⟩ else z0) : ∀ t, t < N → gz (zs.set i { gz zs i with tm := (i : Int) }) t = if t < i + 1 then ⟨t, 0, 0, 0, 0, 0, 0, 0, 0, 0⟩ else z0 := by
  intro t ht
  rw [gz_set (by omega)]
  by_cases e : i = t
  · subst e
    rw [if_pos rfl, hg i hi, if_neg (by omega), if_pos (by omega)]
  · rw [if_neg e, hg t ht]
    by_cases h : t < i
    · rw [if_pos h, if_pos (by omega)]
    · rw [if_neg h, if_neg (by omega)]
theorem ini_zero (N : Nat) : ∀ t, t < N → gz (List.replicate N z0) t = if t < 0 then ⟨t, 0, 0, 0, 0, 0, 0, 0, 0, 0⟩ else z0 := by
  intro t ht
  rw [gz_get (by simpa using ht), if_neg (by omega)]
  simp
theorem tab_ok {n : Int} {l : List Pl} (h : chS n l = 0) : (∀ z ∈ stds n.toNat l, okS z) ∧ ((toO (stds n.toNat l)).map (·.1.tm)).Nodup := by
  obtain ⟨_, h4, hpl⟩ := chS_z h
  have a := stds_ok hpl h4 n.toNat l.length (Nat.le_refl _)
  have b := stds_nodup hpl h4 n.toNat l.length (Nat.le_refl _)
  rw [List.take_length] at a b
  exact ⟨a, b⟩
theorem tab_len {n : Int} {l : List Pl} (h : chS n l = 0) : n.toNat = (tbS (stds n.toNat l)).length := by rw [tbS_len (tab_ok h).1, stds_len]
theorem tabS_y {n : Int} {l : List Pl} (h : chS n l = 0) : tabS n l = tbS (stds n.toNat l) := if_pos h
theorem tabS_n {n : Int} {l : List Pl} (h : ¬ chS n l = 0) : tabS n l = [] := if_neg h
abbrev nilZ : AV := .v (.slice none 0 0)
def tbAV (l : List St) : AV := if l = [] then nilZ else stsAV l
theorem tbAV_nil : tbAV [] = nilZ := if_pos rfl
theorem tbAV_ne {l : List St} (h : l ≠ []) : tbAV l = stsAV l := if_neg h
theorem tab_ne {n : Int} {l : List Pl} (h : chS n l = 0) : tbS (stds n.toNat l) ≠ [] := fun e => by
  have h1 := tab_len h
  have h2 := (chS_z h).1
  rw [e] at h1
  simp at h1
  omega
end Go.Proofs.Ytfnapmdedmbdbaa
end
section
set_option linter.unusedVariables false
set_option linter.unusedSimpArgs false
namespace Go.Proofs.Ytfnapmdedmbdbaa
open Go Go.Am
/-- A slice of standings that the call has made, nothing at first. -/
def OutZ (base : Nat) (H : Heap) (o : AV) (zs : List St) : Prop := (zs = [] ∧ o = nilZ) ∨ ∃ b, o = .own 10 b 0 zs.length ∧ base ≤ b ∧ hget H b = some (flatZ zs) ∧ zs ≠ []
theorem OutZ.nil (base : Nat) (H : Heap) : OutZ base H nilZ [] := .inl ⟨rfl, rfl⟩
theorem OutZ.keep {base : Nat} {H H' : Heap} {o : AV} {zs : List St} (h : OutZ base H o zs) (hk : ∀ b k, o = .own 10 b 0 zs.length → hget H b = some k → hget H' b = hget H b) : OutZ base H' o zs := by
  rcases h with h | ⟨b, h1, h2, h3, h4⟩
  · exact .inl h
  · exact .inr ⟨b, h1, h2, (hk b _ h1 h3).trans h3, h4⟩
theorem OutZ.new {base : Nat} {H H' : Heap} {o : AV} {zs : List St} {k : Blk} (h : OutZ base H o zs) (n : MNew H H' k) : OutZ base H' o zs := h.keep fun b c _ hb => n.old b (hget_lt hb)
theorem OutZ.wrote {base c : Nat} {H H' : Heap} {o : AV} {zs : List St} {k' : Blk} (h : OutZ base H o zs) (hl : ∀ b, o = .own 10 b 0 zs.length → b ≠ c) (n : MWrote H c H' k') : OutZ base H' o zs := h.keep fun b d ho hb => n.old b (hl b ho)
theorem OutZ.lt {base b : Nat} {H : Heap} {o : AV} {zs : List St} (h : OutZ base H o zs) (ho : o = .own 10 b 0 zs.length) : b < H.length := by
  rcases h with ⟨_, h2⟩ | ⟨b', h1, h2, h3, h4⟩
  · rw [h2] at ho; cases ho
  · rw [h1] at ho; cases ho; exact hget_lt h3
theorem OutZ.own {base : Nat} {H : Heap} {o : AV} {zs : List St} (h : OutZ base H o zs) (hz : zs ≠ []) : ∃ b, o = .own 10 b 0 zs.length ∧ base ≤ b ∧ hget H b = some (flatZ zs) := by
  rcases h with h | ⟨b, h1, h2, h3, h4⟩
  · exact absurd h.1 hz
  · exact ⟨b, h1, h2, h3⟩
theorem OutZ.len {base : Nat} {H : Heap} {o : AV} {zs : List St} (h : OutZ base H o zs) : lenV (tyOf Try.prog 42) o = some (AV.i (zs.length : Int)) := by
  rcases h with ⟨h1, h2⟩ | ⟨b, h1, _⟩
  · subst h1 h2; rw [lnn42]; rfl
  · subst h1; rw [lno42]
theorem flatZ_take (zs : List St) (k : Nat) (h : k ≤ zs.length) : (flatZ zs).take (k * 10) = flatZ (zs.take k) := by
  conv => lhs; rw [← List.take_append_drop k zs, flatZ_app]
  rw [List.take_append_of_le_length (by rw [flatZ_len, List.length_take, Nat.min_eq_left h]; exact Nat.le_refl _), List.take_of_length_le (by rw [flatZ_len, List.length_take, Nat.min_eq_left h]; exact Nat.le_refl _)]
theorem flatZ_drop (zs : List St) (k : Nat) (h : k ≤ zs.length) : (flatZ zs).drop (k * 10) = flatZ (zs.drop k) := by
  conv => lhs; rw [← List.take_append_drop k zs, flatZ_app]
  rw [List.drop_append_of_le_length (by rw [flatZ_len, List.length_take, Nat.min_eq_left h]; exact Nat.le_refl _), List.drop_of_length_le (by rw [flatZ_len, List.length_take, Nat.min_eq_left h]; exact Nat.le_refl _)]
  rfl
theorem flatZ_stor (zs : List St) : (flatZ zs).all storable = true := by
  induction zs with
  | nil => rfl
  | cons z r ih => rw [flatZ_cons, List.all_append, ih]; rfl
theorem OutZ.take {base : Nat} {H : Heap} {o : AV} {zs : List St} (h : OutZ base H o zs) {k : Nat} (hk : k ≤ zs.length) : ∃ o1, sliceV Try.prog 42 o none (some (AV.i (k : Int))) = some o1 ∧ ∀ base' H', OutZ base' H' o zs → srcCells H' 10 o1 = some (k, flatZ (zs.take k)) := by
  rcases h with ⟨h1, h2⟩ | ⟨b, h1, h2, h3, h4⟩
  · subst h1 h2
    obtain rfl : k = 0 := by simpa using hk
    refine ⟨nilZ, ?_, fun _ _ _ => rfl⟩
    simp only [sliceV, tk42, ty47, bound]
    rw [if_pos ⟨by omega, by omega, by omega⟩]
  · subst h1
    refine ⟨.own 10 b 0 k, ?_, ?_⟩
    · simp only [sliceV, tk42, ty47, bound]
      rw [if_pos ⟨trivial, by omega, by omega, by omega⟩]
      simp
    · rintro base' H' (⟨e, _⟩ | ⟨b', e1, e2, e3, e4⟩)
      · exact absurd e h4
      · cases e1
        simp only [srcCells, e3]
        rw [if_pos (by rw [flatZ_len]; omega), List.drop_zero, flatZ_take zs k hk]
theorem OutZ.drop {base : Nat} {H : Heap} {o : AV} {zs : List St} (h : OutZ base H o zs) {k : Nat} (hk : k ≤ zs.length) : ∃ o1, sliceV Try.prog 42 o (some (AV.i (k : Int))) none = some o1 ∧ ∀ base' H', OutZ base' H' o zs → srcCells H' 10 o1 = some (zs.length - k, flatZ (zs.drop k)) := by
  rcases h with ⟨h1, h2⟩ | ⟨b, h1, h2, h3, h4⟩
  · subst h1 h2
    obtain rfl : k = 0 := by simpa using hk
    refine ⟨nilZ, ?_, fun _ _ _ => rfl⟩
    simp only [sliceV, tk42, ty47, bound]
    rw [if_pos ⟨by omega, by omega, by omega⟩]
  · subst h1
    refine ⟨.own 10 b (k * 10) (zs.length - k), ?_, ?_⟩
    · simp only [sliceV, tk42, ty47, bound]
      rw [if_pos ⟨trivial, by omega, by omega, by omega⟩]
      simp
    · rintro base' H' (⟨e, _⟩ | ⟨b', e1, e2, e3, e4⟩)
      · exact absurd e h4
      · cases e1
        simp only [srcCells, e3]
        rw [if_pos (by rw [flatZ_len, Nat.sub_mul]; have := Nat.mul_le_mul_right 10 hk; omega), flatZ_drop zs k hk, List.take_of_length_le (by rw [flatZ_len, List.length_drop]; exact Nat.le_refl _)]
theorem apOwn {lim b n m : Nat} {H : Heap} {y : AV} {zs ys : List St} (hb : hget H b = some (flatZ zs)) (hlim : lim ≤ b) (hn : n = zs.length) (hy : srcCells H 10 y = some (m, flatZ ys)) (h : n + m ≤ 1000) {s : Nat} (hs : n + m = s) : ∃ H', appendV Try.prog lim H 42 (.own 10 b 0 n) y = some (.own 10 H.length 0 s, H') ∧ MGrew H b H' (flatZ (zs ++ ys)) := by
  subst hs hn
  refine ⟨hset H b none ++ [some (flatZ (zs ++ ys))], ?_, MGrew.of _ _ _⟩
  simp only [appendV, tk42, ty47, hy]
  rw [if_pos ⟨rfl, by decide, flatZ_stor ys⟩]
  simp only [hb]
  rw [if_pos ⟨hlim, trivial, by rw [flatZ_len]; omega, by omega, by omega⟩, flatZ_app, List.drop_zero, List.take_of_length_le (by rw [flatZ_len]; exact Nat.le_refl _)]
theorem srcOne {H : Heap} {b : Nat} {z : St} (h : hget H b = some (stL z)) : srcCells H 10 (.own 10 b 0 1) = some (1, flatZ [z]) := by
  simp only [srcCells, h]
  rfl
theorem bs27o (lim : Nat) (H : Heap) (a : Operand) (ev : Operand → AV) (x : St) (ha : ev a = stA x) : effV Try.prog lim (.buildSlice 42 1 #[(0, a)]) ev H = some (.own 10 H.length 0 1, H ++ [some (stL x)]) := by
  simp only [effV, tk42, ty47]
  rw [if_pos ⟨rfl, by decide, by decide⟩]
  simp only [List.map_cons, List.map_nil, ha]
  rfl
/-! ### One more standing -/
theorem insR_app (s : SO) (B : List SO) (hB : B = [] ∨ ∃ b r, B = b :: r ∧ ¬ cmS s.1 b.1 < 0) : ∀ A : List SO, (∀ a ∈ A, cmS s.1 a.1 < 0) → insR s (A ++ B) = A ++ s :: B
  | [], _ => by
    rcases hB with rfl | ⟨b, r, rfl, h⟩
    · rfl
    · show insR s (b :: r) = _
      rw [insR, if_neg h]
      rfl
  | a :: A, h => by
    show insR s (a :: (A ++ B)) = _
    rw [insR, if_pos (h a List.mem_cons_self), insR_app s B hB A fun x hx => h x (List.mem_cons_of_mem _ hx)]
    rfl
theorem insR_cut (s : SO) (q : List SO) (k : Nat) (hk : k ≤ q.length) (h1 : ∀ j, k ≤ j → (hj : j < q.length) → cmS s.1 q[j].1 < 0) (h2 : k = 0 ∨ ∃ h : k - 1 < q.length, ¬ cmS s.1 q[k - 1].1 < 0) : (insR s q.reverse).reverse = q.take k ++ s :: q.drop k := by
  have e : q.reverse = (q.drop k).reverse ++ (q.take k).reverse := by rw [← List.reverse_append, List.take_append_drop]
  rw [e, insR_app s]
  · simp
  · rcases h2 with rfl | ⟨h, h2⟩
    · exact .inl (by simp)
    · by_cases h0 : k = 0
      · subst h0; exact .inl (by simp)
      · refine .inr ⟨q[k - 1], (q.take (k - 1)).reverse, ?_, h2⟩
        have : q.take k = q.take (k - 1) ++ [q[k - 1]] := by
          rw [List.take_append_getElem h, show k - 1 + 1 = k by omega]
        rw [this]
        simp
  · intro a ha
    obtain ⟨j, hj, rfl⟩ := List.getElem_of_mem (List.mem_reverse.mp ha)
    rw [List.getElem_drop]
    exact h1 _ (by omega) _
theorem stds_succ (i : Nat) (l : List Pl) : stds (i + 1) l = stds i l ++ [stdS l i] := by simp [stds, List.range_succ]
theorem toO_app (a b : List St) : toO (a ++ b) = toO a ++ toO b := by simp [toO]
theorem tb_step {n : Int} {l : List Pl} (hpl : ∀ i, i < l.length → plE n (gp l i) = 0) (h4 : l.length ≤ 400) (i : Nat) {zs : List St} (hz : zs = tbS (stds i l)) {k : Nat} (hk : k ≤ zs.length)
    (h1 : ∀ j, k ≤ j → j < zs.length → cmS (stdS l i) (gz zs j) < 0) (h2 : k = 0 ∨ ¬ cmS (stdS l i) (gz zs (k - 1)) < 0) : tbS (stds (i + 1) l) = zs.take k ++ stdS l i :: zs.drop k := by
  have hok : okS (stdS l i) := by
    have h := stdS_inv hpl i l.length (Nat.le_refl _)
    rw [List.take_length] at h
    exact stI_ok h h4
  subst hz
  have hq : ∀ q : List SO, q = sortL (toO (stds i l)) → (insR ⟨_, hok⟩ q.reverse).reverse = q.take k ++ ⟨_, hok⟩ :: q.drop k := by
    intro q hq
    have hl : q.length = (tbS (stds i l)).length := by rw [tbS, List.length_map, hq]
    have hg : ∀ j, (hj : j < q.length) → gz (tbS (stds i l)) j = q[j].1 := by
      intro j hj
      rw [gz_get (by rw [← hl]; exact hj)]
      subst hq
      simp [tbS]
    refine insR_cut _ q k (by rw [hl]; exact hk) (fun j h hj => ?_) ?_
    · have := h1 j h (by rw [← hl]; exact hj)
      rwa [hg j hj] at this
    · rcases h2 with h | h
      · exact .inl h
      · by_cases h0 : k = 0
        · exact .inl h0
        · refine .inr ⟨by omega, ?_⟩
          rwa [hg (k - 1) (by omega)] at h
  have e : sortL (toO (stds (i + 1) l)) = (insR ⟨_, hok⟩ (sortL (toO (stds i l))).reverse).reverse := by
    rw [stds_succ, toO_app, sortL, List.foldl_append]
    have : toO [stdS l i] = [⟨_, hok⟩] := by simp [toO, hok]
    rw [this]
    rfl
  rw [tbS, e, hq _ rfl]
  simp [tbS, List.map_take, List.map_drop]
end Go.Proofs.Ytfnapmdedmbdbaa
end
section
set_option linter.unusedVariables false
set_option linter.unusedSimpArgs false
namespace Go.Proofs.Ytfnapmdedmbdbaa
open Go Go.Am
theorem apNilE {lim k n : Nat} {H H2 : Heap} {y : AV} {zs : List St} (hy : srcCells H 10 y = some (k, flatZ zs)) (h : k ≤ 1000) (hn : H.length = n) (hH : H ++ [some (flatZ zs)] = H2) : appendV Try.prog lim H 42 nilZ y = some (.own 10 n 0 k, H2) := by
  subst hn hH
  simp only [appendV, tk42, ty47, hy]
  rw [if_pos ⟨rfl, by decide, flatZ_stor zs⟩, if_pos ⟨by omega, by omega⟩]
theorem apOwnE {lim b n m : Nat} {H H2 : Heap} {y : AV} {zs ys : List St} (hb : hget H b = some (flatZ zs)) (hlim : lim ≤ b) (hn : n = zs.length) (hy : srcCells H 10 y = some (m, flatZ ys)) (h : n + m ≤ 1000) {s c : Nat} (hs : n + m = s) (hc : H.length = c) (hH : hset H b none ++ [some (flatZ (zs ++ ys))] = H2) : appendV Try.prog lim H 42 (.own 10 b 0 n) y = some (.own 10 c 0 s, H2) := by
  subst hs hn hc hH
  simp only [appendV, tk42, ty47, hy]
  rw [if_pos ⟨rfl, by decide, flatZ_stor ys⟩]
  simp only [hb]
  rw [if_pos ⟨hlim, trivial, by rw [flatZ_len]; omega, by omega, by omega⟩, flatZ_app, List.drop_zero, List.take_of_length_le (by rw [flatZ_len]; exact Nat.le_refl _)]
theorem bs27e {lim n : Nat} {H H2 : Heap} {a : Operand} {ev : Operand → AV} {x : St} (ha : ev a = stA x) (hn : H.length = n) (hH : H ++ [some (stL x)] = H2) : effV Try.prog lim (.buildSlice 42 1 #[(0, a)]) ev H = some (.own 10 n 0 1, H2) := by
  subst hn hH
  exact bs27o lim H a ev x ha
theorem keep_three (H : Heap) (A B C : Option Blk) : keepOnly [0, 1, 2] H.length (H ++ [A] ++ [B] ++ [C]) = H ++ [A] ++ [B] ++ [C] := by
  unfold keepOnly
  apply List.ext_getElem?
  intro i
  rw [List.getElem?_mapIdx]
  by_cases h : i < H.length
  · simp [h]
  · by_cases h2 : i < (H ++ [A] ++ [B] ++ [C]).length
    · have : i = H.length ∨ i = H.length + 1 ∨ i = H.length + 2 := by simp at h2; omega
      rcases this with rfl | rfl | rfl <;> simp
    · rw [List.getElem?_eq_none (by omega)]
      rfl
theorem three_low {H : Heap} {A B C : Option Blk} {b : Nat} (h : b < H.length) : hget (H ++ [A] ++ [B] ++ [C]) b = hget H b := by
  rw [hget_low _ _ _ (by simp; omega), hget_low _ _ _ (by simp; omega), hget_low _ _ _ h]
theorem three_2 (H : Heap) (A B C : Option Blk) : hget (H ++ [A] ++ [B] ++ [C]) (H.length + 2) = C := by simp [hget]
theorem three_sw {H : Heap} {live : List Nat} {e0 e1 : Env} {S B : Blk} (hS : ∀ f, S.map (ren f 8) = S) (hB : ∀ f, B.map (ren f 8) = B) (hl : ∀ t ∈ live, (ren (rnB H.length [1, 0, 2]) 8 (e1.get t)) = e0.get t) :
    SameUp H.length live [0, 1, 2] e0 (H ++ [none] ++ [some S] ++ [some B]) e1 (H ++ [some S] ++ [none] ++ [some B]) := by
  refine ⟨[1, 0, 2], by simp, by simp, by simp, by decide, by decide, by decide, hl, ?_⟩
  intro k hk
  simp only [List.mem_cons, List.not_mem_nil, or_false] at hk
  rcases hk with rfl | rfl | rfl
  · simp [hget]
  · simp [hget, hS]
  · simp [hget, hB]
theorem flatZ_ren (l : List St) (f : Nat → Nat) : (flatZ l).map (ren f 8) = flatZ l := by
  unfold flatZ
  rw [List.map_flatten, List.map_map]
  rfl
theorem stL_ren (z : St) (f : Nat → Nat) : (stL z).map (ren f 8) = stL z := rfl
theorem rn_low {h b : Nat} {p : List Nat} (hb : b < h) : rnB h p b = b := if_pos hb
theorem rn_two (h : Nat) : rnB h [1, 0, 2] (h + 2) = h + 2 := by
  unfold rnB
  rw [if_neg (by omega), Nat.add_sub_cancel_left]
  rfl
theorem OutZ.drop_ren {base k : Nat} {H : Heap} {o o2 : AV} {zs : List St} (h : OutZ base H o zs) (hs : sliceV Try.prog 42 o (some (AV.i (k : Int))) none = some o2) (p : List Nat) : ren (rnB H.length p) 8 o2 = o2 := by
  rcases h with ⟨h1, h2⟩ | ⟨b, h1, h2, h3, h4⟩
  · subst h1 h2
    simp only [sliceV, tk42, ty47, bound] at hs
    split at hs
    · cases hs; rfl
    · cases hs
  · subst h1
    simp only [sliceV, tk42, ty47, bound] at hs
    split at hs
    · cases hs
      show AV.own 10 (rnB H.length p b) _ _ = _
      rw [rn_low (hget_lt h3)]
    · cases hs
/-- The whole step: the parts made in the one order or the other. -/
theorem lay0 {H : Heap} {F : List St} {s : St} : hset (H ++ [some (flatZ F)] ++ [some (stL s)]) H.length none ++ [some (flatZ (F ++ [s]))] = H ++ [none] ++ [some (stL s)] ++ [some (flatZ (F ++ [s]))] := by simp [hset]
theorem lay1 {H : Heap} {F : List St} {s : St} : hset (H ++ [some (stL s)] ++ [some (flatZ F)]) (H.length + 1) none ++ [some (flatZ (F ++ [s]))] = H ++ [some (stL s)] ++ [none] ++ [some (flatZ (F ++ [s]))] := by simp [hset]
theorem h21 (H : Heap) (A B : Option Blk) : hget (H ++ [A] ++ [B]) H.length = A := by simp [hget]
theorem h22 (H : Heap) (A B : Option Blk) : hget (H ++ [A] ++ [B]) (H.length + 1) = B := by simp [hget]
theorem OutZ.app {base : Nat} {H : Heap} {o : AV} {zs : List St} (h : OutZ base H o zs) (k : Blk) : OutZ base (H ++ [some k]) o zs := h.new (MNew.of H k)
theorem OutZ.three {base : Nat} {H : Heap} {o : AV} {zs : List St} (h : OutZ base H o zs) (A B C : Option Blk) : OutZ base (H ++ [A] ++ [B] ++ [C]) o zs := h.keep fun b k _ hb => three_low (hget_lt hb)
end Go.Proofs.Ytfnapmdedmbdbaa
end
section
set_option linter.unusedVariables false
set_option linter.unusedSimpArgs false
namespace Go.Proofs.Ytfnapmdedmbdbaa
open Go Go.Am
/-- The points of the teams, by the first rows of a table. -/
def ptsN (n : Nat) (zs : List St) : Nat → List Int
  | 0 => List.replicate n 0
  | u + 1 => (ptsN n zs u).set (gz zs u).tm.toNat (gz zs u).pt
theorem pts_len (n : Nat) (zs : List St) : ∀ u, (ptsN n zs u).length = n
  | 0 => by rw [ptsN, List.length_replicate]
  | u + 1 => by rw [ptsN, List.length_set, pts_len n zs u]
def ofP (n : Int) (l : List Pl) : List Int := ptsN n.toNat (tabS n l) (tabS n l).length
def ofE (n : Int) (l : List Pl) (L : List Pr) : Int := if chS n l ≠ 0 then chS n l else rchkS (ofP n l) L
def ofA (n : Int) (l : List Pl) (L : List Pr) : AV := if ofE n l L ≠ 0 then .agg [nilP, nilP] else .agg (raceC (ofP n l) L)
theorem of_1 {n : Int} {l : List Pl} (L : List Pr) (h : ¬ chS n l = 0) : ofE n l L = chS n l ∧ ofA n l L = .agg [nilP, nilP] := by
  have e : ofE n l L = chS n l := if_pos h
  exact ⟨e, by rw [ofA, e, if_pos h]⟩
theorem of_2 {n : Int} {l : List Pl} {L : List Pr} {zs : List St} (hz : zs = tabS n l) (h : chS n l = 0) (h2 : ¬ rchkS (ptsN n.toNat zs zs.length) L = 0) : ofE n l L = rchkS (ptsN n.toNat zs zs.length) L ∧ ofA n l L = .agg [nilP, nilP] := by
  subst hz
  have e : ofE n l L = rchkS (ptsN n.toNat (tabS n l) (tabS n l).length) L := if_neg (fun hh => hh h)
  exact ⟨e, by rw [ofA, e, if_pos h2]⟩
theorem of_3 {n : Int} {l : List Pl} {L : List Pr} {zs : List St} (hz : zs = tabS n l) (h : chS n l = 0) (h2 : rchkS (ptsN n.toNat zs zs.length) L = 0) : ofE n l L = 0 ∧ ofA n l L = .agg (raceC (ptsN n.toNat zs zs.length) L) := by
  subst hz
  have e : ofE n l L = rchkS (ptsN n.toNat (tabS n l) (tabS n l).length) L := if_neg (fun hh => hh h)
  exact ⟨e.trans h2, by rw [ofA, e, if_neg (fun hh => hh h2)]; rfl⟩
theorem tab_row {n : Int} {l : List Pl} {zs : List St} (hz : zs = tabS n l) (h : chS n l = 0) : zs ≠ [] ∧ zs.length = n.toNat ∧ ∀ u, u < zs.length → 0 ≤ (gz zs u).tm ∧ (gz zs u).tm < n := by
  rw [tabS_y h] at hz
  subst hz
  refine ⟨tab_ne h, (tab_len h).symm, fun u hu => ?_⟩
  obtain ⟨_, h4, hpl⟩ := chS_z h
  have hm : gz (tbS (stds n.toNat l)) u ∈ stds n.toNat l := (tbS_perm (tab_ok h).1).mem_iff.1 (by rw [gz_get hu]; exact List.getElem_mem _)
  have ht := stds_tm hpl n.toNat l.length (Nat.le_refl _)
  rw [List.take_length] at ht
  have hm2 : (gz (tbS (stds n.toNat l)) u).tm ∈ (List.range n.toNat).map fun t : Nat => (t : Int) := by
    rw [← ht]
    exact List.mem_map_of_mem hm
  obtain ⟨t, ht2, he⟩ := List.mem_map.1 hm2
  rw [List.mem_range] at ht2
  omega
theorem isI_ints (l : List Pr) : (flatQ l).all isI = true := by
  induction l with
  | nil => rfl
  | cons p l ih => unfold flatQ at ih ⊢; rw [List.map_cons, List.flatten_cons, List.all_append, ih]; rfl
theorem clone_ok (lim : Nat) (H : Heap) (L : List Pr) (hL : L.length ≤ 100000) : ACall sig lim 13 [prsAV L] H fun r H' => r = prsAV L ∧ H' = H :=
  ⟨1, _, H, by show Option.map _ (cloneV [prsAV L] H) = _; simp only [cloneV]; rw [if_pos ⟨hL, flatQ_len L, isI_ints L⟩]; rfl, rfl, rfl⟩
theorem ints_ren (P : List Int) (f : Nat → Nat) : (P.map AV.i).map (ren f 8) = P.map AV.i := by rw [List.map_map]; rfl
theorem prs_ren (L : List Pr) (f : Nat → Nat) (d : Nat) : (flatQ L).map (ren f (d + 1)) = flatQ L := by
  unfold flatQ
  rw [List.map_flatten, List.map_map]
  congr 1
theorem ren_os (f : Nat → Nat) (b n : Nat) (L : List Pr) : ren f 8 (.agg [.own 1 b 0 n, prsAV L]) = .agg [.own 1 (f b) 0 n, prsAV L] := by
  show AV.agg [.own 1 (f b) 0 n, .sl _ ((flatQ L).map (ren f 6))] = _
  rw [prs_ren]
theorem ren_oo (f : Nat → Nat) (b n c m : Nat) : ren f 8 (.agg [.own 1 b 0 n, .own 2 c 0 m]) = .agg [.own 1 (f b) 0 n, .own 2 (f c) 0 m] := rfl
theorem ren_p8 (f : Nat → Nat) (b o : Nat) : ren f 8 (.ptr b o) = .ptr (f b) o := rfl
theorem rnB_add (h : Nat) (p : List Nat) (j : Nat) : rnB h p (h + j) = h + p.idxOf j := by
  unfold rnB
  rw [if_neg (by omega), Nat.add_sub_cancel_left]
theorem rnB_zero (h : Nat) (p : List Nat) : rnB h p h = h + p.idxOf 0 := rnB_add h p 0
theorem two_low {H : Heap} {A B : Option Blk} {b : Nat} (h : b < H.length) : hget (H ++ [A] ++ [B]) b = hget H b := by
  rw [hget_low _ _ _ (by simp; omega), hget_low _ _ _ h]
theorem two_0 (H : Heap) (A B : Option Blk) : hget (H ++ [A] ++ [B]) H.length = A := by simp [hget]
theorem two_1 (H : Heap) (A B : Option Blk) : hget (H ++ [A] ++ [B]) (H.length + 1) = B := by simp [hget]
theorem four_low {H : Heap} {A B C D : Option Blk} {b : Nat} (h : b < H.length) : hget (H ++ [A] ++ [B] ++ [C] ++ [D]) b = hget H b := by
  rw [hget_low _ _ _ (by simp; omega), hget_low _ _ _ (by simp; omega), hget_low _ _ _ (by simp; omega), hget_low _ _ _ h]
theorem four_0 (H : Heap) (A B C D : Option Blk) : hget (H ++ [A] ++ [B] ++ [C] ++ [D]) H.length = A := by simp [hget]
theorem four_2 (H : Heap) (A B C D : Option Blk) : hget (H ++ [A] ++ [B] ++ [C] ++ [D]) (H.length + 2) = C := by simp [hget]
theorem four_3 (H : Heap) (A B C D : Option Blk) : hget (H ++ [A] ++ [B] ++ [C] ++ [D]) (H.length + 3) = D := by simp [hget]
theorem keep_four (H : Heap) (A B C D : Option Blk) : keepOnly [0, 1, 2, 3] H.length (H ++ [A] ++ [B] ++ [C] ++ [D]) = H ++ [A] ++ [B] ++ [C] ++ [D] := by
  unfold keepOnly
  apply List.ext_getElem?
  intro i
  rw [List.getElem?_mapIdx]
  by_cases h : i < H.length
  · simp [h]
  · by_cases h2 : i < (H ++ [A] ++ [B] ++ [C] ++ [D]).length
    · have : i = H.length ∨ i = H.length + 1 ∨ i = H.length + 2 ∨ i = H.length + 3 := by simp at h2; omega
      rcases this with rfl | rfl | rfl | rfl <;> simp
    · rw [List.getElem?_eq_none (by omega)]
      rfl
theorem bs23e (lim : Nat) (H : Heap) (ev : Operand → AV) : effV Try.prog lim (.buildSlice 23 0 #[]) ev H = some (.own 2 H.length 0 0, H ++ [some []]) := by
  simp only [effV, tk23, ty33]
  rw [if_pos ⟨rfl, by decide, by decide⟩]
  rfl
theorem stor_prs (L : List Pr) : (flatQ L).all storable = true := by
  induction L with
  | nil => rfl
  | cons p l ih => unfold flatQ at ih ⊢; rw [List.map_cons, List.flatten_cons, List.all_append, ih]; rfl
theorem app23 {lim : Nat} {K : Heap} {b : Nat} {l : List Pr} (hb : hget K b = some []) (hl : lim ≤ b) (hm : l.length ≤ 100000) :
    appendV Try.prog lim K 23 (.own 2 b 0 0) (prsAV l) = some (.own 2 K.length 0 l.length, hset K b none ++ [some (flatQ l)]) := by
  simp only [appendV, tk23, ty33, srcCells, hb, flatQ_len]
  rw [if_pos (Nat.le_refl _)]
  simp only
  rw [if_pos ⟨rfl, by decide, by rw [List.take_of_length_le (by rw [flatQ_len]; omega)]; exact stor_prs l⟩]
  simp only [List.drop_nil, List.take_nil, List.nil_append, Nat.zero_add]
  rw [if_pos ⟨hl, trivial, by simp, by omega, by omega⟩, List.take_of_length_le (by rw [flatQ_len]; omega)]
theorem bld27 {x y : AV} (hx : cellsOf x = some [x]) (hy : cellsOf y = some [y]) : buildV Try.prog 27 [(0, x), (1, y)] = some (.agg [x, y]) := by
  have hp : places Try.prog [(0, 25), (1, 23)] = some [(0, 1), (1, 1)] := by kernel_rfl
  simp only [buildV, ty27, List.map_cons, List.map_nil, hp]
  simp [fillA, hx, hy]
theorem frz_of {H : Heap} {b n : Nat} {P : List Int} (L : List Pr) (hb : hget H b = some (P.map AV.i)) (hn : n = P.length) : frz H 0 8 (.agg [.own 1 b 0 n, prsAV L]) = .agg (raceC P L) := by
  subst hn; exact frz_raceO L hb
theorem frz_ofb {H : Heap} {base b n : Nat} {P : List Int} (L : List Pr) (hb : hget H b = some (P.map AV.i)) (hl : base ≤ b) (hn : n = P.length) : frz H base 7 (.agg [.own 1 b 0 n, prsAV L]) = .agg (raceC P L) := by
  show AV.agg [frz H base 6 (.own 1 b 0 n), AV.sl _ ((flatQ L).map (frz H base 5))] = _
  rw [frz_ownI (d := 4) (by omega) hb hn, frz_prs]
theorem frz_oo {H : Heap} {b c n m d base : Nat} {P : List Int} {L : List Pr} (hb : hget H b = some (P.map AV.i)) (hc : hget H c = some (flatQ L)) (h1 : base ≤ b) (h2 : base ≤ c) (hn : n = P.length) (hm : m = L.length) : frz H base (d + 4) (.agg [.own 1 b 0 n, .own 2 c 0 m]) = .agg (raceC P L) := by
  show AV.agg [frz H base (d + 3) (.own 1 b 0 n), frz H base (d + 3) (.own 2 c 0 m)] = _
  rw [frz_ownI (d := d + 1) (by omega) hb hn, frz_ownB (by omega) hc, List.drop_zero, frz_prs, hm]
end Go.Proofs.Ytfnapmdedmbdbaa
end
section
set_option linter.unusedSimpArgs false
set_option linter.unusedVariables false
set_option maxHeartbeats 4000000
set_option maxRecDepth 20000
namespace Go.Proofs.Ytfnapmdedmbdbaa
open Go Go.Am
abbrev lc_pair_ok (a b c : AV) : Env := [(0,a),(1,b),(2,c)]
theorem pair_ok (lim : Nat) (H : Heap) (p : Pr) :
    ACall sig lim 33 [.agg (prC p)] H fun r H' => r = .agg (prC (norm p)) ∧ H' = H := by
 refine ACall_pure (fa := fa33) rfl rfl rfl rfl ?_
 have tr : ∀ a0 : AV, env0 fa33.keep [a0] = [(0,a0),(1,.any),(2,.any)] := fun a0 => rfl
 refine W_to (tr _) ?_; clear tr
 refine at_seq rfl ?_
 refine rg rfl ?_
 refine R_box rfl (by simp (disch := first | omega | (simp only [List.length_map, List.length_append, List.length_set, List.length_cons, List.length_nil]; omega)) only [go_sem, ↓reduceIte, Nat.reduceEqDiff, reduceCtorEq] <;> rfl) rfl rfl ?_
 refine R_alloc (by simp (disch := first | omega | (simp only [List.length_map, List.length_append, List.length_set, List.length_cons, List.length_nil]; omega)) only [go_sem, ↓reduceIte, Nat.reduceEqDiff, reduceCtorEq] <;> rfl) rfl (by simp only [List.map_cons, List.map_nil]; rfl) ?_
 have tr : ∀ a b c d e : AV, let l := lc_pair_ok a b c; trim ((2,e)::(1,d)::l) l = [(0,a),(1,d),(2,e)] := by intros; rfl
 refine R_nil (tr ..) ?_; clear tr
 refine then_n ?_
 refine at_seq rfl ?_
 refine rg rfl ?_
 refine Rq ?_
 refine Rq ?_
 refine Rq ?_
 refine Rq ?_
 refine Rq ?_
 refine Rq ?_
 refine Rq ?_
 refine Rq ?_
 refine Rq ?_
 refine Rq ?_
 refine Rq ?_
 refine R_store ty33 (by simp (disch := first | omega | (simp only [List.length_map, List.length_append, List.length_set, List.length_cons, List.length_nil]; omega)) only [go_sem, ↓reduceIte, Nat.reduceEqDiff, reduceCtorEq] <;> rfl) (by simp (disch := first | omega | (simp only [List.length_map, List.length_append, List.length_set, List.length_cons, List.length_nil]; omega)) only [go_sem, ↓reduceIte, Nat.reduceEqDiff, reduceCtorEq] <;> rfl) (by simp (disch := first | omega | (simp only [List.length_map, List.length_append, List.length_set, List.length_cons, List.length_nil]; omega)) only [go_sem, ↓reduceIte, Nat.reduceEqDiff, reduceCtorEq] <;> rfl) (by simp) (by rfl) (by simp (disch := first | omega | (simp only [List.length_map, List.length_append, List.length_set, List.length_cons, List.length_nil]; omega)) only [go_sem, ↓reduceIte, Nat.reduceEqDiff, reduceCtorEq] <;> rfl) ?_
 have tr : ∀ a b c d e f g h i j k m n o : AV, let l := lc_pair_ok a b c; trim ((13,o)::(12,n)::(11,m)::(10,k)::(9,j)::(8,i)::(7,h)::(6,g)::(5,f)::(4,e)::(3,d)::l) l = [(0,a),(1,b),(2,c)] := by intros; rfl
 refine R_nil (tr ..) ?_; clear tr
 refine then_n ?_
 refine at_ret rfl ?_
 refine fin_pure (rs := [.cell 2 33]) rfl (by simp only [go_sem, ↓reduceIte, Nat.reduceEqDiff]; rfl) (by simp only [go_sem, ↓reduceIte, Nat.reduceEqDiff]; rfl) ?_
 exact ⟨rfl, rfl⟩

abbrev lc_same_ok (a b c d e : AV) : Env := [(0,a),(1,b),(2,c),(3,d),(4,e)]
theorem same_ok (lim : Nat) (H : Heap) (p q : Pr) :
    ACall sig lim 50 [.agg (prC p), .agg (prC q)] H fun r H' => r = .v (.bool (decide (norm p = norm q))) ∧ H' = H := by
 refine ACall_pure (fa := fa50) rfl rfl rfl rfl ?_
 have tr : ∀ a0 a1 : AV, env0 fa50.keep [a0, a1] = [(0,a0),(1,a1),(2,.any),(3,.any),(4,.any)] := fun a0 a1 => rfl
 refine W_to (tr _ _) ?_; clear tr
 refine at_seq rfl ?_
 refine rg rfl ?_
 refine R_box rfl (by simp (disch := first | omega | (simp only [List.length_map, List.length_append, List.length_set, List.length_cons, List.length_nil]; omega)) only [go_sem, ↓reduceIte, Nat.reduceEqDiff, reduceCtorEq] <;> rfl) rfl rfl ?_
 refine R_box rfl (by simp (disch := first | omega | (simp only [List.length_map, List.length_append, List.length_set, List.length_cons, List.length_nil]; omega)) only [go_sem, ↓reduceIte, Nat.reduceEqDiff, reduceCtorEq] <;> rfl) rfl rfl ?_
 refine Rq ?_
 have tr : ∀ a b c d e f g h : AV, let l := lc_same_ok a b c d e; trim ((4,h)::(3,g)::(2,f)::l) l = [(0,a),(1,b),(2,f),(3,g),(4,h)] := by intros; rfl
 refine R_nil (tr ..) ?_; clear tr
 refine then_n ?_
 refine at_seq rfl ?_
 refine rg rfl ?_
 refine Rq ?_
 refine Rq ?_
 refine Rq ?_
 refine Rq ?_
 refine Rq ?_
 refine Rq ?_
 refine Rp_split (fun h1 => ?_) (fun h1 => ?_)
 ·
  try simp only [decide_eq_true_eq, decide_eq_false_iff_not, Bool.not_eq_true', Bool.not_eq_false', beq_iff_eq, beq_eq_false_iff_ne, ne_eq] at h1
  refine Ry ?_
  refine Rq ?_
  refine Ry ?_
  refine Rq ?_
  refine Ry ?_
  refine Rq ?_
  refine Ry ?_
  refine Rq ?_
  refine Ry ?_
  refine Rq ?_
  refine Rq ?_
  refine Rq ?_
  refine Rp_split (fun h2 => ?_) (fun h2 => ?_)
  ·
   try simp only [decide_eq_true_eq, decide_eq_false_iff_not, Bool.not_eq_true', Bool.not_eq_false', beq_iff_eq, beq_eq_false_iff_ne, ne_eq] at h2
   refine Rn ?_
   refine Rn ?_
   refine Rn ?_
   refine Rn ?_
   refine Rn ?_
   refine Rn ?_
   refine Ru ?_
   refine Ru ?_
   refine Ru ?_
   refine Ru ?_
   refine Ru ?_
   refine Rn ?_
   refine Rq ?_
   refine Rq ?_
   have tr : ∀ a b c d e f g h i j k m n o p q r s t u v w x y z A B C D E F G : AV, let l := lc_same_ok a b c d e; trim ((4,G)::(30,F)::(29,E)::(28,D)::(27,C)::(26,B)::(25,A)::(24,z)::(23,y)::(22,x)::(21,w)::(20,v)::(19,u)::(18,t)::(17,s)::(16,r)::(15,q)::(14,p)::(13,o)::(12,n)::(11,m)::(10,k)::(9,j)::(8,i)::(7,h)::(6,g)::(5,f)::l) l = [(0,a),(1,b),(2,c),(3,d),(4,G)] := by intros; rfl
   refine R_nil (tr ..) ?_; clear tr
   refine then_n ?_
   refine at_ret rfl ?_
   refine fpure ?_
   refine ⟨?_, rfl⟩
   have hn := norm_iff p q
   first | (rw [decide_eq_true (hn.1 (by omega))]; done) | (rw [decide_eq_false (fun hh => by have := hn.2 hh; omega)]; done) | (congr 2; rw [Bool.eq_iff_iff]; simp only [beq_iff_eq, decide_eq_true_eq, ← hn]; omega)
  ·
   try simp only [decide_eq_true_eq, decide_eq_false_iff_not, Bool.not_eq_true', Bool.not_eq_false', beq_iff_eq, beq_eq_false_iff_ne, ne_eq] at h2
   refine Ry ?_
   refine Rq ?_
   refine Ry ?_
   refine Rq ?_
   refine Ry ?_
   refine Rq ?_
   refine Ry ?_
   refine Rq ?_
   refine Ry ?_
   refine Rq ?_
   refine Ry ?_
   refine Rq ?_
   refine Rp_split (fun h3 => ?_) (fun h3 => ?_)
   ·
    try simp only [decide_eq_true_eq, decide_eq_false_iff_not, Bool.not_eq_true', Bool.not_eq_false', beq_iff_eq, beq_eq_false_iff_ne, ne_eq] at h3
    refine Ry ?_
    refine Rq ?_
    refine Ry ?_
    refine Rq ?_
    refine Ry ?_
    refine Rq ?_
    refine Ry ?_
    refine Rq ?_
    refine Ry ?_
    refine Rq ?_
    refine Ry ?_
    refine Rq ?_
    refine Rq ?_
    refine Rq ?_
    have tr : ∀ a b c d e f g h i j k m n o p q r s t u v w x y z A B C D E F G : AV, let l := lc_same_ok a b c d e; trim ((4,G)::(30,F)::(29,E)::(28,D)::(27,C)::(26,B)::(25,A)::(24,z)::(23,y)::(22,x)::(21,w)::(20,v)::(19,u)::(18,t)::(17,s)::(16,r)::(15,q)::(14,p)::(13,o)::(12,n)::(11,m)::(10,k)::(9,j)::(8,i)::(7,h)::(6,g)::(5,f)::l) l = [(0,a),(1,b),(2,c),(3,d),(4,G)] := by intros; rfl
    refine R_nil (tr ..) ?_; clear tr
    refine then_n ?_
    refine at_ret rfl ?_
    refine fpure ?_
    refine ⟨?_, rfl⟩
    have hn := norm_iff p q
    first | (rw [decide_eq_true (hn.1 (by omega))]; done) | (rw [decide_eq_false (fun hh => by have := hn.2 hh; omega)]; done) | (congr 2; rw [Bool.eq_iff_iff]; simp only [beq_iff_eq, decide_eq_true_eq, ← hn]; omega)
   ·
    try simp only [decide_eq_true_eq, decide_eq_false_iff_not, Bool.not_eq_true', Bool.not_eq_false', beq_iff_eq, beq_eq_false_iff_ne, ne_eq] at h3
    refine Rn ?_
    refine Rn ?_
    refine Rn ?_
    refine Rn ?_
    refine Rn ?_
    refine Ry ?_
    refine Rq ?_
    refine Rq ?_
    refine Rq ?_
    have tr : ∀ a b c d e f g h i j k m n o p q r s t u v w x y z A B C D E F G : AV, let l := lc_same_ok a b c d e; trim ((4,G)::(30,F)::(29,E)::(28,D)::(27,C)::(26,B)::(25,A)::(24,z)::(23,y)::(22,x)::(21,w)::(20,v)::(19,u)::(18,t)::(17,s)::(16,r)::(15,q)::(14,p)::(13,o)::(12,n)::(11,m)::(10,k)::(9,j)::(8,i)::(7,h)::(6,g)::(5,f)::l) l = [(0,a),(1,b),(2,c),(3,d),(4,G)] := by intros; rfl
    refine R_nil (tr ..) ?_; clear tr
    refine then_n ?_
    refine at_ret rfl ?_
    refine fpure ?_
    refine ⟨?_, rfl⟩
    have hn := norm_iff p q
    first | (rw [decide_eq_true (hn.1 (by omega))]; done) | (rw [decide_eq_false (fun hh => by have := hn.2 hh; omega)]; done) | (congr 2; rw [Bool.eq_iff_iff]; simp only [beq_iff_eq, decide_eq_true_eq, ← hn]; omega)
 ·
  try simp only [decide_eq_true_eq, decide_eq_false_iff_not, Bool.not_eq_true', Bool.not_eq_false', beq_iff_eq, beq_eq_false_iff_ne, ne_eq] at h1
  refine Rn ?_
  refine Rn ?_
  refine Rn ?_
  refine Rn ?_
  refine Rn ?_
  refine Rq ?_
  refine Rq ?_
  refine Ry ?_
  refine Rq ?_
  refine Ry ?_
  refine Rq ?_
  refine Ry ?_
  refine Rq ?_
  refine Ry ?_
  refine Rq ?_
  refine Ry ?_
  refine Rq ?_
  refine Ry ?_
  refine Rq ?_
  refine Rp_split (fun h4 => ?_) (fun h4 => ?_)
  ·
   try simp only [decide_eq_true_eq, decide_eq_false_iff_not, Bool.not_eq_true', Bool.not_eq_false', beq_iff_eq, beq_eq_false_iff_ne, ne_eq] at h4
   refine Ry ?_
   refine Rq ?_
   refine Ry ?_
   refine Rq ?_
   refine Ry ?_
   refine Rq ?_
   refine Ry ?_
   refine Rq ?_
   refine Ry ?_
   refine Rq ?_
   refine Ry ?_
   refine Rq ?_
   refine Rq ?_
   refine Rq ?_
   have tr : ∀ a b c d e f g h i j k m n o p q r s t u v w x y z A B C D E F G : AV, let l := lc_same_ok a b c d e; trim ((4,G)::(30,F)::(29,E)::(28,D)::(27,C)::(26,B)::(25,A)::(24,z)::(23,y)::(22,x)::(21,w)::(20,v)::(19,u)::(18,t)::(17,s)::(16,r)::(15,q)::(14,p)::(13,o)::(12,n)::(11,m)::(10,k)::(9,j)::(8,i)::(7,h)::(6,g)::(5,f)::l) l = [(0,a),(1,b),(2,c),(3,d),(4,G)] := by intros; rfl
   refine R_nil (tr ..) ?_; clear tr
   refine then_n ?_
   refine at_ret rfl ?_
   refine fpure ?_
   refine ⟨?_, rfl⟩
   have hn := norm_iff p q
   first | (rw [decide_eq_true (hn.1 (by omega))]; done) | (rw [decide_eq_false (fun hh => by have := hn.2 hh; omega)]; done) | (congr 2; rw [Bool.eq_iff_iff]; simp only [beq_iff_eq, decide_eq_true_eq, ← hn]; omega)
  ·
   try simp only [decide_eq_true_eq, decide_eq_false_iff_not, Bool.not_eq_true', Bool.not_eq_false', beq_iff_eq, beq_eq_false_iff_ne, ne_eq] at h4
   refine Rn ?_
   refine Rn ?_
   refine Rn ?_
   refine Rn ?_
   refine Rn ?_
   refine Ry ?_
   refine Rq ?_
   refine Rq ?_
   refine Rq ?_
   have tr : ∀ a b c d e f g h i j k m n o p q r s t u v w x y z A B C D E F G : AV, let l := lc_same_ok a b c d e; trim ((4,G)::(30,F)::(29,E)::(28,D)::(27,C)::(26,B)::(25,A)::(24,z)::(23,y)::(22,x)::(21,w)::(20,v)::(19,u)::(18,t)::(17,s)::(16,r)::(15,q)::(14,p)::(13,o)::(12,n)::(11,m)::(10,k)::(9,j)::(8,i)::(7,h)::(6,g)::(5,f)::l) l = [(0,a),(1,b),(2,c),(3,d),(4,G)] := by intros; rfl
   refine R_nil (tr ..) ?_; clear tr
   refine then_n ?_
   refine at_ret rfl ?_
   refine fpure ?_
   refine ⟨?_, rfl⟩
   have hn := norm_iff p q
   first | (rw [decide_eq_true (hn.1 (by omega))]; done) | (rw [decide_eq_false (fun hh => by have := hn.2 hh; omega)]; done) | (congr 2; rw [Bool.eq_iff_iff]; simp only [beq_iff_eq, decide_eq_true_eq, ← hn]; omega)

abbrev lc_index_ok (a b c d e f g h i : AV) : Env := [(0,a),(1,b),(3,c),(4,d),(5,e),(7,f),(8,g),(9,h),(16,i)]
theorem index_ok (lim : Nat) (H : Heap) (b : Nat) (m : List Pr) (p : Pr) (qb : hget H b = some (flatQ m)) (hm : m.length ≤ 1000) :
    ACall sig lim 37 [.own 2 b 0 m.length, .agg (prC p)] H fun r H' => (∃ k : Int, r = AV.i k ∧ ((0 ≤ k ∧ k < m.length ∧ gt m k.toNat = p) ∨ (k = -1 ∧ p ∉ m))) ∧ H' = H := by
 have lb := hget_lt qb
 refine ACall_pure (fa := fa37) rfl rfl rfl rfl ?_
 have tr : ∀ a0 a1 : AV, env0 fa37.keep [a0, a1] = [(0,a0),(1,a1),(3,.any),(4,.any),(5,.any),(7,.any),(8,.any),(9,.any),(16,.any)] := fun a0 a1 => rfl
 refine W_to (tr _ _) ?_; clear tr
 refine at_seq rfl ?_
 refine rg rfl ?_
 refine R_box rfl (by simp (disch := first | omega | (simp only [List.length_map, List.length_append, List.length_set, List.length_cons, List.length_nil]; omega)) only [go_sem, ↓reduceIte, Nat.reduceEqDiff, reduceCtorEq, qb] <;> rfl) rfl rfl ?_
 refine Rq ?_
 have tr : ∀ a b c d e f g h i j k : AV, let l := lc_index_ok a b c d e f g h i; trim ((4,k)::(3,j)::l) l = [(0,a),(1,b),(3,j),(4,k),(5,e),(7,f),(8,g),(9,h),(16,i)] := by intros; rfl
 refine R_nil (tr ..) ?_; clear tr
 refine then_n ?_
 refine at_seq rfl ?_
 refine at_seq rfl ?_
 refine rg rfl ?_
 refine Rq ?_
 refine Rq ?_
 refine Rq ?_
 have tr : ∀ a b c d e f g h i j k m : AV, let l := lc_index_ok a b c d e f g h i; trim ((8,m)::(7,k)::(6,j)::l) l = [(0,a),(1,b),(3,c),(4,d),(5,e),(7,k),(8,m),(9,h),(16,i)] := by intros; rfl
 refine R_nil (tr ..) ?_; clear tr
 refine then_n ?_
 refine at_block rfl ?_
 refine loop_n rfl (fun mm kv H' => ∃ u : Nat, ∃ x4 x5 x9 x16 : AV, (kv = [(4, x4), (5, x5), (8, AV.i u), (9, x9), (16, x16)]) ∧ (mm = m.length - u) ∧ (H' = H ++ [some (prC p)]) ∧ (u ≤ m.length) ∧ (∀ i, i < u → gt m i ≠ p)) ⟨0, _, _, _, _, rfl, rfl, rfl, by omega, by intro i hi; omega⟩ (by rfl) ?_
 rintro mm kv H' ⟨u, x4, x5, x9, x16, rfl, rfl, rfl, hu, hq⟩
 have tr : ∀ a b c d e f g h i j k m n o : AV, upd [(0,a),(1,b),(3,c),(4,d),(5,e),(7,f),(8,g),(9,h),(16,i)] [(4,j),(5,k),(8,m),(9,n),(16,o)] = [(0,a),(1,b),(3,c),(4,j),(5,k),(7,f),(8,m),(9,n),(16,o)] := by intros; rfl
 refine W_to (tr ..) ?_; clear tr
 refine at_seq rfl ?_
 refine rg rfl ?_
 refine Rq ?_
 have tr : ∀ a b c d e f g h i j : AV, let l := lc_index_ok a b c d e f g h i; trim ((9,j)::l) l = [(0,a),(1,b),(3,c),(4,d),(5,e),(7,f),(8,g),(9,j),(16,i)] := by intros; rfl
 refine R_nil (tr ..) ?_; clear tr
 refine then_n ?_
 refine at_seq rfl ?_
 refine cdd (fun h1 => ?_) (fun h1 => ?_)
 ·
  try simp only [decide_eq_true_eq, decide_eq_false_iff_not, Bool.not_eq_true', Bool.not_eq_false', beq_iff_eq, beq_eq_false_iff_ne, ne_eq] at h1
  refine at_skip rfl ?_
  refine then_n ?_
  refine at_seq rfl ?_
  refine at_block rfl ?_
  refine at_seq rfl ?_
  refine rg rfl ?_
  refine Rq ?_
  refine Rq ?_
  have tr : ∀ a b c d e f g h i j k : AV, let l := lc_index_ok a b c d e f g h i; trim ((5,k)::(10,j)::l) l = [(0,a),(1,b),(3,c),(4,d),(5,k),(7,f),(8,g),(9,h),(16,i)] := by intros; rfl
  refine R_nil (tr ..) ?_; clear tr
  refine then_n ?_
  refine at_seq rfl ?_
  refine rd rfl rfl ?_
  refine Q_q rfl (by simp (disch := first | omega | (simp only [List.length_map, List.length_append, List.length_set, List.length_cons, List.length_nil]; omega)) only [go_sem, ↓reduceIte, Nat.reduceEqDiff, reduceCtorEq, qb] <;> rfl) ?_
  refine Qq ?_
  refine Qq ?_
  refine Qq ?_
  refine Q_q rfl (by simp (disch := first | omega | (simp only [List.length_map, List.length_append, List.length_set, List.length_cons, List.length_nil]; omega)) only [go_sem, ↓reduceIte, Nat.reduceEqDiff, reduceCtorEq, qb] <;> rfl) ?_
  refine Qq ?_
  refine Q_nil ?_
  have tr : ∀ a b c d e f g h i j k m n o p : AV, let l := lc_index_ok a b c d e f g h i; trim ((16,p)::(15,o)::(14,n)::(13,m)::(12,k)::(11,j)::l) l = [(0,a),(1,b),(3,c),(4,d),(5,e),(7,f),(8,g),(9,h),(16,p)] := by intros; rfl
  refine R_nil (tr ..) ?_; clear tr
  refine then_n ?_
  refine cdd (fun h2 => ?_) (fun h2 => ?_)
  ·
   try simp only [decide_eq_true_eq, decide_eq_false_iff_not, Bool.not_eq_true', Bool.not_eq_false', beq_iff_eq, beq_eq_false_iff_ne, ne_eq] at h2
   refine at_seq rfl ?_
   refine rg rfl ?_
   refine Rq ?_
   refine Rq ?_
   have tr : ∀ a b c d e f g h i j k : AV, let l := lc_index_ok a b c d e f g h i; trim ((4,k)::(17,j)::l) l = [(0,a),(1,b),(3,c),(4,k),(5,e),(7,f),(8,g),(9,h),(16,i)] := by intros; rfl
   refine R_nil (tr ..) ?_; clear tr
   refine then_n ?_
   refine at_ret rfl ?_
   refine blk_r ?_
   refine then_r ?_
   refine then_r ?_
   refine blk_r ?_
   refine then_r ?_
   refine fpure ?_
   refine ⟨⟨_, rfl, .inl ⟨by omega, by omega, ?_⟩⟩, rfl⟩
   rw [Int.toNat_natCast]
   simp_all
  ·
   try simp only [decide_eq_true_eq, decide_eq_false_iff_not, Bool.not_eq_true', Bool.not_eq_false', beq_iff_eq, beq_eq_false_iff_ne, ne_eq] at h2
   refine at_skip rfl ?_
   refine blk_n ?_
   refine then_n ?_
   refine rg rfl ?_
   refine Rq ?_
   refine Rq ?_
   have tr : ∀ a b c d e f g h i j k : AV, let l := lc_index_ok a b c d e f g h i; trim ((8,k)::(18,j)::l) l = [(0,a),(1,b),(3,c),(4,d),(5,e),(7,f),(8,k),(9,h),(16,i)] := by intros; rfl
   refine R_nil (tr ..) ?_; clear tr
   refine then_n ?_
   exact ⟨_, _, ⟨u + 1, _, _, _, _, rfl, rfl, rfl, by omega, by exact all_step hq (fun hh => by simp_all)⟩, by rfl, by omega⟩
 ·
  try simp only [decide_eq_true_eq, decide_eq_false_iff_not, Bool.not_eq_true', Bool.not_eq_false', beq_iff_eq, beq_eq_false_iff_ne, ne_eq] at h1
  refine at_exit rfl ?_
  refine then_x ?_
  refine then_x ?_
  refine blk_x ?_
  refine then_n ?_
  refine at_seq rfl ?_
  refine rg rfl ?_
  refine Rq ?_
  have tr : ∀ a b c d e f g h i j : AV, let l := lc_index_ok a b c d e f g h i; trim ((4,j)::l) l = [(0,a),(1,b),(3,c),(4,j),(5,e),(7,f),(8,g),(9,h),(16,i)] := by intros; rfl
  refine R_nil (tr ..) ?_; clear tr
  refine then_n ?_
  refine at_ret rfl ?_
  refine fpure ?_
  refine ⟨⟨_, rfl, .inr ⟨rfl, fun hh => ?_⟩⟩, rfl⟩
  obtain ⟨i, hi, he⟩ := List.mem_iff_getElem.1 hh
  exact hq i (by omega) (by rw [gt_eq _ _ hi]; exact he)

abbrev lc_index_nil (a b c d e f g h i : AV) : Env := [(0,a),(1,b),(3,c),(4,d),(5,e),(7,f),(8,g),(9,h),(16,i)]
theorem index_nil (lim : Nat) (H : Heap) (p : Pr) :
    ACall sig lim 37 [nilP, .agg (prC p)] H fun r H' => (∃ k : Int, r = AV.i k ∧ k = -1) ∧ H' = H := by
 refine ACall_pure (fa := fa37) rfl rfl rfl rfl ?_
 have tr : ∀ a0 a1 : AV, env0 fa37.keep [a0, a1] = [(0,a0),(1,a1),(3,.any),(4,.any),(5,.any),(7,.any),(8,.any),(9,.any),(16,.any)] := fun a0 a1 => rfl
 refine W_to (tr _ _) ?_; clear tr
 refine at_seq rfl ?_
 refine rg rfl ?_
 refine R_box rfl (by simp (disch := first | omega | (simp only [List.length_map, List.length_append, List.length_set, List.length_cons, List.length_nil]; omega)) only [go_sem, ↓reduceIte, Nat.reduceEqDiff, reduceCtorEq] <;> rfl) rfl rfl ?_
 refine Rq ?_
 have tr : ∀ a b c d e f g h i j k : AV, let l := lc_index_nil a b c d e f g h i; trim ((4,k)::(3,j)::l) l = [(0,a),(1,b),(3,j),(4,k),(5,e),(7,f),(8,g),(9,h),(16,i)] := by intros; rfl
 refine R_nil (tr ..) ?_; clear tr
 refine then_n ?_
 refine at_seq rfl ?_
 refine at_seq rfl ?_
 refine rg rfl ?_
 refine Rq ?_
 refine Rq ?_
 refine Rq ?_
 have tr : ∀ a b c d e f g h i j k m : AV, let l := lc_index_nil a b c d e f g h i; trim ((8,m)::(7,k)::(6,j)::l) l = [(0,a),(1,b),(3,c),(4,d),(5,e),(7,k),(8,m),(9,h),(16,i)] := by intros; rfl
 refine R_nil (tr ..) ?_; clear tr
 refine then_n ?_
 refine at_block rfl ?_
 refine loop_n rfl (fun mm kv H' => ∃ u : Nat, ∃ x4 x5 x9 x16 : AV, (kv = [(4, x4), (5, x5), (8, AV.i u), (9, x9), (16, x16)]) ∧ (mm = 0) ∧ (H' = H ++ [some (prC p)]) ∧ (u = 0)) ⟨0, _, _, _, _, rfl, rfl, rfl, by rfl⟩ (by rfl) ?_
 rintro mm kv H' ⟨u, x4, x5, x9, x16, rfl, rfl, rfl, hu⟩
 have tr : ∀ a b c d e f g h i j k m n o : AV, upd [(0,a),(1,b),(3,c),(4,d),(5,e),(7,f),(8,g),(9,h),(16,i)] [(4,j),(5,k),(8,m),(9,n),(16,o)] = [(0,a),(1,b),(3,c),(4,j),(5,k),(7,f),(8,m),(9,n),(16,o)] := by intros; rfl
 refine W_to (tr ..) ?_; clear tr
 refine at_seq rfl ?_
 refine rg rfl ?_
 refine Rq ?_
 have tr : ∀ a b c d e f g h i j : AV, let l := lc_index_nil a b c d e f g h i; trim ((9,j)::l) l = [(0,a),(1,b),(3,c),(4,d),(5,e),(7,f),(8,g),(9,j),(16,i)] := by intros; rfl
 refine R_nil (tr ..) ?_; clear tr
 refine then_n ?_
 refine at_seq rfl ?_
 refine cdd (fun h1 => ?_) (fun h1 => ?_)
 ·
  try simp only [decide_eq_true_eq, decide_eq_false_iff_not, Bool.not_eq_true', Bool.not_eq_false', beq_iff_eq, beq_eq_false_iff_ne, ne_eq] at h1
  exfalso; omega
 ·
  try simp only [decide_eq_true_eq, decide_eq_false_iff_not, Bool.not_eq_true', Bool.not_eq_false', beq_iff_eq, beq_eq_false_iff_ne, ne_eq] at h1
  refine at_exit rfl ?_
  refine then_x ?_
  refine then_x ?_
  refine blk_x ?_
  refine then_n ?_
  refine at_seq rfl ?_
  refine rg rfl ?_
  refine Rq ?_
  have tr : ∀ a b c d e f g h i j : AV, let l := lc_index_nil a b c d e f g h i; trim ((4,j)::l) l = [(0,a),(1,b),(3,c),(4,j),(5,e),(7,f),(8,g),(9,h),(16,i)] := by intros; rfl
  refine R_nil (tr ..) ?_; clear tr
  refine then_n ?_
  refine at_ret rfl ?_
  refine fpure ?_
  exact ⟨⟨_, rfl, rfl⟩, rfl⟩

theorem index_any (lim lo : Nat) (H : Heap) (o : AV) (m : List Pr) (p : Pr) (hO : OutP lo H o m) (hm : m.length ≤ 1000) :
    ACall sig lim 37 [o, .agg (prC p)] H fun r H' => (∃ k : Int, r = AV.i k ∧ ((0 ≤ k ∧ k < m.length ∧ gt m k.toNat = p) ∨ (k = -1 ∧ p ∉ m))) ∧ H' = H := by
  rcases hO with ⟨rfl, rfl⟩ | ⟨h0, b, rfl, h2, h3⟩
  · refine ACall_mono (index_nil lim H p) ?_
    rintro r H' ⟨⟨k, rfl, rfl⟩, rfl⟩
    exact ⟨⟨_, rfl, .inr ⟨rfl, by simp⟩⟩, rfl⟩
  · exact index_ok lim H b m p h3 hm

end Go.Proofs.Ytfnapmdedmbdbaa
end
