/-
  The callees that the abstract machine takes by contract: slices.Sort and slices.Compact at []int64, in memory of the call's own.
-/
import Derived.Test.YtkjgmpjnhfmecaaP
import Derived.Test.YtkjgmpjnhfmecaaSh
import Derived.Test.YtkjgmpjnhfmecaaAmY
import Derived.KernelRfl
set_option linter.unusedVariables false
namespace Go.Proofs.Ytkjgmpjnhfmecaa
open Go Go.Am Go.RowKit Go.Sort
instance dnF : Dn := ⟨False⟩
def primF : FuncId → Option (List AV → Heap → Option AV) := fun _ => none
theorem prim_ok : ∀ f p, primF f = some p → ∀ args H r, p args H = some r → ∀ (lim : Nat) (φ : Phi) (I : Nat → Prop) (w : World) (cs : Array Value), Tb w → Rel lim φ I w H → DL φ I w args cs → CallW Try.prog f cs w (PurePost φ I w lim H r) := by
  intro f p h
  cases h
abbrev encI : Int → Value := Value.int .i64
def rdI : List AV → Option (List Int)
  | [] => some []
  | .v (.int .i64 a) :: r => (rdI r).map (a :: ·)
  | _ => none
theorem rdI_eq : ∀ (n : Nat) (l : List AV), l.length ≤ n → ∀ ps, rdI l = some ps → l = ps.map AV.i
  | _, [], _, ps, h => by cases h; rfl
  | 0, a :: r, hn, ps, h => by simp at hn
  | n + 1, a :: r, hn, ps, h => by
    unfold rdI at h
    split at h
    · rename_i e; cases e
    · rename_i a r' e
      cases hr : rdI r' with
      | none => rw [hr] at h; cases h
      | some qs =>
        rw [hr] at h
        cases h
        rw [e] at hn ⊢
        rw [rdI_eq n r' (by simp at hn; omega) qs hr]
        rfl
    · cases h
theorem rdI_map : ∀ ps : List Int, rdI (ps.map AV.i) = some ps
  | [] => rfl
  | z :: r => by
    show (rdI (r.map AV.i)).map _ = _
    rw [rdI_map r]; rfl
section
variable {φ : Phi} {I : Nat → Prop} {w : World} {lim : Nat} {H : Heap}
theorem frz_none {k : Nat} {C : Array Value} {T : TypeId} (h : w.heap[k]? = some (.cells C T (0, 0))) (o : Nat) : w.frozen? ⟨k, o, none⟩ = false := by
  unfold World.frozen?
  simp [h]
theorem holds_of {L : Am.Loc} {C : Array Value} {T : TypeId} {ps : List Int} (hC : w.heap[L.k]? = some (.cells C T (0, 0))) (hO : CellsOK φ I w C L.base (ps.map AV.i)) : Holds encI w L.k L.base ps.toArray := by
  intro j hj
  have hj' : j < ps.length := by simpa using hj
  refine ⟨?_, frz_none hC _⟩
  obtain ⟨y, e1, e2⟩ := hO.2 j (AV.i ps[j]) (by rw [List.getElem?_map, List.getElem?_eq_getElem hj']; rfl)
  have := den_v e2
  subst this
  unfold World.cell?
  simp only [hC]
  rw [if_neg (by simp), e1]
  simp [hj', encI]
theorem wrote_row [Dn] {blk off m : Nat} {d : Array Int} {C : Array Value} {T : TypeId} (hC : w.heap[blk]? = some (.cells C T (0, 0))) : Wrote w (putRow encI (Sort.ahead w m) blk off d) blk (putCells encI off d C) T where
  new := by
    show (w.heap.modify blk _)[blk]? = _
    rw [Array.getElem?_modify, if_pos rfl, hC]
    rfl
  other := fun i hi => by
    show (w.heap.modify blk _)[i]? = _
    rw [Array.getElem?_modify, if_neg (fun h => hi h.symm)]
  size := by show (w.heap.modify blk _).size = _; simp
  os := rfl
  tape := ⟨rfl, fun _ => Nat.le_add_right _ _⟩
  output := rfl
theorem put_cells {L : Am.Loc} {C : Array Value} {ps : List Int} (hs : L.base + ps.length ≤ C.size) : CellsOK φ I w (putCells encI L.base ps.toArray C) L.base (ps.map AV.i) := by
  refine ⟨by simp [putCells]; omega, fun j x hx => ?_⟩
  have hj : j < ps.length := by
    have := (List.getElem?_eq_some_iff.1 hx).1
    simpa using this
  rw [List.getElem?_map, List.getElem?_eq_getElem hj] at hx
  cases hx
  refine ⟨_, ?_, .v _⟩
  simp only [putCells, Array.getElem?_mapIdx]
  rw [Array.getElem?_eq_getElem (by omega), Option.map_some, if_pos ⟨by omega, by simp; omega⟩, show L.base + j - L.base = j by omega]
  simp [hj, encI]
theorem row_rel [Dn] (hR : Rel lim φ I w H) {b : Nat} {old ps : List Int} (hb : hget H b = some (old.map AV.i)) (hn : ps.length = old.length) {L : Am.Loc} (hL : φ[b]? = some (some L)) (hlim : lim ≤ b) {C : Array Value} {T : TypeId} (hC : w.heap[L.k]? = some (.cells C T (0, 0))) (hS : C.size = L.S) (hO : CellsOK φ I w C L.base (old.map AV.i)) {q : Nat} :
    Rel lim φ I (putRow encI (Sort.ahead w q) L.k L.base ps.toArray) (hset H b (some (ps.map AV.i))) ∧ Ext lim φ I w φ I (putRow encI (Sort.ahead w q) L.k L.base ps.toArray) := by
  have hw := wrote_row (m := q) (off := L.base) (d := ps.toArray) hC
  have h0 := hO.1
  rw [List.length_map] at h0
  exact ⟨write_sound hR hb hL hlim hw (by simp [putCells, hS]) (put_cells (φ := φ) (I := I) (w := w) (by rw [hn]; exact h0)), Wrote.ext hR hb hL hlim hw⟩
theorem row_grow [Dn] {ps : List Int} {blk off q : Nat} {os : Array Obj} {H' : Heap} (h : Rel lim φ I (putRow encI (Sort.ahead w q) blk off ps.toArray) H' ∧ Ext lim φ I w φ I (putRow encI (Sort.ahead w q) blk off ps.toArray)) :
    Rel lim φ I (grow (putRow encI (Sort.ahead w q) blk off ps.toArray) os) H' ∧ Ext lim φ I w φ I (grow (putRow encI (Sort.ahead w q) blk off ps.toArray) os) := by
  obtain ⟨r1, e1⟩ := h
  have hb2 : Bel (putRow encI (Sort.ahead w q) blk off ps.toArray).heap.size (putRow encI (Sort.ahead w q) blk off ps.toArray) (grow (putRow encI (Sort.ahead w q) blk off ps.toArray) os) :=
    ⟨rfl, ⟨rfl, fun _ => Nat.le_refl _⟩, rfl, by show _ ≤ (_ ++ os).size; simp, fun j hj => by show (_ ++ os)[j]? = _; rw [Array.getElem?_append_left hj]⟩
  exact ⟨r1.down hb2, e1.trans ⟨List.prefix_refl _, fun _ h => h, fun k hk _ => hb2.block k hk, fun c M _ hM => hb2.block _ (r1.disj c M hM).2, fun c M hM => .inr ⟨c, M, hM, rfl⟩, hb2.os, hb2.tape, hb2.output, hb2.size⟩⟩
end
def srtL (zs : List Int) : List Int := zs.mergeSort fun x y => decide (x ≤ y)
theorem upTo_le (d : Array Int) : ∀ m, (Lib.compactUpTo d m).length ≤ m
  | 0 => Nat.le_refl _
  | m + 1 => by
    have := upTo_le d m
    rw [Lib.compactUpTo_succ, List.length_append]
    split <;> simp <;> omega
theorem compact_le (zs : List Int) : (Lib.compact zs).length ≤ zs.length := upTo_le _ _
theorem upTo_mem (d : Array Int) : ∀ m, ∀ j, j < m → d[j]! ∈ Lib.compactUpTo d m
  | 0, j, h => by omega
  | m + 1, j, h => by
    rw [Lib.compactUpTo_succ, List.mem_append]
    by_cases hj : j < m
    · exact .inl (upTo_mem d m j hj)
    · obtain rfl : j = m := by omega
      by_cases hk : Lib.keeps d j = true
      · rw [if_pos hk]; exact .inr (by simp)
      · rw [if_neg hk]
        have h0 : ¬ (j = 0 ∨ d[j]! ≠ d[j - 1]!) := fun hh => hk (by unfold Lib.keeps; exact decide_eq_true hh)
        by_cases e : d[j]! = d[j - 1]!
        · rw [e]; exact .inl (upTo_mem d j (j - 1) (by omega))
        · exact absurd (.inr e) h0
theorem mem_compact {zs : List Int} {x : Int} (h : x ∈ zs) : x ∈ Lib.compact zs := by
  obtain ⟨i, hi, rfl⟩ := List.getElem_of_mem h
  have := upTo_mem zs.toArray zs.length i hi
  rw [show zs.toArray[i]! = zs[i] by simp [hi]] at this
  exact this
theorem compact_mem {zs : List Int} {x : Int} (h : x ∈ Lib.compact zs) : x ∈ zs := by
  unfold Lib.compact Lib.compactUpTo at h
  obtain ⟨i, hi, rfl⟩ := List.mem_map.1 h
  have hi2 := List.mem_range.1 (List.mem_filter.1 hi).1
  rw [show zs.toArray[i]! = zs[i] by simp [hi2]]
  exact List.getElem_mem hi2
theorem mem_srtL {zs : List Int} {x : Int} : x ∈ srtL zs ↔ x ∈ zs := (List.mergeSort_perm _ _).mem_iff
def cmpL (zs : List Int) : List Int := Lib.compact zs ++ List.replicate (zs.length - (Lib.compact zs).length) 0
/-- The library's sort of numbers, in memory of the call's own. -/
def sortV : Nat → List AV → Heap → Option (AV × Heap)
  | lim, [.own 1 b 0 n], H =>
    match hget H b with
    | some k =>
      match rdI k with
      | some zs => if lim ≤ b ∧ 1 ≤ n ∧ zs.length = n ∧ n ≤ 100000 then some (.tup [], hset H b (some ((srtL zs).map AV.i))) else none
      | none => none
    | none => none
  | _, _, _ => none
/-- Runs of equal numbers made one, in memory of the call's own; what is left over is zero. -/
def compactV : Nat → List AV → Heap → Option (AV × Heap)
  | lim, [.own 1 b 0 n], H =>
    match hget H b with
    | some k =>
      match rdI k with
      | some zs => if lim ≤ b ∧ 1 ≤ n ∧ zs.length = n ∧ n ≤ 100000 then some (.own 1 b 0 (Lib.compact zs).length, hset H b (some ((cmpL zs).map AV.i))) else none
      | none => none
    | none => none
  | _, _, _ => none
def effF : FuncId → Option (Nat → List AV → Heap → Option (AV × Heap))
  | 20 => some sortV
  | 21 => some compactV
  | _ => none
theorem named20 : Named Try.prog 20 := ⟨Try.f20, Try.func20, by kernel_rfl, by kernel_rfl⟩
theorem named21 : Named Try.prog 21 := ⟨Try.f21, Try.func21, by kernel_rfl, by kernel_rfl⟩
theorem den_nil {φ : Phi} {I : Nat → Prop} {w : World} : Den φ I w (.tup []) (.tuple #[]) := .tup _ _ rfl (fun j x y hx _ => by simp at hx)
theorem srtL_len (zs : List Int) : (srtL zs).length = zs.length := List.length_mergeSort _
theorem cmpL_len (zs : List Int) : (cmpL zs).length = zs.length := by
  have := compact_le zs
  rw [cmpL, List.length_append, List.length_replicate]; omega
theorem own_arg {φ : Phi} {I : Nat → Prop} {w : World} {lim : Nat} {H : Heap} (hR : Rel lim φ I w H) {b n : Nat} {zs : List Int} (hb : hget H b = some (zs.map AV.i)) (hn1 : 1 ≤ n) (hn : zs.length = n) {cs : Array Value} (hD : DL φ I w [.own 1 b 0 n] cs) :
    ∃ (c : Nat) (L : Am.Loc) (C : Array Value) (T : TypeId), cs = #[.slice (some ⟨L.k, L.base, none⟩) n c] ∧ φ[b]? = some (some L) ∧ w.heap[L.k]? = some (.cells C T (0, 0)) ∧ C.size = L.S ∧ CellsOK φ I w C L.base (zs.map AV.i) ∧ n ≤ c ∧ c ≤ maxLen ∧ L.base + c ≤ L.S := by
  obtain ⟨l⟩ := cs
  have hl : l.length = 1 := by simpa using hD.1
  match l, hl, hD with
  | [x], _, hD =>
    have h0 := hD.2 0 _ x rfl rfl
    cases h0 with
    | own0 => omega
    | own _ _ _ _ c off L hL hnc hc ho =>
      have ho2 : off = L.base ∧ off + c * 1 ≤ L.S := by rcases ho with h | h <;> omega
      obtain ⟨rfl, ho3⟩ := ho2
      rcases hR.blk b _ hb with ⟨h2, _⟩ | ⟨L', C, T, h2, hC, hS, hO⟩
      · rw [hL] at h2; cases h2
      · obtain rfl : L = L' := by rw [hL] at h2; cases h2; rfl
        exact ⟨c, L, C, T, rfl, hL, hC, hS, hO, hnc, hc, by omega⟩
theorem eff_ok : ∀ f p, effF f = some p → ∀ lim args H r H', p lim args H = some (r, H') → ∀ (φ : Phi) (I : Nat → Prop) (w : World) (cs : Array Value), Tb w → Rel lim φ I w H → DL φ I w args cs → Calls Try.prog f cs w (CallPost lim φ I w H' r) ∧ Named Try.prog f := by
  intro f p h lim args H r H' hr φ I w cs hT hR hD
  unfold effF at h
  split at h
  · cases h
    unfold sortV at hr
    split at hr
    · split at hr
      · rename_i hb
        split at hr
        · rename_i zs hps
          split at hr
          · rename_i hk
            obtain ⟨h1, h2, h3, h4⟩ := hk
            cases hr
            have hb' := hb
            rw [rdI_eq _ _ (Nat.le_refl _) _ hps] at hb'
            obtain ⟨c, L, C, T, rfl, hL, hC, hS, hO, hnc, hc, hLS⟩ := own_arg hR hb' h2 h3 hD
            refine ⟨?_, named20⟩
            have hcon := AnyG.slices_Sort_int Try.sortI L.k L.base c zs w (holds_of hC hO) (hR.disj _ L hL).2 (by omega)
            rw [h3] at hcon
            refine Calls.mono (show Calls Try.prog 20 _ _ _ from hcon) ?_
            rintro e w' ⟨rfl, q, os, rfl⟩
            obtain ⟨r1, e1⟩ := row_grow (os := os) (row_rel (ps := srtL zs) (q := q) hR hb' (srtL_len zs) hL h1 hC hS hO)
            exact ⟨_, φ, I, rfl, den_nil, r1, e1⟩
          · cases hr
        · cases hr
      · cases hr
    · cases hr
  · cases h
    unfold compactV at hr
    split at hr
    · split at hr
      · rename_i hb
        split at hr
        · rename_i zs hps
          split at hr
          · rename_i hk
            obtain ⟨h1, h2, h3, h4⟩ := hk
            cases hr
            have hb' := hb
            rw [rdI_eq _ _ (Nat.le_refl _) _ hps] at hb'
            obtain ⟨c, L, C, T, rfl, hL, hC, hS, hO, hnc, hc, hLS⟩ := own_arg hR hb' h2 h3 hD
            refine ⟨?_, named21⟩
            have hcon := AnyG.slices_Compact_int Try.compactI L.k L.base c zs w (holds_of hC hO) (by omega) (by omega)
            rw [h3] at hcon
            refine Calls.mono (show Calls Try.prog 21 _ _ _ from hcon) ?_
            rintro e w' ⟨rfl, q, rfl⟩
            have hz : (cmpL zs).toArray = (Lib.compact zs ++ List.replicate (zs.length - (Lib.compact zs).length) 0).toArray := rfl
            obtain ⟨r1, e1⟩ := row_rel (ps := cmpL zs) (q := q) hR hb' (cmpL_len zs) hL h1 hC hS hO
            have hle := compact_le zs
            rw [← h3]
            exact ⟨_, φ, I, rfl, .own _ _ _ _ c L.base L hL (by omega) hc (.inr ⟨by omega, by omega⟩), r1, e1⟩
          · cases hr
        · cases hr
      · cases hr
    · cases hr
  · cases h
end Go.Proofs.Ytkjgmpjnhfmecaa
