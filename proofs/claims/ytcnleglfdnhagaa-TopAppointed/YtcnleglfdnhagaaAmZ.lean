/-
  What came in, as abstract values: from the reading of an argument to what it denotes.
-/
import Derived.Test.YtcnleglfdnhagaaAmY
import Derived.ProofKit
import Derived.ChangeArms
import Derived.DataReads
namespace Go.Am
open Go
section
variable {H : Type} {enc : TypeId × Value → H} {P : Program} {w : World} {held : Bool}

abbrev In (w : World) : Nat → Prop := fun k => k < w.heap.size

theorem cell_lt {w : World} {a : Addr} {v : Value} (h : w.cell? a = some v) : a.block < w.heap.size := by
  unfold World.cell? at h
  by_cases hb : a.block < w.heap.size
  · exact hb
  · rw [Array.getElem?_eq_none (by omega)] at h
    simp at h

theorem den_slice {α : Type} (f : α → AV) {t e : TypeId} {fuel : Nat} {cs : List Value} {x : DataW H × List MemPlace} (ht : P.underlying t = some (.slice e)) (hc : P.cellsOf e = 1)
    (each : ∀ n cs x, DataW.trod enc P w 0 (fun _ => true) held n e cs = some x → ∃ d v, cs = [v] ∧ Den [] (In w) w (f d) v)
    (h : DataW.trod enc P w 0 (fun _ => true) held fuel t cs = some x) : ∃ (l : List α) (v : Value), cs = [v] ∧ Den [] (In w) w (.sl l.length (l.map f)) v := by
  rcases DataW.trod_slice ht h with ⟨rfl, _⟩ | ⟨a, len, cap, elems, rest, n, _, rfl, _, _, hl, hm, hlen, hel, hsp, _⟩
  · exact ⟨[], _, rfl, .sl0 _ _⟩
  · have get : ∀ i, i < cap → ∃ c d, w.cell? (a.add i) = some c ∧ Den [] (In w) w (f d) c := by
      intro i hi
      have hb : ∃ y, (w.cells? 0 (a.add (i * P.cellsOf e)) (P.cellsOf e)).bind (DataW.trod enc P w 0 (fun _ => true) held n e) = some y := by
        by_cases h1 : i < len
        · exact ⟨elems[i]'(by omega), by rw [hel i h1, List.getElem?_eq_getElem (by omega)]⟩
        · obtain ⟨hr, hrr⟩ := hsp rfl
          have := hrr (i - len) (by omega)
          rw [show len + (i - len) = i by omega] at this
          exact ⟨rest[i - len]'(by omega), by rw [this, List.getElem?_eq_getElem (by omega)]⟩
      obtain ⟨y, hy⟩ := hb
      rw [hc, Nat.mul_one, Option.bind_eq_some_iff] at hy
      obtain ⟨cs', hcs, hy'⟩ := hy
      obtain ⟨d, v, rfl, hd⟩ := each _ _ _ hy'
      have e0 : (a.add i).add 0 = a.add i := by simp [Addr.add]
      unfold World.cells? at hcs
      rw [if_pos (Nat.zero_le _)] at hcs
      simp only [List.range_succ, List.range_zero, List.nil_append, List.mapM_cons, List.mapM_nil, e0] at hcs
      cases hcc : w.cell? (a.add i) with
      | none => simp [hcc] at hcs
      | some c =>
        simp [hcc] at hcs
        exact ⟨c, d, rfl, by rw [hcs]; exact hd⟩
    by_cases h0 : cap = 0
    · subst h0
      have : len = 0 := by omega
      subst this
      exact ⟨[], _, rfl, .sl0 _ _⟩
    · obtain ⟨c0, d0, hc0, _⟩ := get 0 (by omega)
      have hs : a.spot = none := by have := World.cell?_spot hc0; simpa [Addr.add] using this
      have hb : a.block < w.heap.size := by have := cell_lt hc0; simpa [Addr.add] using this
      have ad : ∀ i, a.add i = ⟨a.block, a.off + i, none⟩ := by
        intro i
        obtain ⟨ab, ao, asp⟩ := a
        simp only at hs
        subst hs
        simp only [Addr.add]
        split
        · rename_i hi; rw [hi]; rfl
        · rfl
      have pick : ∀ i, ∃ d : α, i < len → ∃ c, w.cell? (a.add i) = some c ∧ Den [] (In w) w (f d) c := by
        intro i
        by_cases hi : i < len
        · obtain ⟨c, d, h1, h2⟩ := get i (by omega)
          exact ⟨d, fun _ => ⟨c, h1, h2⟩⟩
        · exact ⟨d0, fun h => absurd h hi⟩
      let D : Nat → α := fun i => (pick i).choose
      have hD : ∀ i, i < len → ∃ c, w.cell? (a.add i) = some c ∧ Den [] (In w) w (f (D i)) c := fun i => (pick i).choose_spec
      refine ⟨(List.range len).map D, _, rfl, ?_⟩
      have hlen2 : ((List.range len).map D).length = len := by simp
      rw [hlen2]
      have gx : ∀ (j : Nat) (x : AV), (((List.range len).map D).map f)[j]? = some x → j < len ∧ x = f (D j) := by
        intro j x hx
        simp only [List.map_map, List.getElem?_map, Option.map_eq_some_iff, Function.comp] at hx
        obtain ⟨k, hk, rfl⟩ := hx
        obtain ⟨hj, hk⟩ := List.getElem?_eq_some_iff.1 hk
        simp at hj hk
        subst hk
        exact ⟨hj, rfl⟩
      refine .sl len _ cap a (fun j => (w.cell? (a.add j)).getD undef) hl hm hs hb ?_ ?_
      · intro j x hx
        obtain ⟨hj, _⟩ := gx j x hx
        obtain ⟨c, h1, _⟩ := hD j hj
        rw [← ad j, h1]; rfl
      · intro j x hx
        obtain ⟨hj, rfl⟩ := gx j x hx
        obtain ⟨c, h1, h2⟩ := hD j hj
        rw [h1]; exact h2

theorem den_int {e : TypeId} (he : P.underlying e = some (.int .i64)) : ∀ n cs (x : DataW H × List MemPlace), DataW.trod enc P w 0 (fun _ => true) held n e cs = some x → ∃ d v, cs = [v] ∧ Den [] (In w) w (AV.i d) v := by
  intro n cs x h
  obtain ⟨m, rfl, _, _⟩ := DataW.trod_int he h
  exact ⟨m, _, rfl, .v _⟩
end
end Go.Am
