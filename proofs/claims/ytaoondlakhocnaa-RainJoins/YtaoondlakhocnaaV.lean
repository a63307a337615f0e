/-
  One more interruption at the end: memory that is appended to, and what is left. Plain lemmas.
-/
import Derived.Test.YtaoondlakhocnaaB
import Derived.Test.YtaoondlakhocnaaAmU
set_option linter.unusedVariables false
namespace Go.Proofs.Ytaoondlakhocnaa
open Go Go.Am

theorem flatS_app (l : List Stp) (s : Stp) : flatS (l ++ [s]) = flatS l ++ stC s := by
  unfold flatS
  rw [List.map_append, List.flatten_append]
  simp
theorem flatS_st (l : List Stp) : (flatS l).all storable = true := by
  induction l with
  | nil => rfl
  | cons s l ih =>
    have e : flatS (s :: l) = stC s ++ flatS l := rfl
    rw [e, List.all_append, ih]; rfl
theorem ren_flat (f : Nat → Nat) (l : List Stp) : (flatS l).map (ren f 8) = flatS l := by
  unfold flatS
  rw [List.map_flatten, List.map_map]
  congr 1
theorem bs25e (lim : Nat) (H : Heap) (ev : Operand → AV) : effV Try.prog lim (.buildSlice 25 0 #[]) ev H = some (.own 3 H.length 0 0, H ++ [some []]) := by
  simp only [effV, tk25, ty56]
  rw [if_pos ⟨rfl, by decide, by decide⟩]
  rfl
theorem bs25 (lim : Nat) (H : Heap) (x : Operand) (ev : Operand → AV) (s : Stp) (h : ev x = .agg (stC s)) :
    effV Try.prog lim (.buildSlice 25 1 #[(0, x)]) ev H = some (.own 3 H.length 0 1, H ++ [some (stC s)]) := by
  simp only [effV, tk25, ty56]
  rw [if_pos ⟨rfl, by decide, by decide⟩]
  simp only [List.map_cons, List.map_nil, h]
  rfl
theorem app25e {lim : Nat} {H : Heap} {b : Nat} {l : List Stp} (hb : hget H b = some []) (hl : lim ≤ b) (hm : l.length ≤ 1000000) :
    appendV Try.prog lim H 25 (.own 3 b 0 0) (stopsAV l) = some (.own 3 H.length 0 l.length, hset H b none ++ [some (flatS l)]) := by
  simp only [appendV, tk25, ty56, srcCells, hb]
  rw [if_pos (by rw [flat_len]; omega)]
  simp only
  rw [if_pos ⟨rfl, by decide, by rw [List.take_of_length_le (by rw [flat_len]; omega)]; exact flatS_st l⟩]
  simp only [List.drop_nil, List.take_nil, List.nil_append, Nat.zero_add]
  rw [if_pos ⟨hl, trivial, by simp, by omega, by omega⟩, List.take_of_length_le (by rw [flat_len]; omega)]
theorem app25s {lim : Nat} {H : Heap} {b c : Nat} {l : List Stp} {s : Stp} (hb : hget H b = some (flatS l)) (hc : hget H c = some (stC s)) (hl : lim ≤ b) (hm : l.length ≤ 1000000) :
    appendV Try.prog lim H 25 (.own 3 b 0 l.length) (.own 3 c 0 1) = some (.own 3 H.length 0 (l.length + 1), hset H b none ++ [some (flatS (l ++ [s]))]) := by
  simp only [appendV, tk25, ty56, srcCells, hb, hc]
  rw [if_pos (by simp)]
  simp only [List.length_cons, List.length_nil]
  rw [if_pos ⟨trivial, by decide, rfl⟩]
  simp only [List.drop_zero, flat_len]
  rw [if_pos ⟨hl, trivial, by omega, by omega, by omega⟩]
  rw [List.take_of_length_le (by rw [flat_len]; omega), flatS_app]
  rfl
theorem frz_own3 {H : Heap} {b n d : Nat} {l : List Stp} (hb : hget H b = some (flatS l)) (hn : n = l.length) : frz H 0 (d + 2) (.own 3 b 0 n) = stopsAV l := by
  subst hn
  have h0 : ¬ b < 0 := by omega
  simp only [frz, if_neg h0, hb, List.drop_zero]
  congr 1
  unfold flatS
  rw [List.map_flatten, List.map_map]
  congr 1
theorem keep_all {l : List Nat} {n : Nat} {H : Heap} (h : ∀ i, i < H.length → i < n ∨ (i - n) ∈ l) : keepOnly l n H = H := by
  unfold keepOnly
  apply List.ext_getElem?
  intro i
  rw [List.getElem?_mapIdx]
  by_cases hi : i < H.length
  · rw [List.getElem?_eq_getElem hi, Option.map_some, if_pos (h i hi)]
  · rw [List.getElem?_eq_none (by omega)]; rfl
theorem ren_rows (f : Nat → Nat) (d : Nat) (rows : Tb) : ren f (d + 3) (rowsAV rows) = rowsAV rows := by
  show AV.sl rows.length ((rows.map rowAV).map (ren f (d + 2))) = _
  rw [List.map_map]
  congr 1
  apply List.map_congr_left
  intro r _
  show AV.sl r.length ((r.map AV.i).map (ren f (d + 1))) = _
  rw [List.map_map]
  rfl
theorem ren_stops (f : Nat → Nat) (d : Nat) (l : List Stp) : ren f (d + 2) (stopsAV l) = stopsAV l := by
  show AV.sl l.length ((flatS l).map (ren f (d + 1))) = _
  congr 1
  unfold flatS
  rw [List.map_flatten, List.map_map]
  congr 1
theorem ren_ch (f : Nat → Nat) (rows : Tb) (a b c d : Int) (l m : List Stp) : [rowsAV rows, AV.i a, AV.i b, AV.i c, AV.i d, stopsAV l, stopsAV m].map (ren f 8) = [rowsAV rows, AV.i a, AV.i b, AV.i c, AV.i d, stopsAV l, stopsAV m] := by
  show [ren f 8 (rowsAV rows), AV.i a, AV.i b, AV.i c, AV.i d, ren f 8 (stopsAV l), ren f 8 (stopsAV m)] = _
  rw [ren_rows, ren_stops, ren_stops]
theorem ren_ch7 (f : Nat → Nat) (rows : Tb) (a b c d : Int) (l m : List Stp) : [rowsAV rows, AV.i a, AV.i b, AV.i c, AV.i d, stopsAV l, stopsAV m].map (ren f 7) = [rowsAV rows, AV.i a, AV.i b, AV.i c, AV.i d, stopsAV l, stopsAV m] := by
  show [ren f 7 (rowsAV rows), AV.i a, AV.i b, AV.i c, AV.i d, ren f 7 (stopsAV l), ren f 7 (stopsAV m)] = _
  rw [ren_rows, ren_stops, ren_stops]
theorem gt_app (l : List Stp) (s : Stp) (k : Nat) (h : k < l.length) : gt (l ++ [s]) k = gt l k := by
  simp [gt, List.getD_eq_getElem?_getD, List.getElem?_append_left h]
theorem lsum_app {rows : Tb} {per : Int} {l : List Stp} {s : Stp} : ∀ n, n ≤ l.length → lsum rows per (l ++ [s]) n = lsum rows per l n
  | 0, _ => rfl
  | n + 1, h => by rw [lsum, lsum, lsum_app n (by omega), gt_app l s n (by omega)]
/-- With one more interruption no more is left. -/
theorem left_more {rows : Tb} {per balls : Int} {l : List Stp} {s : Stp} (h : (leftS rows per balls l).2 = 0) (h' : (leftS rows per balls (l ++ [s])).2 = 0) : (leftS rows per balls (l ++ [s])).1 ≤ (leftS rows per balls l).1 := by
  obtain ⟨c, e⟩ := left_zero h
  obtain ⟨c', e'⟩ := left_zero h'
  have hlen : (l ++ [s]).length = l.length + 1 := by simp
  have hp := c'.lost_pos (i := l.length) (by omega)
  rw [e, e', hlen]
  show _ - lsum rows per (l ++ [s]) (l.length + 1) ≤ _ - _
  rw [lsum, lsum_app l.length (Nat.le_refl _)]
  omega
end Go.Proofs.Ytaoondlakhocnaa
