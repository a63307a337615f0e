/-
  The overs' allocation: what the program and the reference compute, in plain terms.
-/
import Derived.Test.YtmkalakojfpfgaaTy
set_option linter.unusedVariables false
namespace Go.Proofs.Ytmkalakojfpfgaa
open Go Go.Am

abbrev rowAV (r : List Int) : AV := .sl r.length (r.map AV.i)
abbrev Tb := List (List Int)
abbrev rowsAV (r : Tb) : AV := .sl r.length (r.map rowAV)
abbrev taskC (rows : Tb) (q la : Int) : List AV := [rowsAV rows, AV.i q, AV.i la]
/-- The number of states: multiplied up, left where it is above the limit. -/
def stV (q : Int) : Int → Nat → Int
  | n, 0 => n
  | n, k + 1 => if 200000 < n * (q + 1) then n * (q + 1) else stV q (n * (q + 1)) k
theorem stV_step {q n : Int} {b u : Nat} (hu : u < b) (h : n * (q + 1) ≤ 200000) : stV q (n * (q + 1)) (b - (u + 1)) = stV q n (b - u) := by
  rw [show b - u = (b - (u + 1)) + 1 by omega]
  conv => rhs; unfold stV
  rw [if_neg (by omega)]
theorem stV_out {q n : Int} {b u : Nat} (hu : u < b) (h : 200000 < n * (q + 1)) : stV q n (b - u) = n * (q + 1) := by
  rw [show b - u = (b - (u + 1)) + 1 by omega]
  conv => lhs; unfold stV
  rw [if_pos h]
theorem stV_end {q n : Int} {b : Nat} : stV q n (b - b) = n := by rw [Nat.sub_self]; rfl
theorem stV_pos {q : Int} (hq : 0 ≤ q) : ∀ (k : Nat) (n : Int), 0 < n → 0 < stV q n k
  | 0, n, h => h
  | k + 1, n, h => by
    have : 0 < n * (q + 1) := Int.mul_pos h (by omega)
    unfold stV
    split
    · exact this
    · exact stV_pos hq k _ this
theorem mul_in {n q : Int} (h0 : 0 < n) (h1 : n ≤ 200000) (q0 : 1 ≤ q) (q1 : q ≤ 12) : 0 < n * (q + 1) ∧ n * (q + 1) ≤ 2600000 := by
  have := Int.mul_pos h0 (by omega : 0 < q + 1)
  have h2 : n * (q + 1) ≤ 200000 * 13 := Int.mul_le_mul h1 (by omega) (by omega) (by omega)
  omega
def okC (n : Int) : Prop := 0 ≤ n ∧ n ≤ 1048576
open Classical in
noncomputable def rowE (b : Nat) (l : List Int) : Int := if l.length ≠ b then 1 else if ∀ j, j < l.length → okC (gt l j) then 0 else 2
open Classical in
noncomputable def scanV (b : Nat) : Tb → Int
  | [] => 0
  | l :: r => if rowE b l ≠ 0 then rowE b l else scanV b r
theorem scan_on {b : Nat} {rows : Tb} {u : Nat} (hu : u < rows.length) (h : rowE b (gt rows u) = 0) : scanV b (rows.drop (u + 1)) = scanV b (rows.drop u) := by
  rw [drop_gt rows u hu, scanV, if_neg (by rw [h]; simp)]
theorem scan_bad {b : Nat} {rows : Tb} {u : Nat} (hu : u < rows.length) (h : rowE b (gt rows u) ≠ 0) : scanV b (rows.drop u) = rowE b (gt rows u) := by
  rw [drop_gt rows u hu, scanV, if_pos h]
theorem rowE_len {b : Nat} {l : List Int} (h : l.length ≠ b) : rowE b l = 1 := by rw [rowE, if_pos h]
theorem rowE_bad {b : Nat} {l : List Int} (h : l.length = b) {j : Nat} (hj : j < l.length) (hb : ¬ okC (gt l j)) : rowE b l = 2 := by
  rw [rowE, if_neg (fun hh => hh h), if_neg (fun hh => hb (hh j hj))]
theorem rowE_ok {b : Nat} {l : List Int} (h : l.length = b) (hb : ∀ j, j < l.length → okC (gt l j)) : rowE b l = 0 := by
  rw [rowE, if_neg (fun hh => hh h), if_pos hb]
theorem scan_ok {b : Nat} : ∀ {rows : Tb}, scanV b rows = 0 → ∀ u, u < rows.length → (gt rows u).length = b ∧ ∀ j, j < (gt rows u).length → okC (gt (gt rows u) j)
  | [], _, u, hu => by simp at hu
  | l :: r, h, u, hu => by
    unfold scanV at h
    split at h
    · rename_i h1; exact absurd h h1
    · rename_i h1
      cases u with
      | zero =>
        have h2 : rowE b l = 0 := Classical.not_not.mp h1
        unfold rowE at h2
        split at h2
        · cases h2
        · split at h2
          · rename_i h3 h4; exact ⟨Classical.not_not.mp h3, h4⟩
          · cases h2
      | succ u => exact scan_ok (rows := r) h u (by simpa using hu)

def paramBad (rows : Tb) (q la : Int) : Prop := q < 1 ∨ 12 < q ∨ la < -1 ∨ ((gt rows 0).length : Int) ≤ la
instance (rows : Tb) (q la : Int) : Decidable (paramBad rows q la) := by unfold paramBad; infer_instance
abbrev stN (rows : Tb) (q : Int) : Int := stV q (((gt rows 0).length : Int) + 1) ((gt rows 0).length)
open Classical in
noncomputable def checkS (rows : Tb) (q la : Int) : Int :=
  if rows.length = 0 then 6 else if 12 < rows.length then 9 else if (gt rows 0).length < 1 ∨ 6 < (gt rows 0).length then 9 else
  if scanV ((gt rows 0).length) rows ≠ 0 then scanV ((gt rows 0).length) rows else if paramBad rows q la then 2 else if 200000 < stN rows q then 9 else 0
/-- What a task without an error is. -/
structure Good (rows : Tb) (q la : Int) : Prop where
  some : 0 < rows.length
  most : rows.length ≤ 12
  one : 1 ≤ (gt rows 0).length
  six : (gt rows 0).length ≤ 6
  len : ∀ u, u < rows.length → (gt rows u).length = (gt rows 0).length
  rng : ∀ u, u < rows.length → ∀ j, j < (gt rows u).length → okC (gt (gt rows u) j)
  q1 : 1 ≤ q
  q2 : q ≤ 12
  l1 : -1 ≤ la
  l2 : la < (gt rows 0).length
  st : stN rows q ≤ 200000
theorem good_of {rows : Tb} {q la : Int} (h : checkS rows q la = 0) : Good rows q la := by
  unfold checkS at h
  split at h
  · cases h
  split at h
  · cases h
  split at h
  · cases h
  split at h
  · rename_i h1; exact absurd h h1
  split at h
  · cases h
  split at h
  · cases h
  rename_i h1 h2 h3 h4 h5 h6
  have hs := scan_ok (Classical.not_not.mp h4)
  unfold paramBad at h5
  exact ⟨by omega, by omega, by omega, by omega, fun u hu => (hs u hu).1, fun u hu => (hs u hu).2, by omega, by omega, by omega, by omega, by omega⟩
/-- How often j stands in a list. -/
def cnt (l : List Int) (j : Int) : Int := (l.filter (· == j)).length
theorem cnt_nil (j : Int) : cnt [] j = 0 := rfl
theorem cnt_nn (l : List Int) (j : Int) : 0 ≤ cnt l j := by unfold cnt; omega
theorem cnt_le (l : List Int) (j : Int) : cnt l j ≤ l.length := by
  have := List.length_filter_le (· == j) l
  unfold cnt; omega
theorem take_gt {l : List Int} {i : Nat} (h : i < l.length) : l.take (i + 1) = l.take i ++ [gt l i] := by
  rw [gt_eq l i h, List.take_append_getElem h]
theorem cnt_snoc (l : List Int) (x j : Int) : cnt (l ++ [x]) j = cnt l j + if x = j then 1 else 0 := by
  unfold cnt
  rw [List.filter_append, List.length_append]
  by_cases h : x = j
  · subst h; simp
  · simp [h]
theorem cnt_same (l : List Int) (j : Int) : cnt (l ++ [j]) j = cnt l j + 1 := by rw [cnt_snoc, if_pos rfl]
theorem cnt_other (l : List Int) {x j : Int} (h : x ≠ j) : cnt (l ++ [x]) j = cnt l j := by rw [cnt_snoc, if_neg h]; omega
open Classical in
noncomputable def costL (rows : Tb) (q : Int) (l : List Int) : Nat → Int → Int → List Int → Int × Int
  | i, la, s, [] => (s, 0)
  | i, la, s, j :: r =>
    if j < 0 ∨ ((gt rows 0).length : Int) ≤ j then (0, 2) else if j = la then (0, 8) else if q ≤ cnt (l.take i) j then (0, 9) else costL rows q l (i + 1) j (s + gt (gt rows i) j.toNat) r
theorem costL_rng {rows : Tb} {q : Int} {l : List Int} {i : Nat} {la s : Int} (h : i < l.length) (hb : gt l i < 0 ∨ ((gt rows 0).length : Int) ≤ gt l i) : costL rows q l i la s (l.drop i) = (0, 2) := by
  rw [drop_gt l i h, costL, if_pos hb]
theorem costL_ord {rows : Tb} {q : Int} {l : List Int} {i : Nat} {la s : Int} (h : i < l.length) (hb : ¬ (gt l i < 0 ∨ ((gt rows 0).length : Int) ≤ gt l i)) (h2 : gt l i = la) : costL rows q l i la s (l.drop i) = (0, 8) := by
  rw [drop_gt l i h, costL, if_neg hb, if_pos h2]
theorem costL_lim {rows : Tb} {q : Int} {l : List Int} {i : Nat} {la s : Int} (h : i < l.length) (hb : ¬ (gt l i < 0 ∨ ((gt rows 0).length : Int) ≤ gt l i)) (h2 : gt l i ≠ la) (h3 : q ≤ cnt (l.take i) (gt l i)) : costL rows q l i la s (l.drop i) = (0, 9) := by
  rw [drop_gt l i h, costL, if_neg hb, if_neg h2, if_pos h3]
theorem costL_on {rows : Tb} {q : Int} {l : List Int} {i : Nat} {la s : Int} (h : i < l.length) (hb : ¬ (gt l i < 0 ∨ ((gt rows 0).length : Int) ≤ gt l i)) (h2 : gt l i ≠ la) (h3 : ¬ q ≤ cnt (l.take i) (gt l i)) :
    costL rows q l (i + 1) (gt l i) (s + gt (gt rows i) (gt l i).toNat) (l.drop (i + 1)) = costL rows q l i la s (l.drop i) := by
  conv => rhs; rw [drop_gt l i h, costL, if_neg hb, if_neg h2, if_neg h3]
noncomputable def costV (rows : Tb) (q la : Int) (l : List Int) : Int × Int := if l.length ≠ rows.length then (0, 1) else costL rows q l 0 la 0 l
noncomputable def costS (rows : Tb) (q la : Int) (l : List Int) : Int × Int := if checkS rows q la ≠ 0 then (0, checkS rows q la) else costV rows q la l
noncomputable def statesS (rows : Tb) (q la : Int) : Int × Int := if checkS rows q la ≠ 0 then (0, checkS rows q la) else (stN rows q, 0)
/-- The overs of each bowler, after the first i of an allocation. -/
def cnts (b : Nat) (l : List Int) (i : Nat) : List Int := (List.range b).map fun j : Nat => cnt (l.take i) (j : Int)
theorem cnts_len (b : Nat) (l : List Int) (i : Nat) : (cnts b l i).length = b := by simp [cnts]
theorem cnts_get {b : Nat} {l : List Int} {i : Nat} {j : Int} (h0 : 0 ≤ j) (h1 : j < b) : gt (cnts b l i) j.toNat = cnt (l.take i) j := by
  rw [gt_eq _ _ (by rw [cnts_len]; omega)]
  simp only [cnts, List.getElem_map, List.getElem_range]
  rw [Int.toNat_of_nonneg h0]
theorem cnts_set {b : Nat} {l : List Int} {i : Nat} (hi : i < l.length) (h0 : 0 ≤ gt l i) (h1 : gt l i < b) : (cnts b l i).set (gt l i).toNat (cnt (l.take i) (gt l i) + 1) = cnts b l (i + 1) := by
  refine ext_gt (by rw [List.length_set, cnts_len, cnts_len]) fun k hk => ?_
  rw [List.length_set, cnts_len] at hk
  rw [gt_set _ _ _ _ (by rw [cnts_len]; omega)]
  have e1 := cnts_get (b := b) (l := l) (i := i) (j := (k : Int)) (by omega) (by omega)
  have e2 := cnts_get (b := b) (l := l) (i := i + 1) (j := (k : Int)) (by omega) (by omega)
  rw [Int.toNat_natCast] at e1 e2
  rw [e1, e2, take_gt hi]
  split
  · rename_i hh
    rw [show ((k : Nat) : Int) = gt l i by omega, cnt_same]
  · rename_i hh
    rw [cnt_other _ (by omega)]
theorem cnts_zero (b : Nat) (l : List Int) : cnts b l 0 = List.replicate b 0 := by
  refine ext_gt (by simp [cnts]) fun k hk => ?_
  rw [cnts_len] at hk
  have e1 := cnts_get (b := b) (l := l) (i := 0) (j := (k : Int)) (by omega) (by omega)
  rw [Int.toNat_natCast] at e1
  rw [e1, gt_eq _ _ (by simpa using hk)]
  simp [cnt]
theorem setL_map (l : List Int) (w : Nat) (x : Int) : setL (l.map AV.i) w [AV.i x] = (l.set w x).map AV.i := by
  rw [setL_one, List.map_set]
theorem ms25 (lim : Nat) (H : Heap) (n : Nat) (x y : Operand) (ev : Operand → AV) (hn : n ≤ 1000000) (h : ev x = AV.i n) (h' : ev y = AV.i n) :
    effV Try.prog lim (.makeSlice 25 x y) ev H = some (.own 1 H.length 0 n, H ++ [some ((List.replicate n (0 : Int)).map AV.i)]) := by
  simp only [effV, tk25, ty3, h, h']
  rw [if_pos ⟨rfl, by decide, by omega, by omega, by omega, by omega⟩]
  have key : ∀ k, (List.replicate k ([Value.int .i64 0].map AV.v)).flatten = (List.replicate k (0 : Int)).map AV.i := by
    intro k
    induction k with
    | zero => rfl
    | succ k ih => rw [List.replicate_succ, List.flatten_cons, ih, List.replicate_succ]; rfl
  rw [Int.toNat_natCast, key]
theorem slice25 (n u : Nat) (L : List AV) (h : u ≤ n) : sliceV Try.prog 25 (.sl n L) none (some (AV.i u)) = some (.sl u L) := by
  simp only [sliceV, tk25, ty3, bound, Option.map_none]
  rw [if_pos ⟨by omega, by omega, by omega⟩]
  simp
noncomputable def szS (rows : Tb) (q : Int) : Int := if 200000 < stN rows q then 0 else stN rows q
theorem sz_zero {rows : Tb} {q : Int} (hq : 0 ≤ q) : szS rows q = 0 ↔ 200000 < stN rows q := by
  have := stV_pos hq (gt rows 0).length (((gt rows 0).length : Int) + 1) (by omega)
  unfold szS
  split
  · simp; omega
  · constructor
    · intro h; show 200000 < stV _ _ _; have h' : stV q (((gt rows 0).length : Int) + 1) (gt rows 0).length = 0 := h; omega
    · intro h; omega
theorem sz_ok {rows : Tb} {q : Int} (h : stN rows q ≤ 200000) : szS rows q = stN rows q := by rw [szS, if_neg (by omega)]
end Go.Proofs.Ytmkalakojfpfgaa
