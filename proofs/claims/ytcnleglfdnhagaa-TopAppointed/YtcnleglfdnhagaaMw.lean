/-
  A matching in the machine's memory.
-/
import Derived.Test.YtcnleglfdnhagaaK1
import Derived.Test.YtcnleglfdnhagaaPa
set_option linter.unusedVariables false
set_option linter.unusedSimpArgs false
namespace Go.Proofs.Ytcnleglfdnhagaa
open Go Go.Am
abbrev bv (x : Bool) : AV := .v (.bool x)
/-- Where a matching lies: its struct in block b, its rows, needs and umpires behind it. -/
structure Sta (H : Heap) (b bm bn bu : Nat) (rs : List Nat) (may : List (List Bool)) (n : Nat) (need : List Int) : Prop where
  st : hget H b = some [.own 1 bm 0 may.length, .own 1 bn 0 need.length, .own 1 bu 0 n]
  ms : hget H bm = some (rs.map fun r => AV.own 1 r 0 n)
  rl : rs.length = may.length
  rw : ∀ i, i < may.length → hget H (gt rs i) = some ((gt may i).map bv) ∧ (gt may i).length = n
  nd : hget H bn = some (need.map AV.i)
  ub : bu ≠ b
  um : bu ≠ bm
  un : bu ≠ bn
  ur : ∀ i, i < may.length → gt rs i ≠ bu
/-- A block apart from a matching's. -/
structure Off (c b bm bn bu : Nat) (rs : List Nat) (k : Nat) : Prop where
  b : c ≠ b
  m : c ≠ bm
  n : c ≠ bn
  u : c ≠ bu
  r : ∀ i, i < k → gt rs i ≠ c
theorem Sta.keep {H H' : Heap} {b bm bn bu : Nat} {rs : List Nat} {may : List (List Bool)} {n : Nat} {need : List Int} (h : Sta H b bm bn bu rs may n need) {bs : Nat} (ho : Off bs b bm bn bu rs may.length) (hk : ∀ c, c ≠ bu → c ≠ bs → hget H' c = hget H c) : Sta H' b bm bn bu rs may n need :=
  ⟨(hk b (Ne.symm h.ub) (Ne.symm ho.b)).trans h.st, (hk bm (Ne.symm h.um) (Ne.symm ho.m)).trans h.ms, h.rl, fun i hi => ⟨(hk _ (h.ur i hi) (ho.r i hi)).trans (h.rw i hi).1, (h.rw i hi).2⟩, (hk bn (Ne.symm h.un) (Ne.symm ho.n)).trans h.nd, h.ub, h.um, h.un, h.ur⟩
theorem setm {α : Type} (f : α → AV) (l : List α) (u : Nat) (x : α) (h : u < l.length) : setL (l.map f) u [f x] = (l.set u x).map f := by
  rw [setL_one, List.map_set]
/-- What a search leaves. -/
structure PlW (H H' : Heap) (bu bs : Nat) (r : Bool × List Int × List Bool) : Prop where
  hu : hget H' bu = some (r.2.1.map AV.i)
  hs : hget H' bs = some (r.2.2.map bv)
  keep : ∀ c, c ≠ bu → c ≠ bs → hget H' c = hget H c
  len : H'.length = H.length
structure PlPre (lim : Nat) (H : Heap) (b bm bn bu bs : Nat) (rs : List Nat) (may : List (List Bool)) (n : Nat) (need used : List Int) (seen : List Bool) (m f : Nat) : Prop where
  sta : Sta H b bm bn bu rs may n need
  hu : hget H bu = some (used.map AV.i)
  lu : used.length = n
  hs : hget H bs = some (seen.map bv)
  ls : seen.length = n
  off : Off bs b bm bn bu rs may.length
  ml : m < may.length
  rng : ∀ u, -2 ≤ gt used u ∧ gt used u < may.length
  lb : lim ≤ bu
  lbs : lim ≤ bs
  un : un seen < f
  kl : may.length ≤ 100
  nl : n ≤ 1000
def PlaceW (lim : Nat) (f : Nat) : Prop := ∀ (b bm bn bu bs : Nat) (rs : List Nat) (may : List (List Bool)) (n : Nat) (need used : List Int) (seen : List Bool) (m : Nat) (H : Heap), PlPre lim H b bm bn bu bs rs may n need used seen m f →
  ACall sig lim 23 [.ptr b 0, AV.i (m : Int), .own 1 bs 0 n] H fun r H' => r = bv (placeF may f m used seen).1 ∧ PlW H H' bu bs (placeF may f m used seen)
theorem loopP_skip {pl : Int → List Int → List Bool → Bool × List Int × List Bool} {row : List Bool} {m : Int} {n u : Nat} {used : List Int} {seen : List Bool} (hu : u < n) (h : ¬ (gt row u = true ∧ gt seen u = false ∧ gt used u ≠ -2)) : loopP pl row m (n - u) u used seen = loopP pl row m (n - (u + 1)) (u + 1) used seen := by
  rw [show n - u = (n - (u + 1)) + 1 by omega, loopP, if_neg h]
theorem loopP_free {pl : Int → List Int → List Bool → Bool × List Int × List Bool} {row : List Bool} {m : Int} {n u : Nat} {used : List Int} {seen : List Bool} (hu : u < n) (h : gt row u = true ∧ gt seen u = false ∧ gt used u ≠ -2) (h1 : gt used u = -1) : loopP pl row m (n - u) u used seen = (true, used.set u m, seen.set u true) := by
  rw [show n - u = (n - (u + 1)) + 1 by omega, loopP, if_pos h, if_pos h1]
theorem loopP_yes {pl : Int → List Int → List Bool → Bool × List Int × List Bool} {row : List Bool} {m : Int} {n u : Nat} {used : List Int} {seen : List Bool} (hu : u < n) (h : gt row u = true ∧ gt seen u = false ∧ gt used u ≠ -2) (h1 : ¬ gt used u = -1) (h2 : (pl (gt used u) used (seen.set u true)).1 = true) : loopP pl row m (n - u) u used seen = (true, (pl (gt used u) used (seen.set u true)).2.1.set u m, (pl (gt used u) used (seen.set u true)).2.2) := by
  rw [show n - u = (n - (u + 1)) + 1 by omega, loopP, if_pos h, if_neg h1]
  simp only []
  rw [if_pos h2]
theorem loopP_no {pl : Int → List Int → List Bool → Bool × List Int × List Bool} {row : List Bool} {m : Int} {n u : Nat} {used : List Int} {seen : List Bool} (hu : u < n) (h : gt row u = true ∧ gt seen u = false ∧ gt used u ≠ -2) (h1 : ¬ gt used u = -1) (h2 : (pl (gt used u) used (seen.set u true)).1 = false) : loopP pl row m (n - u) u used seen = loopP pl row m (n - (u + 1)) (u + 1) (pl (gt used u) used (seen.set u true)).2.1 (pl (gt used u) used (seen.set u true)).2.2 := by
  rw [show n - u = (n - (u + 1)) + 1 by omega, loopP, if_pos h, if_neg h1]
  simp only []
  rw [if_neg (by rw [h2]; decide)]
theorem loopP_end {pl : Int → List Int → List Bool → Bool × List Int × List Bool} {row : List Bool} {m : Int} {n u : Nat} {used : List Int} {seen : List Bool} (hu : ¬ u < n) : loopP pl row m (n - u) u used seen = (false, used, seen) := by
  rw [show n - u = 0 by omega, loopP]
end Go.Proofs.Ytcnleglfdnhagaa
