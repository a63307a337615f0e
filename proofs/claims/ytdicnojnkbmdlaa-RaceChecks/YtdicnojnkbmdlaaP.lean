/-
  Flows in a graph: what the program and the reference compute, in plain terms.
-/
import Derived.Test.YtdicnojnkbmdlaaTy
set_option linter.unusedVariables false
namespace Go.Proofs.Ytdicnojnkbmdlaa
open Go Go.Am

structure Ed where
  a : Int
  b : Int
  c : Int
deriving DecidableEq
instance : Inhabited Ed := ⟨⟨0, 0, 0⟩⟩
abbrev edC (s : Ed) : List AV := [AV.i s.a, AV.i s.b, AV.i s.c]
def flatE (l : List Ed) : List AV := (l.map edC).flatten
abbrev edgesAV (l : List Ed) : AV := .sl l.length (flatE l)
abbrev graphC (n s t : Int) (E : List Ed) : List AV := [AV.i n, AV.i s, AV.i t, edgesAV E]
abbrev intsAV (l : List Int) : AV := .sl l.length (l.map AV.i)
abbrev boolsAV (l : List Bool) : AV := .sl l.length (l.map AV.b)
theorem flat_get : ∀ (l : List Ed) (u k : Nat), u < l.length → k < 3 → (flatE l)[u * 3 + k]? = (edC (gt l u))[k]?
  | [], u, k, h, _ => by simp at h
  | s :: l, 0, k, _, hk => by
    unfold flatE
    rw [List.map_cons, List.flatten_cons, Nat.zero_mul, Nat.zero_add, List.getElem?_append_left (by simpa using hk)]
    rfl
  | s :: l, u + 1, k, h, hk => by
    have ih := flat_get l u k (by simpa using h) hk
    unfold flatE at ih ⊢
    rw [List.map_cons, List.flatten_cons, List.getElem?_append_right (by simp; omega)]
    rw [show (u + 1) * 3 + k - (edC s).length = u * 3 + k by simp; omega, ih]
    rfl
theorem flat_len (l : List Ed) : (flatE l).length = l.length * 3 := by
  induction l with
  | nil => rfl
  | cons s l ih => unfold flatE at ih ⊢; rw [List.map_cons, List.flatten_cons, List.length_append, ih]; simp; omega
theorem flat0 (l : List Ed) (u : Nat) (h : u < l.length) : (flatE l)[u * 3]? = some (AV.i (gt l u).a) := flat_get l u 0 h (by omega)
theorem flat1 (l : List Ed) (u : Nat) (h : u < l.length) : (flatE l)[u * 3 + 1]? = some (AV.i (gt l u).b) := flat_get l u 1 h (by omega)
theorem flat2 (l : List Ed) (u : Nat) (h : u < l.length) : (flatE l)[u * 3 + 2]? = some (AV.i (gt l u).c) := flat_get l u 2 h (by omega)
theorem ld_ed (l : List Ed) (u : Nat) (h : u < l.length) : partL { size := 3, bytes := 24, agg := true, k := TyK.struct [(0, 3), (1, 3), (2, 2)], zero := some [.int .i64 0, .int .i64 0, .int .i64 0] } (flatE l) (u * 3) = some (.agg (edC (gt l u))) := by
  rw [pl66 _ _ (by rw [flat_len]; omega)]
  congr 2
  apply List.ext_getElem?
  intro j
  rw [List.getElem?_take, List.getElem?_drop]
  by_cases hj : j < 3
  · rw [if_pos hj, flat_get l u j h hj]
  · rw [if_neg hj, List.getElem?_eq_none (by simp; omega)]
attribute [go_sem] flat0 flat1 flat2 ld_ed

/-- The first error of some that come in order. -/
def ferr (f : Nat → Int) : Nat → Int
  | 0 => 0
  | n + 1 => if ferr f n ≠ 0 then ferr f n else f n
theorem ferr_at {f : Nat → Int} {u : Nat} (h : ferr f u = 0) (hf : f u ≠ 0) : ∀ n, u < n → ferr f n = f u
  | 0, hn => by omega
  | n + 1, hn => by
    unfold ferr
    by_cases hu : u = n
    · subst hu; rw [if_neg (by omega)]
    · rw [ferr_at h hf n (by omega), if_pos hf]
theorem ferr_ok {f : Nat → Int} {u : Nat} (h : ferr f u = 0) (hf : f u = 0) : ferr f (u + 1) = 0 := by
  unfold ferr
  rw [if_neg (by omega), hf]
theorem ferr_all {f : Nat → Int} : ∀ {n : Nat}, ferr f n = 0 → ∀ i, i < n → f i = 0
  | 0, _, i, hi => by omega
  | n + 1, h, i, hi => by
    unfold ferr at h
    by_cases h0 : ferr f n ≠ 0
    · rw [if_pos h0] at h; omega
    · rw [if_neg h0] at h
      by_cases hn : i = n
      · subst hn; exact h
      · exact ferr_all (Decidable.not_not.mp h0) i (by omega)

def edErr (n : Int) (e : Ed) : Int := if e.a < 0 ∨ n ≤ e.a ∨ e.b < 0 ∨ n ≤ e.b ∨ e.a = e.b then 1 else if e.c < 0 ∨ 1073741824 < e.c then 2 else 0
def gchkS (n s t : Int) (E : List Ed) : Int :=
  if n < 2 ∨ 64 < n then 2 else if s < 0 ∨ n ≤ s ∨ t < 0 ∨ n ≤ t ∨ s = t then 1 else if 600 < E.length then 9 else ferr (fun i => edErr n (gt E i)) E.length
/-- What a graph without an error is. -/
structure GOK (n s t : Int) (E : List Ed) : Prop where
  n2 : 2 ≤ n
  n64 : n ≤ 64
  s0 : 0 ≤ s
  s1 : s < n
  t0 : 0 ≤ t
  t1 : t < n
  st : s ≠ t
  el : E.length ≤ 600
  ed : ∀ i, i < E.length → 0 ≤ (gt E i).a ∧ (gt E i).a < n ∧ 0 ≤ (gt E i).b ∧ (gt E i).b < n ∧ (gt E i).a ≠ (gt E i).b ∧ 0 ≤ (gt E i).c ∧ (gt E i).c ≤ 1073741824
theorem gok_of {n s t : Int} {E : List Ed} (h : gchkS n s t E = 0) : GOK n s t E := by
  unfold gchkS at h
  split at h
  · cases h
  split at h
  · cases h
  split at h
  · cases h
  rename_i h1 h2 h3
  refine ⟨by omega, by omega, by omega, by omega, by omega, by omega, by omega, by omega, fun i hi => ?_⟩
  have := ferr_all h i hi
  simp only [edErr] at this
  split at this
  · cases this
  split at this
  · cases this
  exact ⟨by omega, by omega, by omega, by omega, by omega, by omega, by omega⟩
theorem setL_map (l : List Int) (w : Nat) (x : Int) : setL (l.map AV.i) w [AV.i x] = (l.set w x).map AV.i := by
  rw [setL_one, List.map_set]
theorem ms27 (lim : Nat) (H : Heap) (n : Int) (x y : Operand) (ev : Operand → AV) (h0 : 0 ≤ n) (hn : n ≤ 1000000) (h : ev x = AV.i n) (h' : ev y = AV.i n) :
    effV Try.prog lim (.makeSlice 27 x y) ev H = some (.own 1 H.length 0 n.toNat, H ++ [some ((List.replicate n.toNat (0 : Int)).map AV.i)]) := by
  simp only [effV, tk27, ty2, h, h']
  rw [if_pos ⟨rfl, by decide, by omega, by omega, by omega, by omega⟩]
  have key : ∀ k, (List.replicate k ([Value.int .i64 0].map AV.v)).flatten = (List.replicate k (0 : Int)).map AV.i := by
    intro k
    induction k with
    | zero => rfl
    | succ k ih => rw [List.replicate_succ, List.flatten_cons, ih, List.replicate_succ]; rfl
  rw [key]
theorem hget_at (H : Heap) (a b : Option Blk) (X : Heap) (c : Option Blk) : hget (H ++ [a] ++ [b] ++ X ++ [c]) (H.length + 2 + X.length) = c := by
  have e : H.length + 2 + X.length = (H ++ [a] ++ [b] ++ X).length := by simp; omega
  rw [e, hget, List.getElem?_append_right (Nat.le_refl _), Nat.sub_self]
  rfl
theorem hget_mid (A : Heap) (b : Option Blk) (X : Heap) : hget (A ++ [b] ++ X) A.length = b := by
  simp [hget]
theorem hget_last (A : Heap) (b : Option Blk) : hget (A ++ [b]) A.length = b := by
  simp [hget]
theorem frz_own {H : Heap} {base d z b o n : Nat} {k : Blk} (hb : ¬ b < base) (hk : hget H b = some k) : frz H base (d + 1) (.own z b o n) = .sl n ((k.drop o).map (frz H base d)) := by
  simp [frz, hb, hk]
theorem frz_ints (H : Heap) (b d : Nat) (l : List Int) : (l.map AV.i).map (frz H b (d + 1)) = l.map AV.i := by
  rw [List.map_map]; rfl
theorem frz_bools (H : Heap) (b d : Nat) (l : List Bool) : (l.map AV.b).map (frz H b (d + 1)) = l.map AV.b := by
  rw [List.map_map]; rfl

theorem frz_ownI {H : Heap} {base d b n : Nat} {l : List Int} (hb : ¬ b < base) (hk : hget H b = some (l.map AV.i)) (hn : n = l.length) : frz H base (d + 2) (.own 1 b 0 n) = intsAV l := by
  rw [frz_own hb hk, List.drop_zero, frz_ints, hn]
theorem frz_ownB {H : Heap} {base d b n : Nat} {l : List Bool} (hb : ¬ b < base) (hk : hget H b = some (l.map AV.b)) (hn : n = l.length) : frz H base (d + 2) (.own 1 b 0 n) = boolsAV l := by
  rw [frz_own hb hk, List.drop_zero, frz_bools, hn]

/-- What begins at each node less what ends there, over the first edges. -/
def surp1 (E : List Ed) (f : List Int) (u : Nat) (o : List Int) : List Int := o.set (gt E u).a.toNat (gt o (gt E u).a.toNat + gt f u)
def surp2 (E : List Ed) (f : List Int) (u : Nat) (o : List Int) : List Int := o.set (gt E u).b.toNat (gt o (gt E u).b.toNat - gt f u)
def surpN (N : Nat) (E : List Ed) (f : List Int) : Nat → List Int
  | 0 => List.replicate N 0
  | u + 1 => surp2 E f u (surp1 E f u (surpN N E f u))
theorem surp1_len {E : List Ed} {f : List Int} {u : Nat} {o : List Int} : (surp1 E f u o).length = o.length := by rw [surp1, List.length_set]
theorem surp2_len {E : List Ed} {f : List Int} {u : Nat} {o : List Int} : (surp2 E f u o).length = o.length := by rw [surp2, List.length_set]
theorem surp_len (N : Nat) (E : List Ed) (f : List Int) (u : Nat) : (surpN N E f u).length = N := by
  induction u with
  | zero => simp [surpN]
  | succ u ih => rw [surpN, surp2_len, surp1_len, ih]
theorem gt_rep (N j : Nat) : gt (List.replicate N (0 : Int)) j = 0 := by
  unfold gt
  rw [List.getD_eq_getElem?_getD, List.getElem?_replicate]
  split <;> rfl
theorem surp_rng {n : Int} {E : List Ed} {f : List Int} (he : ∀ i, i < E.length → 0 ≤ (gt E i).a ∧ (gt E i).a < n ∧ 0 ≤ (gt E i).b ∧ (gt E i).b < n) (hf : ∀ i, i < E.length → 0 ≤ gt f i ∧ gt f i ≤ 1073741824) :
    ∀ u, u ≤ E.length → (∀ j, -(1073741824 * (u : Int)) ≤ gt (surpN n.toNat E f u) j ∧ gt (surpN n.toNat E f u) j ≤ 1073741824 * (u : Int))
  | 0, _ => fun j => by rw [surpN, gt_rep]; omega
  | u + 1, h => fun j => by
    have ih := surp_rng he hf u (by omega)
    have h1 := he u (by omega)
    have h2 := hf u (by omega)
    have hl := surp_len n.toNat E f u
    have i1 := ih (gt E u).a.toNat
    have key : ∀ k, -(1073741824 * (u : Int)) ≤ gt (surp1 E f u (surpN n.toNat E f u)) k ∧ gt (surp1 E f u (surpN n.toNat E f u)) k ≤ 1073741824 * (u : Int) + 1073741824 := by
      intro k
      have ik := ih k
      rw [surp1, gt_set _ _ _ _ (by rw [hl]; omega)]
      split <;> omega
    have i2 := key (gt E u).b.toNat
    have i3 := key j
    rw [surpN, surp2, gt_set _ _ _ _ (by rw [surp1_len, hl]; omega)]
    split <;> omega
def fRng (E : List Ed) (f : List Int) : Prop := ∀ i, i < E.length → 0 ≤ gt f i ∧ gt f i ≤ (gt E i).c
def sumBad (s t : Int) (o : List Int) : Prop := ∃ j, j < o.length ∧ gt o j ≠ 0 ∧ (j : Int) ≠ s ∧ (j : Int) ≠ t
abbrev surpS (n : Int) (E : List Ed) (f : List Int) : List Int := surpN n.toNat E f E.length
open Classical in
noncomputable def feasS (n s t : Int) (E : List Ed) (f : List Int) : Int :=
  if gchkS n s t E ≠ 0 then gchkS n s t E else if f.length ≠ E.length then 1 else if ¬ fRng E f then 2 else if sumBad s t (surpS n E f) then 12 else 0
theorem feas_of {n s t : Int} {E : List Ed} {f : List Int} (h : feasS n s t E f = 0) : GOK n s t E ∧ f.length = E.length ∧ fRng E f ∧ ¬ sumBad s t (surpS n E f) := by
  unfold feasS at h
  split at h
  · rename_i h1; exact absurd h h1
  split at h
  · cases h
  split at h
  · cases h
  split at h
  · cases h
  rename_i h1 h2 h3 h4
  exact ⟨gok_of (Classical.not_not.mp h1), Classical.not_not.mp h2, Classical.not_not.mp h3, h4⟩
theorem fRng_cap {n s t : Int} {E : List Ed} {f : List Int} (g : GOK n s t E) (h : fRng E f) : ∀ i, i < E.length → 0 ≤ gt f i ∧ gt f i ≤ 1073741824 := fun i hi => by
  have h1 := h i hi
  have h2 := g.ed i hi
  omega
noncomputable def valueS (n s t : Int) (E : List Ed) (f : List Int) : Int × Int := if feasS n s t E f ≠ 0 then (0, feasS n s t E f) else (gt (surpS n E f) s.toNat, 0)
/-- The capacity of the first edges that a cut severs. -/
def capN (E : List Ed) (cut : List Bool) : Nat → Int
  | 0 => 0
  | u + 1 => capN E cut u + if gt cut (gt E u).a.toNat = true ∧ gt cut (gt E u).b.toNat = false then (gt E u).c else 0
theorem capN_rng {E : List Ed} {cut : List Bool} (ge : ∀ i, i < E.length → 0 ≤ (gt E i).c ∧ (gt E i).c ≤ 1073741824) : ∀ u, u ≤ E.length → 0 ≤ capN E cut u ∧ capN E cut u ≤ 1073741824 * (u : Int)
  | 0, _ => by simp [capN]
  | u + 1, h => by
    have ih := capN_rng (cut := cut) ge u (by omega)
    have := ge u (by omega)
    rw [capN]
    split <;> omega
noncomputable def capS (n s t : Int) (E : List Ed) (cut : List Bool) : Int × Int :=
  if gchkS n s t E ≠ 0 then (0, gchkS n s t E) else if (cut.length : Int) ≠ n ∨ gt cut s.toNat = false ∨ gt cut t.toNat = true then (0, 1) else (capN E cut E.length, 0)
noncomputable def acceptS (n s t : Int) (E : List Ed) (f : List Int) (cut : List Bool) : Int :=
  if (valueS n s t E f).2 ≠ 0 then (valueS n s t E f).2 else if (capS n s t E cut).2 ≠ 0 then (capS n s t E cut).2 else if (valueS n s t E f).1 ≠ (capS n s t E cut).1 then 13 else 0
end Go.Proofs.Ytdicnojnkbmdlaa
