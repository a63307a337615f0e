/-
  The nodes that can be reached, and the ways to them: what the program and the reference compute, in plain terms.
-/
import Derived.Test.YtdicnojnkbmdlaaP
import Derived.Test.YtdicnojnkbmdlaaAmU
set_option linter.unusedVariables false
namespace Go.Proofs.Ytdicnojnkbmdlaa
open Go Go.Am

/-! How an edge is gone: its number + 1, or below 0 if against its direction; 0: none. -/
def ixE (c : Int) : Nat := if 0 < c then (c - 1).toNat else (-c - 1).toNat
def decE (c : Int) : Int := if 0 < c then c - 1 else if c < 0 then -c - 1 else 0
abbrev arcC (c : Int) : List AV := [AV.i (decE c), .v (.bool (decide (c < 0)))]
theorem arc_fwd (u : Nat) : arcC ((u : Int) + 1) = [AV.i u, .v (.bool false)] := by
  simp only [arcC, decE, List.cons.injEq, and_true]
  rw [if_pos (by omega), decide_eq_false (by omega)]
  exact ⟨by congr 2; omega, rfl⟩
theorem arc_back (u : Nat) : arcC (-(u : Int) - 1) = [AV.i u, .v (.bool true)] := by
  simp only [arcC, decE, List.cons.injEq, and_true]
  rw [if_neg (by omega), if_pos (by omega), decide_eq_true (by omega)]
  exact ⟨by congr 2; omega, rfl⟩
def flatA (l : List Int) : List AV := (l.map arcC).flatten
abbrev arcsAV (l : List Int) : AV := .sl l.length (flatA l)
theorem flatA_len (l : List Int) : (flatA l).length = l.length * 2 := by
  induction l with
  | nil => rfl
  | cons s l ih => unfold flatA at ih ⊢; rw [List.map_cons, List.flatten_cons, List.length_append, ih]; simp; omega
theorem flatA_get : ∀ (l : List Int) (u k : Nat), u < l.length → k < 2 → (flatA l)[u * 2 + k]? = (arcC (gt l u))[k]?
  | [], u, k, h, _ => by simp at h
  | s :: l, 0, k, _, hk => by
    unfold flatA
    rw [List.map_cons, List.flatten_cons, Nat.zero_mul, Nat.zero_add, List.getElem?_append_left (by simpa using hk)]
    rfl
  | s :: l, u + 1, k, h, hk => by
    have ih := flatA_get l u k (by simpa using h) hk
    unfold flatA at ih ⊢
    rw [List.map_cons, List.flatten_cons, List.getElem?_append_right (by simp; omega)]
    rw [show (u + 1) * 2 + k - (arcC s).length = u * 2 + k by simp; omega, ih]
    rfl
theorem ld_arc (l : List Int) (u : Nat) (h : u < l.length) : partL { size := 2, bytes := 16, agg := true, k := TyK.struct [(0, 3), (1, 4)], zero := some [.int .i64 0, .bool false] } (flatA l) (u * 2) = some (.agg (arcC (gt l u))) := by
  rw [pl71 _ _ (by rw [flatA_len]; omega)]
  congr 2
  apply List.ext_getElem?
  intro j
  rw [List.getElem?_take, List.getElem?_drop]
  by_cases hj : j < 2
  · rw [if_pos hj, flatA_get l u j h hj]
  · rw [if_neg hj, List.getElem?_eq_none (by simp; omega)]
theorem flatA_set : ∀ (l : List Int) (u : Nat) (c : Int), u < l.length → setL (flatA l) (u * 2) (arcC c) = flatA (l.set u c)
  | [], u, c, h => by simp at h
  | s :: l, 0, c, _ => rfl
  | s :: l, u + 1, c, h => by
    have ih := flatA_set l u c (by simpa using h)
    have e : flatA (s :: l) = AV.i (decE s) :: .v (.bool (decide (s < 0))) :: flatA l := rfl
    have e2 : flatA ((s :: l).set (u + 1) c) = AV.i (decE s) :: .v (.bool (decide (s < 0))) :: flatA (l.set u c) := rfl
    rw [e, e2, ← ih, show (u + 1) * 2 = u * 2 + 1 + 1 by omega]
    rfl
attribute [go_sem] ld_arc

theorem flatA_ren (g : Nat → Nat) (N : Nat) : (flatA (List.replicate N 0)).map (ren g 8) = flatA (List.replicate N 0) := by
  induction N with
  | zero => rfl
  | succ N ih =>
    have e : flatA (List.replicate (N + 1) 0) = arcC 0 ++ flatA (List.replicate N 0) := rfl
    rw [e, List.map_append, ih]
    rfl
structure BS where
  seen : List Bool
  way : List Int
  q : List Int
def pushS (st : BS) (x c : Int) : BS := ⟨st.seen.set x.toNat true, st.way.set x.toNat c, st.q ++ [x]⟩
/-- One edge, from the node v. -/
def stepE (E : List Ed) (f : List Int) (v : Int) (i : Nat) (st : BS) : BS :=
  if (gt E i).b = v then (if gt st.seen (gt E i).a.toNat = false ∧ 0 < gt f i then pushS st (gt E i).a (-(i : Int) - 1) else st)
  else if (gt E i).a = v then (if gt st.seen (gt E i).b.toNat = false ∧ gt f i < (gt E i).c then pushS st (gt E i).b ((i : Int) + 1) else st)
  else st
def scanN (E : List Ed) (f : List Int) (v : Int) (st : BS) : Nat → BS
  | 0 => st
  | u + 1 => stepE E f v u (scanN E f v st u)
def bfs (E : List Ed) (f : List Int) : Nat → BS → BS
  | 0, st => st
  | k + 1, st => match st.q with | [] => st | v :: r => bfs E f k (scanN E f v ⟨st.seen, st.way, r⟩ E.length)
def st0 (n s : Int) : BS := ⟨(List.replicate n.toNat false).set s.toNat true, List.replicate n.toNat 0, [s]⟩
def reachS (n s : Int) (E : List Ed) (f : List Int) : BS := bfs E f n.toNat (st0 n s)
def meas (st : BS) : Nat := st.seen.countP (fun b => !b) + st.q.length
structure SOK (n : Int) (st : BS) : Prop where
  seen : st.seen.length = n.toNat
  way : st.way.length = n.toNat
  q : ∀ x, x ∈ st.q → 0 ≤ x ∧ x < n
theorem push_ok {n : Int} {st : BS} {x c : Int} (so : SOK n st) (h0 : 0 ≤ x) (h1 : x < n) (hs : gt st.seen x.toNat = false) : SOK n (pushS st x c) ∧ meas (pushS st x c) = meas st := by
  refine ⟨⟨by simp [pushS, so.seen], by simp [pushS, so.way], fun y hy => ?_⟩, ?_⟩
  · simp only [pushS, List.mem_append, List.mem_singleton] at hy
    rcases hy with hy | rfl
    · exact so.q y hy
    · exact ⟨h0, h1⟩
  · have hl : x.toNat < st.seen.length := by rw [so.seen]; omega
    have hg : st.seen[x.toNat] = false := by rw [← gt_eq _ _ hl]; exact hs
    have hp : 0 < st.seen.countP (fun b => !b) := List.countP_pos_iff.2 ⟨false, by rw [← hg]; exact List.getElem_mem _, rfl⟩
    simp only [meas, pushS, List.length_append, List.length_cons, List.length_nil]
    rw [List.countP_set hl, hg]
    simp
    omega
theorem step_ok {n s t : Int} {E : List Ed} {f : List Int} (g : GOK n s t E) {v : Int} {u : Nat} (hu : u < E.length) {st : BS} (so : SOK n st) : SOK n (stepE E f v u st) ∧ meas (stepE E f v u st) = meas st := by
  have he := g.ed u hu
  unfold stepE
  split
  · split
    · rename_i h; exact push_ok so (by omega) (by omega) h.1
    · exact ⟨so, rfl⟩
  · split
    · split
      · rename_i h; exact push_ok so (by omega) (by omega) h.1
      · exact ⟨so, rfl⟩
    · exact ⟨so, rfl⟩
theorem scan_ok' {n s t : Int} {E : List Ed} {f : List Int} (g : GOK n s t E) {v : Int} {st : BS} (so : SOK n st) : ∀ u, u ≤ E.length → SOK n (scanN E f v st u) ∧ meas (scanN E f v st u) = meas st
  | 0, _ => ⟨so, rfl⟩
  | u + 1, h => by
    have ih := scan_ok' g so u (by omega) (f := f) (v := v)
    have := step_ok g (f := f) (v := v) (show u < E.length by omega) ih.1
    exact ⟨this.1, this.2.trans ih.2⟩
theorem rep_false (N : Nat) : (List.replicate N false).countP (fun b => !b) = N := by
  induction N with
  | zero => rfl
  | succ N ih => rw [List.replicate_succ, List.countP_cons, ih]; rfl
theorem st0_ok {n s t : Int} {E : List Ed} (g : GOK n s t E) : SOK n (st0 n s) ∧ meas (st0 n s) = n.toNat := by
  have h1 := g.s0
  have h2 := g.s1
  refine ⟨⟨by simp [st0], by simp [st0], fun x hx => ?_⟩, ?_⟩
  · simp only [st0, List.mem_singleton] at hx
    omega
  · have hl : s.toNat < (List.replicate n.toNat false).length := by simp; omega
    simp only [meas, st0]
    rw [List.countP_set hl, rep_false]
    simp
    omega
theorem pop_ok {n : Int} {seen : List Bool} {way : List Int} {v : Int} {r : List Int} (so : SOK n ⟨seen, way, v :: r⟩) : SOK n ⟨seen, way, r⟩ ∧ 0 ≤ v ∧ v < n ∧ meas ⟨seen, way, v :: r⟩ = meas ⟨seen, way, r⟩ + 1 :=
  ⟨⟨so.seen, so.way, fun x hx => so.q x (List.mem_cons_of_mem _ hx)⟩, (so.q v (List.mem_cons_self ..)).1, (so.q v (List.mem_cons_self ..)).2, by simp [meas]; omega⟩
/-- The queue, as a part of a block. -/
theorem q_pop {st : BS} {Q : List Int} {o : Nat} (hd : Q.drop o = st.q) (hl : o + st.q.length = Q.length) (hp : 0 < st.q.length) : st = ⟨st.seen, st.way, gt Q o :: Q.drop (o + 1)⟩ ∧ o < Q.length ∧ (Q.drop (o + 1)).length = Q.length - (o + 1) := by
  have h : o < Q.length := by omega
  refine ⟨?_, h, by simp⟩
  rw [← drop_gt Q o h, hd]
theorem bfs_pop {E : List Ed} {f : List Int} {k : Nat} {seen : List Bool} {way : List Int} {v : Int} {r : List Int} : bfs E f (k + 1) ⟨seen, way, v :: r⟩ = bfs E f k (scanN E f v ⟨seen, way, r⟩ E.length) := rfl
theorem bfs_end {E : List Ed} {f : List Int} {st : BS} (h : st.q.length = 0) : ∀ k, bfs E f k st = st
  | 0 => rfl
  | k + 1 => by
    have : st.q = [] := List.length_eq_zero_iff.1 h
    unfold bfs
    rw [this]
/-- How much more may go. -/
def roomV (E : List Ed) (f : List Int) (e : Int) (back : Bool) : Int := if back then gt f e.toNat else (gt E e.toNat).c - gt f e.toNat
theorem setL_b (l : List Bool) (w : Nat) (x : Bool) : setL (l.map AV.b) w [.v (.bool x)] = (l.set w x).map AV.b := by
  rw [setL_one, List.map_set]
theorem ms28 (lim : Nat) (H : Heap) (n : Int) (x y : Operand) (ev : Operand → AV) (h0 : 0 ≤ n) (hn : n ≤ 1000000) (h : ev x = AV.i n) (h' : ev y = AV.i n) :
    effV Try.prog lim (.makeSlice 28 x y) ev H = some (.own 1 H.length 0 n.toNat, H ++ [some ((List.replicate n.toNat false).map AV.b)]) := by
  simp only [effV, tk28, ty4, h, h']
  rw [if_pos ⟨rfl, by decide, by omega, by omega, by omega, by omega⟩]
  have key : ∀ k, (List.replicate k ([Value.bool false].map AV.v)).flatten = (List.replicate k false).map AV.b := by
    intro k
    induction k with
    | zero => rfl
    | succ k ih => rw [List.replicate_succ, List.flatten_cons, ih, List.replicate_succ]; rfl
  rw [key]
theorem ms40 (lim : Nat) (H : Heap) (n : Int) (x y : Operand) (ev : Operand → AV) (h0 : 0 ≤ n) (hn : n ≤ 1000000) (h : ev x = AV.i n) (h' : ev y = AV.i n) :
    effV Try.prog lim (.makeSlice 40 x y) ev H = some (.own 1 H.length 0 n.toNat, H ++ [some ((List.replicate n.toNat (0 : Int)).map AV.i)]) := by
  simp only [effV, tk40, ty3, h, h']
  rw [if_pos ⟨rfl, by decide, by omega, by omega, by omega, by omega⟩]
  have key : ∀ k, (List.replicate k ([Value.int .i64 0].map AV.v)).flatten = (List.replicate k (0 : Int)).map AV.i := by
    intro k
    induction k with
    | zero => rfl
    | succ k ih => rw [List.replicate_succ, List.flatten_cons, ih, List.replicate_succ]; rfl
  rw [key]
theorem ms67 (lim : Nat) (H : Heap) (n : Int) (x y : Operand) (ev : Operand → AV) (h0 : 0 ≤ n) (hn : n ≤ 1000000) (h : ev x = AV.i n) (h' : ev y = AV.i n) :
    effV Try.prog lim (.makeSlice 67 x y) ev H = some (.own 2 H.length 0 n.toNat, H ++ [some (flatA (List.replicate n.toNat 0))]) := by
  simp only [effV, tk67, ty71, h, h']
  rw [if_pos ⟨rfl, by decide, by omega, by omega, by omega, by omega⟩]
  have key : ∀ k, (List.replicate k ([Value.int .i64 0, Value.bool false].map AV.v)).flatten = flatA (List.replicate k 0) := by
    intro k
    induction k with
    | zero => rfl
    | succ k ih => rw [List.replicate_succ, List.flatten_cons, ih, List.replicate_succ]; rfl
  rw [key]
theorem bs40 (lim : Nat) (H : Heap) (x : Operand) (ev : Operand → AV) (v : Int) (h : ev x = AV.i v) :
    effV Try.prog lim (.buildSlice 40 1 #[(0, x)]) ev H = some (.own 1 H.length 0 1, H ++ [some [AV.i v]]) := by
  simp only [effV, tk40, ty3]
  rw [if_pos ⟨rfl, by decide, by decide⟩]
  simp only [List.map_cons, List.map_nil, h]
  rfl
theorem sl40 (b o m m' : Nat) (h : m = m' + 1) : sliceV Try.prog 40 (.own 1 b o m) (some (AV.i 1)) none = some (.own 1 b (o + 1) m') := by
  simp only [sliceV, tk40, ty3, bound]
  rw [if_pos ⟨trivial, by omega, by omega, by omega⟩]
  simp
  omega
theorem bld71 (u : Int) (b : Bool) : buildV Try.prog 71 [(0, AV.i u), (1, .v (.bool b))] = some (.agg [AV.i u, .v (.bool b)]) := by
  simp only [buildV, ty71, places, ty3, ty4]
  rfl
attribute [go_sem] bld71
theorem frz_ownA {H : Heap} {base d b n : Nat} {l : List Int} (hb : ¬ b < base) (hk : hget H b = some (flatA l)) (hn : n = l.length) : frz H base (d + 2) (.own 2 b 0 n) = arcsAV l := by
  rw [frz_own hb hk, List.drop_zero, hn]
  have : (flatA l).map (frz H base (d + 1)) = flatA l := by
    induction l with
    | nil => rfl
    | cons x l ih =>
      have e : flatA (x :: l) = arcC x ++ flatA l := rfl
      rw [e, List.map_append]
      congr 1
      induction l with
      | nil => rfl
      | cons y r ih2 =>
        have e2 : flatA (y :: r) = arcC y ++ flatA r := rfl
        rw [e2, List.map_append]
        congr 1
        clear ih ih2 e e2 hk hn
        induction r with
        | nil => rfl
        | cons z r ih => exact congrArg (arcC z ++ ·) ih
  rw [this]
/-- What a queue that is not empty gives. -/
theorem q_pop' {n : Int} {k o : Nat} {E : List Ed} {f : List Int} {st R : BS} {Q : List Int} (so : SOK n st) (hk : meas st ≤ k) (hb : bfs E f k st = R) (hd : Q.drop o = st.q) (hl : o + st.q.length = Q.length) (hp : 0 < st.q.length) :
    ∃ k', k = k' + 1 ∧ o < Q.length ∧ st.q.length = (Q.drop (o + 1)).length + 1 ∧ SOK n ⟨st.seen, st.way, Q.drop (o + 1)⟩ ∧ meas ⟨st.seen, st.way, Q.drop (o + 1)⟩ ≤ k' ∧ 0 ≤ gt Q o ∧ gt Q o < n ∧
      bfs E f k' (scanN E f (gt Q o) ⟨st.seen, st.way, Q.drop (o + 1)⟩ E.length) = R := by
  obtain ⟨h1, h2, h3⟩ := q_pop hd hl hp
  obtain ⟨seen, way, q⟩ := st
  simp only at h1 hl hp hd
  injection h1 with _ _ h1
  subst h1
  have p := pop_ok so
  rw [p.2.2.2] at hk
  cases k with
  | zero => omega
  | succ k => exact ⟨k, rfl, h2, rfl, p.1, Nat.le_of_succ_le_succ hk, p.2.1, p.2.2.1, hb⟩
theorem app40 {lim : Nat} {H : Heap} {b o m c : Nat} {Q : List Int} {v : Int} (hq : hget H b = some (Q.map AV.i)) (hc : hget H c = some [AV.i v]) (hl : lim ≤ b) (ho : o + m = Q.length) (hm : m ≤ 1000000) :
    ∃ H', appendV Try.prog lim H 40 (.own 1 b o m) (.own 1 c 0 1) = some (.own 1 H.length 0 (m + 1), H') ∧ MGrew H b H' ((Q.drop o ++ [v]).map AV.i) := by
  refine ⟨_, ?_, MGrew.of _ _ _⟩
  simp only [appendV, tk40, ty3, srcCells, hq, hc]
  rw [if_pos (by simp)]
  simp only [List.length_cons, List.length_nil]
  rw [if_pos ⟨trivial, by decide, rfl⟩]
  simp only [List.drop_zero, Nat.mul_one, List.length_map]
  rw [if_pos ⟨hl, trivial, by omega, by omega, by omega⟩]
  congr 3
  rw [List.take_of_length_le (by simp; omega)]
  simp [List.map_drop]
end Go.Proofs.Ytdicnojnkbmdlaa
