/-
  Tables in the call's own memory: what they are, and how appending builds them.
-/
import Derived.Test.YtdkhgpdojjdadaaWA
set_option linter.unusedVariables false
namespace Go.Proofs.Ytdkhgpdojjdadaa
open Go Go.Am

structure Tab (lim : Nat) (H : Heap) (b : Nat) (bs : Nat → Nat) (l : List (List Int)) : Prop where
  outer : hget H b = some ((List.range l.length).map fun i => AV.own 1 (bs i) 0 (gt l i).length)
  row : ∀ i, i < l.length → hget H (bs i) = some ((gt l i).map AV.i)
  inj : ∀ i j, i < l.length → j < l.length → bs i = bs j → i = j
  ne : ∀ i, i < l.length → bs i ≠ b
  lowB : lim ≤ b
  low : ∀ i, i < l.length → lim ≤ bs i

def OutT (lim : Nat) (H : Heap) (o : AV) (l : List (List Int)) : Prop :=
  (l = [] ∧ o = .v (.slice none 0 0)) ∨ ∃ b bs, o = .own 1 b 0 l.length ∧ Tab lim H b bs l

theorem gt_range (n i : Nat) (h : i < n) : gt (List.range n) i = i := by rw [gt_eq _ _ (by simpa using h)]; simp
theorem hget_set (H : Heap) (b k : Nat) (x : Option Blk) (h : k ≠ b) : hget (hset H b x) k = hget H k := by
  simp only [hget, hset, List.getElem?_set]
  rw [if_neg (fun hh => h hh.symm)]
theorem hget_set_self (H : Heap) (b : Nat) (x : Option Blk) (h : b < H.length) : hget (hset H b x) b = x := by
  simp only [hget, hset, List.getElem?_set]
  simp [h]
theorem hset_len (H : Heap) (b : Nat) (x : Option Blk) : (hset H b x).length = H.length := by simp [hset]
theorem storable_ints (r : List Int) : (r.map AV.i).all storable = true := by
  induction r with
  | nil => rfl
  | cons a r ih => simp only [List.map_cons, List.all_cons, ih, Bool.and_true]; rfl

theorem app37 (lim : Nat) (H : Heap) (r : List Int) (h : r.length ≤ 1000000) :
    appendV Try.prog lim H 37 (.v (.slice none 0 0)) (rowAV r) = some (.own 1 H.length 0 r.length, H ++ [some (r.map AV.i)]) := by
  simp only [appendV, tk37, ty2, srcCells, List.length_map, Nat.mul_one, Nat.le_refl, if_true]
  rw [show List.take r.length (r.map AV.i) = r.map AV.i from List.take_of_length_le (by simp)]
  rw [if_pos ⟨rfl, by decide, storable_ints r⟩, if_pos ⟨by omega, by omega⟩]
theorem bs22 (lim : Nat) (H : Heap) (x : Operand) (ev : Operand → AV) (z b o n : Nat) (h : ev x = .own z b o n) :
    effV Try.prog lim (.buildSlice 22 1 #[(0, x)]) ev H = some (.own 1 H.length 0 1, H ++ [some [AV.own z b o n]]) := by
  simp only [effV, tk22, ty37, List.map_cons, List.map_nil, h]
  rfl

theorem hget_two (A B C : Heap) (x y : Option Blk) : hget (A ++ [x] ++ [y]) A.length = x := by
  rw [hget_low _ _ _ (by simp), hget_app]; rfl
theorem gt_app_l {α : Type} [Inhabited α] (l m : List α) (i : Nat) (h : i < l.length) : gt (l ++ m) i = gt l i := by
  simp [gt, List.getD_eq_getElem?_getD, List.getElem?_append_left h]
theorem gt_app_e {α : Type} [Inhabited α] (l : List α) (x : α) : gt (l ++ [x]) l.length = x := by
  simp [gt, List.getD_eq_getElem?_getD]

theorem out_append {lim : Nat} {A X : Heap} (hl : lim ≤ A.length) {o : AV} {l : List (List Int)} (r : List Int) (hO : OutT A.length (A ++ X) o l) (hn : l.length ≤ 100000) :
    ∃ o' X', appendV Try.prog lim (A ++ X ++ [some (r.map AV.i)] ++ [some [AV.own 1 (A ++ X).length 0 r.length]]) 22 o (.own 1 (A ++ X ++ [some (r.map AV.i)]).length 0 1) = some (o', A ++ X') ∧ OutT A.length (A ++ X') o' (l ++ [r]) := by
  have hsrc : srcCells (A ++ X ++ [some (r.map AV.i)] ++ [some [AV.own 1 (A ++ X).length 0 r.length]]) 1 (.own 1 (A ++ X ++ [some (r.map AV.i)]).length 0 1) = some (1, [AV.own 1 (A ++ X).length 0 r.length]) := by
    simp only [srcCells, hget_app]; rfl
  rcases hO with ⟨hl0, ho⟩ | ⟨b, bs, ho, T⟩
  · subst hl0; subst ho
    refine ⟨.own 1 (A ++ X ++ [some (r.map AV.i)] ++ [some [AV.own 1 (A ++ X).length 0 r.length]]).length 0 1, X ++ [some (r.map AV.i)] ++ [some [AV.own 1 (A ++ X).length 0 r.length]] ++ [some [AV.own 1 (A ++ X).length 0 r.length]], ?_, Or.inr ⟨_, fun _ => (A ++ X).length, rfl, ?_⟩⟩
    · simp only [appendV, tk22, ty37, hsrc]
      rw [if_pos ⟨rfl, by decide, rfl⟩, if_pos ⟨by omega, by omega⟩]
      simp
    · have e : A ++ (X ++ [some (r.map AV.i)] ++ [some [AV.own 1 (A ++ X).length 0 r.length]] ++ [some [AV.own 1 (A ++ X).length 0 r.length]]) = A ++ X ++ [some (r.map AV.i)] ++ [some [AV.own 1 (A ++ X).length 0 r.length]] ++ [some [AV.own 1 (A ++ X).length 0 r.length]] := by simp
      rw [e]
      refine ⟨?_, ?_, ?_, ?_, ?_, ?_⟩
      · rw [hget_app]; rfl
      · intro i hi
        have : i = 0 := by simp at hi; omega
        subst this
        rw [hget_low _ _ _ (by simp only [List.length_append, List.length_cons, List.length_nil]; omega), hget_low _ _ _ (by simp only [List.length_append, List.length_cons, List.length_nil]; omega), hget_app]; rfl
      · intro i j hi hj _; simp only [List.nil_append, List.length_cons, List.length_nil] at hi hj; omega
      · intro i hi; simp only [List.length_append, List.length_cons, List.length_nil]; omega
      · simp only [List.length_append, List.length_cons, List.length_nil]; omega
      · intro i hi; simp only [List.length_append]; omega
  · subst ho
    obtain ⟨h1, h2, h3, h4, h5, h6⟩ := T
    have hb := hget_lt h1
    have hrow : ∀ i, i < l.length → bs i < (A ++ X).length := fun i hi => hget_lt (h2 i hi)
    have hk : hget (A ++ X ++ [some (r.map AV.i)] ++ [some [AV.own 1 (A ++ X).length 0 r.length]]) b = some ((List.range l.length).map fun i => AV.own 1 (bs i) 0 (gt l i).length) := by
      rw [hget_low _ _ _ (by simp at hb ⊢; omega), hget_low _ _ _ hb, h1]
    have hlen : ((l ++ [r]).length) = l.length + 1 := by simp
    refine ⟨.own 1 (A ++ X ++ [some (r.map AV.i)] ++ [some [AV.own 1 (A ++ X).length 0 r.length]]).length 0 (l.length + 1),
      X.set (b - A.length) none ++ [some (r.map AV.i)] ++ [some [AV.own 1 (A ++ X).length 0 r.length]] ++ [some ((List.range l.length).map (fun i => AV.own 1 (bs i) 0 (gt l i).length) ++ [AV.own 1 (A ++ X).length 0 r.length])], ?_,
      Or.inr ⟨(A ++ X ++ [some (r.map AV.i)] ++ [some [AV.own 1 (A ++ X).length 0 r.length]]).length, fun i => if i < l.length then bs i else (A ++ X).length, by rw [hlen], ?_⟩⟩
    · simp only [appendV, tk22, ty37, hsrc, hk]
      rw [if_pos ⟨rfl, by decide, rfl⟩, if_pos ⟨by omega, trivial, by simp, by omega, by omega⟩]
      have : hset (A ++ X ++ [some (r.map AV.i)] ++ [some [AV.own 1 (A ++ X).length 0 r.length]]) b none = A ++ (X.set (b - A.length) none ++ [some (r.map AV.i)] ++ [some [AV.own 1 (A ++ X).length 0 r.length]]) := by
        rw [hset_low _ _ _ _ (by simp at hb ⊢; omega), hset_low _ _ _ _ hb, hset, List.set_append_right _ _ h5]
        simp
      rw [this]
      simp only [List.drop_zero, Nat.mul_one]
      rw [show List.take l.length ((List.range l.length).map fun i => AV.own 1 (bs i) 0 (gt l i).length) = (List.range l.length).map fun i => AV.own 1 (bs i) 0 (gt l i).length from List.take_of_length_le (by simp)]
      simp
    · have e : A ++ (X.set (b - A.length) none ++ [some (r.map AV.i)] ++ [some [AV.own 1 (A ++ X).length 0 r.length]] ++ [some ((List.range l.length).map (fun i => AV.own 1 (bs i) 0 (gt l i).length) ++ [AV.own 1 (A ++ X).length 0 r.length])])
          = hset (A ++ X) b none ++ [some (r.map AV.i)] ++ [some [AV.own 1 (A ++ X).length 0 r.length]] ++ [some ((List.range l.length).map (fun i => AV.own 1 (bs i) 0 (gt l i).length) ++ [AV.own 1 (A ++ X).length 0 r.length])] := by
        rw [hset, List.set_append_right _ _ h5]; simp
      rw [e]
      have hL : (A ++ X ++ [some (r.map AV.i)] ++ [some [AV.own 1 (A ++ X).length 0 r.length]]).length = (hset (A ++ X) b none ++ [some (r.map AV.i)] ++ [some [AV.own 1 (A ++ X).length 0 r.length]]).length := by
        simp only [List.length_append, List.length_cons, List.length_nil, hset_len]
      rw [hL]
      have hL0 : (hset (A ++ X) b none).length = A.length + X.length := by rw [hset_len, List.length_append]
      have hrow : ∀ i, i < l.length → bs i < A.length + X.length := fun i hi => by have := hrow i hi; rwa [List.length_append] at this
      have hD : (A ++ X).length = A.length + X.length := List.length_append
      have hl2 : (hset (A ++ X) b none ++ [some (r.map AV.i)] ++ [some [AV.own 1 (A ++ X).length 0 r.length]]).length = A.length + X.length + 2 := by
        simp only [List.length_append, List.length_cons, List.length_nil, hset_len]
      refine ⟨?_, ?_, ?_, ?_, ?_, ?_⟩
      · rw [hget_app, hlen, List.range_succ]
        simp only [List.map_append, List.map_cons, List.map_nil, List.getElem?_cons_zero, Option.join_some, Nat.lt_irrefl, if_false]
        congr 2
        · apply List.map_congr_left
          intro i hi
          have hi' := List.mem_range.mp hi
          rw [if_pos hi', gt_app_l _ _ _ hi']
        · rw [gt_app_e]
      · intro i hi
        rw [hlen] at hi
        by_cases hi' : i < l.length
        · rw [if_pos hi', gt_app_l _ _ _ hi']
          have hr := hrow i hi'
          rw [hget_low _ _ _ (by rw [hl2]; omega), hget_low _ _ _ (by rw [List.length_append, hL0]; omega), hget_low _ _ _ (by rw [hL0]; exact hr), hget_set _ _ _ _ (h4 i hi'), h2 i hi']
        · have : i = l.length := by omega
          subst this
          rw [if_neg hi', gt_app_e, hget_low _ _ _ (by rw [hl2, hD]; omega), hD, ← hL0, hget_two _ [] []]
      · intro i j hi hj
        rw [hlen] at hi hj
        by_cases hi' : i < l.length <;> by_cases hj' : j < l.length
        · rw [if_pos hi', if_pos hj']; exact h3 i j hi' hj'
        · rw [if_pos hi', if_neg hj', hD]; have := hrow i hi'; omega
        · rw [if_neg hi', if_pos hj', hD]; have := hrow j hj'; omega
        · intro _; omega
      · intro i hi
        rw [hl2]
        by_cases hi' : i < l.length
        · rw [if_pos hi']; have := hrow i hi'; omega
        · rw [if_neg hi', hD]; omega
      · rw [hl2]; omega
      · intro i hi
        by_cases hi' : i < l.length
        · rw [if_pos hi']; exact h6 i hi'
        · rw [if_neg hi', hD]; omega
end Go.Proofs.Ytdkhgpdojjdadaa
