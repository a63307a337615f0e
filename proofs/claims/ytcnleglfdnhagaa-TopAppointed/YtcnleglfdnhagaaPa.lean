/-
  Duties and umpires as cells; names; the errors of what comes in. Plain definitions and lemmas.
-/
import Derived.Test.YtcnleglfdnhagaaTy
import Derived.Test.YtcnleglfdnhagaaAmU
import Derived.Laws.Strings
set_option linter.unusedVariables false
set_option linter.unusedSimpArgs false
namespace Go.Proofs.Ytcnleglfdnhagaa
open Go Go.Am
theorem cut_of {F : List AV} {C : List AV} {z o : Nat} (hC : C.length = z) (h : ∀ k, k < z → F[o + k]? = C[k]?) : (F.drop o).take z = C := by
  apply List.ext_getElem?
  intro j
  rw [List.getElem?_take, List.getElem?_drop]
  by_cases hj : j < z
  · rw [if_pos hj, h j hj]
  · rw [if_neg hj, List.getElem?_eq_none (by omega)]
/-- Rows of records of z cells. -/
theorem rec_len {α : Type} {f : α → List AV} {z : Nat} (hf : ∀ d, (f d).length = z) (l : List α) : (l.map f).flatten.length = l.length * z := by
  induction l with
  | nil => simp
  | cons s l ih => rw [List.map_cons, List.flatten_cons, List.length_append, ih, hf, List.length_cons, Nat.add_mul]; omega
theorem rec_get {α : Type} [Inhabited α] {f : α → List AV} {z : Nat} (hf : ∀ d, (f d).length = z) : ∀ (l : List α) (u k : Nat), u < l.length → k < z → (l.map f).flatten[u * z + k]? = (f (gt l u))[k]?
  | [], u, k, h, _ => by simp at h
  | s :: l, 0, k, _, hk => by
    rw [List.map_cons, List.flatten_cons, Nat.zero_mul, Nat.zero_add, List.getElem?_append_left (by rw [hf]; exact hk)]
    rfl
  | s :: l, u + 1, k, h, hk => by
    have ih := rec_get hf l u k (by simpa using h) hk
    rw [List.map_cons, List.flatten_cons, List.getElem?_append_right (by rw [hf, Nat.add_mul]; omega)]
    rw [show (u + 1) * z + k - (f s).length = u * z + k by rw [hf, Nat.add_mul]; omega, ih]
    rfl
theorem rec_cut {α : Type} [Inhabited α] {f : α → List AV} {z : Nat} (hf : ∀ d, (f d).length = z) (l : List α) (u : Nat) (h : u < l.length) : (((l.map f).flatten).drop (u * z)).take z = f (gt l u) :=
  cut_of (hf _) fun k hk => rec_get hf l u k h hk

structure Du where
  mt : Int
  dy : Int
  ho : ByteArray
  aw : ByteArray
instance : Inhabited Du := ⟨⟨0, 0, ⟨#[]⟩, ⟨#[]⟩⟩⟩
abbrev duC (x : Du) : List AV := [AV.i x.mt, AV.i x.dy, .v (.string x.ho), .v (.string x.aw)]
def flatD (l : List Du) : List AV := (l.map duC).flatten
abbrev dusAV (l : List Du) : AV := .sl l.length (flatD l)
theorem flatD_len (l : List Du) : (flatD l).length = l.length * 4 := rec_len (f := duC) (z := 4) (fun _ => rfl) l
theorem flatD0 (l : List Du) (u : Nat) (h : u < l.length) : (flatD l)[u * 4]? = some (AV.i (gt l u).mt) := rec_get (f := duC) (z := 4) (fun _ => rfl) l u 0 h (by omega)
theorem ld_du (l : List Du) (u : Nat) (h : u < l.length) : partL { size := 4, bytes := 48, agg := true, k := .struct [(0, 3), (1, 2), (2, 9), (3, 9)], zero := some [.int .i64 0, .int .i64 0, .string ⟨#[]⟩, .string ⟨#[]⟩] } (flatD l) (u * 4) = some (.agg (duC (gt l u))) := by
  rw [pl32 _ _ (by rw [flatD_len]; omega)]
  exact congrArg (fun z => some (AV.agg z)) (rec_cut (f := duC) (z := 4) (fun _ => rfl) l u h)
abbrev intsAV (l : List Int) : AV := .sl l.length (l.map AV.i)
structure Um where
  nm : ByteArray
  tm : ByteArray
  ds : List Int
instance : Inhabited Um := ⟨⟨⟨#[]⟩, ⟨#[]⟩, []⟩⟩
abbrev umC (y : Um) : List AV := [.v (.string y.nm), .v (.string y.tm), intsAV y.ds]
def flatU (l : List Um) : List AV := (l.map umC).flatten
abbrev umsAV (l : List Um) : AV := .sl l.length (flatU l)
theorem flatU_len (l : List Um) : (flatU l).length = l.length * 3 := rec_len (f := umC) (z := 3) (fun _ => rfl) l
theorem flatU0 (l : List Um) (u : Nat) (h : u < l.length) : (flatU l)[u * 3]? = some (.v (.string (gt l u).nm)) := rec_get (f := umC) (z := 3) (fun _ => rfl) l u 0 h (by omega)
theorem ld_um (l : List Um) (u : Nat) (h : u < l.length) : partL { size := 3, bytes := 56, agg := true, k := .struct [(0, 9), (1, 9), (2, 33)], zero := some [.string ⟨#[]⟩, .string ⟨#[]⟩, .slice none 0 0] } (flatU l) (u * 3) = some (.agg (umC (gt l u))) := by
  rw [pl35 _ _ (by rw [flatU_len]; omega)]
  exact congrArg (fun z => some (AV.agg z)) (rec_cut (f := umC) (z := 3) (fun _ => rfl) l u h)
attribute [go_sem] flatD0 ld_du flatU0 ld_um

/-! ### The first nonzero of a row -/
def ferr (f : Nat → Int) : Nat → Int
  | 0 => 0
  | n + 1 => if ferr f n ≠ 0 then ferr f n else f n
theorem ferr_at {f : Nat → Int} {u : Nat} (h : ferr f u = 0) (hf : f u ≠ 0) : ∀ n, u < n → ferr f n = f u
  | 0, hn => by omega
  | n + 1, hn => by
    unfold ferr
    by_cases hu : u = n
    · subst hu; rw [if_neg (by simp [h])]
    · rw [ferr_at h hf n (by omega), if_pos hf]
theorem ferr_ok {f : Nat → Int} {u : Nat} (h : ferr f u = 0) (hf : f u = 0) : ferr f (u + 1) = 0 := by
  unfold ferr
  rw [if_neg (by simp [h]), hf]
theorem ferr_all {f : Nat → Int} : ∀ {n : Nat}, ferr f n = 0 → ∀ i, i < n → f i = 0
  | 0, _, i, hi => by omega
  | n + 1, h, i, hi => by
    unfold ferr at h
    by_cases h0 : ferr f n ≠ 0
    · rw [if_pos h0] at h; exact absurd h h0
    · rw [if_neg h0] at h
      by_cases hn : i = n
      · subst hn; exact h
      · exact ferr_all (Decidable.not_not.mp h0) i (by omega)
/-- The first of n numbers of which p holds, -1 if there is none. -/
def fidx (p : Nat → Bool) (n : Nat) : Int := match (List.range n).find? p with | some v => (v : Int) | none => -1
theorem fidx_hit {p : Nat → Bool} {n v : Nat} (hv : v < n) (h : ∀ k, k < v → p k = false) (hz : p v = true) : fidx p n = v := by
  have e : (List.range n).find? p = some v := by
    rw [List.find?_range_eq_some]
    exact ⟨hz, List.mem_range.2 hv, fun k hk => by simp [h k hk]⟩
  rw [fidx, e]
theorem fidx_miss {p : Nat → Bool} {n v : Nat} (hv : n ≤ v) (h : ∀ k, k < v → p k = false) : fidx p n = -1 := by
  have e : (List.range n).find? p = none := by
    rw [List.find?_eq_none]
    intro k hk
    simp [h k (by have := List.mem_range.1 hk; omega)]
  rw [fidx, e]
theorem fidx_some {p : Nat → Bool} {n : Nat} : fidx p n = -1 ∧ (∀ k, k < n → p k = false) ∨ ∃ v, v < n ∧ fidx p n = v ∧ p v = true ∧ ∀ k, k < v → p k = false := by
  cases h : (List.range n).find? p with
  | none =>
    refine .inl ⟨by rw [fidx, h], fun k hk => ?_⟩
    have := List.find?_eq_none.1 h k (List.mem_range.2 hk)
    simpa using this
  | some v =>
    have e := h
    rw [List.find?_range_eq_some] at h
    exact .inr ⟨v, List.mem_range.1 h.2.1, by rw [fidx, e], h.1, fun k hk => by simpa using h.2.2 k hk⟩
theorem all_step {p : Nat → Prop} {u : Nat} (h : ∀ i, i < u → p i) (hu : p u) : ∀ i, i < u + 1 → p i := fun i hi => by
  by_cases hiu : i = u
  · subst hiu; exact hu
  · exact h i (by omega)
/-! ### Names -/
def bt (s : ByteArray) (i : Nat) : Int := ((s.data[i]?.getD 0).toNat : Int)
def badN (s : ByteArray) (i : Nat) : Prop := ¬ (65 ≤ bt s i ∧ bt s i ≤ 90) ∧ (i = 0 ∨ (bt s i ≠ 95 ∧ bt s i ≠ 45 ∧ (bt s i < 48 ∨ 57 < bt s i)))
instance (s : ByteArray) (i : Nat) : Decidable (badN s i) := by unfold badN; infer_instance
def nameS (s : ByteArray) : Bool := decide (1 ≤ s.size ∧ s.size ≤ 16 ∧ ∀ i, i < s.size → ¬ badN s i)
theorem name_bad {s : ByteArray} {i : Nat} (hi : i < s.size) (h : badN s i) : nameS s = false := by
  unfold nameS
  exact decide_eq_false fun hh => hh.2.2 i hi h
theorem name_len {s : ByteArray} (h : ¬ (1 ≤ s.size ∧ s.size ≤ 16)) : nameS s = false := by
  unfold nameS
  exact decide_eq_false fun hh => h ⟨hh.1, hh.2.1⟩
theorem name_ok {s : ByteArray} (h1 : 1 ≤ s.size) (h2 : s.size ≤ 16) (h : ∀ i, i < s.size → ¬ badN s i) : nameS s = true := by
  unfold nameS
  exact decide_eq_true ⟨h1, h2, h⟩
theorem bt_ld (s : ByteArray) (i : Nat) (h : i < s.size) : (s.data.toList.map (fun c => AV.v (.int .u8 (c.toNat : Int))))[i]? = some (.v (.int .u8 (bt s i))) := by
  have h' : i < s.data.size := h
  rw [List.getElem?_map, Array.getElem?_toList]
  unfold bt
  rw [Array.getElem?_eq_getElem h']
  rfl
theorem str_nil (s : ByteArray) : (s.toList == ByteArray.toList ⟨#[]⟩) = decide (s.size = 0) := by
  rw [Bool.eq_iff_iff]
  simp only [beq_iff_eq, decide_eq_true_eq]
  constructor
  · intro h
    have e : s.data.toList = [] := by
      rw [ByteArray.toList_eq, ByteArray.toList_eq] at h
      exact h
    have := congrArg List.length e
    simpa using this
  · intro h
    have : s = ⟨#[]⟩ := by
      cases s with | mk d => congr; exact Array.eq_empty_of_size_eq_zero h
    rw [this]
theorem str_e (s : ByteArray) : s.toList = ByteArray.toList ⟨#[]⟩ ↔ s.size = 0 := by
  have h := str_nil s
  rw [Bool.eq_iff_iff] at h
  simpa using h
theorem cv83 (s : ByteArray) : convV Try.prog 9 83 (.v (.string s)) = none := by
  simp only [convV, tk83]
  cases tyOf Try.prog 9 <;> rfl
theorem tk5u : tk Try.prog 5 = some (.int .u8) := by rw [tk, ty5]; rfl
theorem ix_str (s : ByteArray) (u : Nat) (h : u < s.size) : indexV Try.prog 9 (.v (.string s)) (AV.i u) = some (.v (.int .u8 (bt s u))) := by
  have t9 : tk Try.prog 9 = some .string := by rw [tk, ty9]; rfl
  simp only [indexV, t9]
  rw [if_pos ⟨by omega, by simpa using h⟩]
  rfl
def eqB (a b : ByteArray) : Bool := a.toList == b.toList


/-- The bytes of a are not behind those of b. -/
def leB (a b : ByteArray) : Bool := Op.bytesLess a.toList b.toList || a.toList == b.toList
/-! ### The errors of what comes in -/
def dayB (n : Int) : Bool := decide (0 ≤ n ∧ n ≤ 1000000)
def duE (l : List Du) (u : Nat) : Int :=
  if (gt l u).mt < 1 ∨ 1000000 < (gt l u).mt ∨ dayB (gt l u).dy = false then 2
  else if nameS (gt l u).ho = false ∨ nameS (gt l u).aw = false then 5
  else if (gt l u).ho.toList = (gt l u).aw.toList then 1
  else if 0 < u ∧ (gt l u).mt ≤ (gt l (u - 1)).mt then 8 else 0
def dyE (ds : List Int) (k : Nat) : Int := if dayB (gt ds k) = false then 2 else if 0 < k ∧ gt ds k ≤ gt ds (k - 1) then 8 else 0
def umE (us : List Um) (u : Nat) : Int :=
  if nameS (gt us u).nm = false ∨ ((gt us u).tm.size ≠ 0 ∧ nameS (gt us u).tm = false) then 5
  else if 0 < u ∧ leB (gt us u).nm (gt us (u - 1)).nm = true then 8
  else if 400 < (gt us u).ds.length then 9
  else ferr (dyE (gt us u).ds) (gt us u).ds.length
def ckS (l : List Du) (us : List Um) : Int :=
  if 200 < l.length ∨ 100 < us.length then 9
  else if ferr (duE l) l.length ≠ 0 then ferr (duE l) l.length
  else ferr (umE us) us.length
def mayB (x : Du) (y : Um) : Bool := y.ds.contains x.dy && (eqB y.tm ⟨#[]⟩ || (!eqB y.tm x.ho && !eqB y.tm x.aw))
theorem duE_2 {l : List Du} {u : Nat} (h : (gt l u).mt < 1 ∨ 1000000 < (gt l u).mt ∨ dayB (gt l u).dy = false) : duE l u = 2 := if_pos h
theorem duE_5 {l : List Du} {u : Nat} (h : ¬ ((gt l u).mt < 1 ∨ 1000000 < (gt l u).mt ∨ dayB (gt l u).dy = false)) (h1 : nameS (gt l u).ho = false ∨ nameS (gt l u).aw = false) : duE l u = 5 := by rw [duE, if_neg h, if_pos h1]
theorem duE_1 {l : List Du} {u : Nat} (h : ¬ ((gt l u).mt < 1 ∨ 1000000 < (gt l u).mt ∨ dayB (gt l u).dy = false)) (h1 : ¬ (nameS (gt l u).ho = false ∨ nameS (gt l u).aw = false)) (h2 : (gt l u).ho.toList = (gt l u).aw.toList) : duE l u = 1 := by rw [duE, if_neg h, if_neg h1, if_pos h2]
theorem duE_8 {l : List Du} {u : Nat} (h : ¬ ((gt l u).mt < 1 ∨ 1000000 < (gt l u).mt ∨ dayB (gt l u).dy = false)) (h1 : ¬ (nameS (gt l u).ho = false ∨ nameS (gt l u).aw = false)) (h2 : ¬ (gt l u).ho.toList = (gt l u).aw.toList) (h3 : 0 < u ∧ (gt l u).mt ≤ (gt l (u - 1)).mt) : duE l u = 8 := by rw [duE, if_neg h, if_neg h1, if_neg h2, if_pos h3]
theorem duE_0 {l : List Du} {u : Nat} (h : ¬ ((gt l u).mt < 1 ∨ 1000000 < (gt l u).mt ∨ dayB (gt l u).dy = false)) (h1 : ¬ (nameS (gt l u).ho = false ∨ nameS (gt l u).aw = false)) (h2 : ¬ (gt l u).ho.toList = (gt l u).aw.toList) (h3 : ¬ (0 < u ∧ (gt l u).mt ≤ (gt l (u - 1)).mt)) : duE l u = 0 := by rw [duE, if_neg h, if_neg h1, if_neg h2, if_neg h3]
/-- A row's error when one of its cells has one. -/
theorem ferr_hit {f : Nat → Int} {u n : Nat} {e : Int} (hu : u < n) (hf : ferr f u = 0) (he : f u = e) (h0 : e ≠ 0) : ferr f n = e := by
  have := ferr_at hf (by rw [he]; exact h0) n hu
  rw [this, he]
theorem umE_5 {us : List Um} {u : Nat} (h : nameS (gt us u).nm = false ∨ ((gt us u).tm.size ≠ 0 ∧ nameS (gt us u).tm = false)) : umE us u = 5 := if_pos h
theorem umE_8 {us : List Um} {u : Nat} (h : ¬ (nameS (gt us u).nm = false ∨ ((gt us u).tm.size ≠ 0 ∧ nameS (gt us u).tm = false))) (h1 : 0 < u ∧ leB (gt us u).nm (gt us (u - 1)).nm = true) : umE us u = 8 := by rw [umE, if_neg h, if_pos h1]
theorem umE_9 {us : List Um} {u : Nat} (h : ¬ (nameS (gt us u).nm = false ∨ ((gt us u).tm.size ≠ 0 ∧ nameS (gt us u).tm = false))) (h1 : ¬ (0 < u ∧ leB (gt us u).nm (gt us (u - 1)).nm = true)) (h2 : 400 < (gt us u).ds.length) : umE us u = 9 := by rw [umE, if_neg h, if_neg h1, if_pos h2]
theorem umE_d {us : List Um} {u : Nat} (h : ¬ (nameS (gt us u).nm = false ∨ ((gt us u).tm.size ≠ 0 ∧ nameS (gt us u).tm = false))) (h1 : ¬ (0 < u ∧ leB (gt us u).nm (gt us (u - 1)).nm = true)) (h2 : ¬ 400 < (gt us u).ds.length) : umE us u = ferr (dyE (gt us u).ds) (gt us u).ds.length := by rw [umE, if_neg h, if_neg h1, if_neg h2]
theorem dyE_2 {ds : List Int} {k : Nat} (h : dayB (gt ds k) = false) : dyE ds k = 2 := if_pos h
theorem dyE_8 {ds : List Int} {k : Nat} (h : dayB (gt ds k) = true) (h1 : 0 < k ∧ gt ds k ≤ gt ds (k - 1)) : dyE ds k = 8 := by rw [dyE, if_neg (by rw [h]; decide), if_pos h1]
theorem dyE_0 {ds : List Int} {k : Nat} (h : dayB (gt ds k) = true) (h1 : ¬ (0 < k ∧ gt ds k ≤ gt ds (k - 1))) : dyE ds k = 0 := by rw [dyE, if_neg (by rw [h]; decide), if_neg h1]
theorem contains_gt (l : List Int) (v : Int) : l.contains v = true ↔ ∃ u, u < l.length ∧ gt l u = v := by
  rw [List.contains_iff_mem]
  constructor
  · intro h
    obtain ⟨u, hu, e⟩ := List.getElem_of_mem h
    exact ⟨u, hu, by rw [gt_eq _ _ hu]; exact e⟩
  · rintro ⟨u, hu, e⟩
    rw [gt_eq _ _ hu] at e
    rw [← e]; exact List.getElem_mem _
theorem fidx_ge (l : List Int) (v : Int) : decide (0 ≤ fidx (fun u => v == gt l u) l.length) = l.contains v := by
  rcases fidx_some (p := fun u => v == gt l u) (n := l.length) with ⟨h, h2⟩ | ⟨u, hu, h, h2, _⟩
  · rw [h]
    refine (Eq.symm ?_ : decide ((0 : Int) ≤ -1) = l.contains v)
    show l.contains v = false
    rw [Bool.eq_false_iff]
    intro hc
    obtain ⟨u, hu, e⟩ := (contains_gt l v).1 hc
    have := h2 u hu
    simp [e] at this
  · rw [h]
    have : l.contains v = true := (contains_gt l v).2 ⟨u, hu, by simpa using (beq_iff_eq.1 h2).symm⟩
    rw [this]
    simp
end Go.Proofs.Ytcnleglfdnhagaa
