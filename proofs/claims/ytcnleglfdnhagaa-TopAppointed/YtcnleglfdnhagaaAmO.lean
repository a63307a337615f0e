/-
  What came in, opened by its type: scalars, structs, arrays, slices of any of these, as flat cells of abstract values.
-/
import Derived.Test.YtcnleglfdnhagaaAmZ
import Derived.OpenShut
import Derived.WideShapes
namespace Go.Am
open Go Go.WideShapes
section
variable {P : Program} {w : World}

def DLs (w : World) (l : List AV) (cs : List Value) : Prop := cs.length = l.length ∧ ∀ (j : Nat) (a : AV) (v : Value), l[j]? = some a → cs[j]? = some v → Den [] (In w) w a v

def Opens (P : Program) (t : TypeId) {α : Type} (f : α → List AV) : Prop :=
  ∀ (H : Type) (enc : TypeId × Value → H) (w : World) (held : Bool) (n : Nat) (cs : List Value) (x : DataW H × List MemPlace), DataW.trod enc P w 0 (fun _ => true) held n t cs = some x → ∃ d : α, DLs w (f d) cs

theorem dls_one {a : AV} {v : Value} (h : Den [] (In w) w a v) : DLs w [a] [v] := ⟨rfl, fun j x y hx hy => by
  match j, hx, hy with
  | 0, hx, hy => cases hx; cases hy; exact h⟩

abbrev I64 := {x : Int // -9223372036854775808 ≤ x ∧ x ≤ 9223372036854775807}
abbrev U16 := {x : Int // 0 ≤ x ∧ x ≤ 65535}
abbrev U8 := {x : Int // 0 ≤ x ∧ x ≤ 255}
abbrev U64 := {x : Int // 0 ≤ x ∧ x ≤ 18446744073709551615}
theorem opens_i64 {t : TypeId} (ht : P.underlying t = some (.int .i64)) : Opens P t (fun d : I64 => [AV.i d.val]) := by
  intro H enc w held n cs x h
  obtain ⟨m, rfl, _, hw⟩ := DataW.trod_int ht h
  simp only [Lit.wf, decide_eq_true_eq, Bool.and_eq_true] at hw
  exact ⟨⟨m, hw⟩, dls_one (.v _)⟩
theorem opens_u16 {t : TypeId} (ht : P.underlying t = some (.int .u16)) : Opens P t (fun d : U16 => [.v (.int .u16 d.val)]) := by
  intro H enc w held n cs x h
  obtain ⟨m, rfl, _, hw⟩ := DataW.trod_int ht h
  simp only [Lit.wf, decide_eq_true_eq, Bool.and_eq_true] at hw
  exact ⟨⟨m, hw⟩, dls_one (.v _)⟩
theorem opens_u8 {t : TypeId} (ht : P.underlying t = some (.int .u8)) : Opens P t (fun d : U8 => [.v (.int .u8 d.val)]) := by
  intro H enc w held n cs x h
  obtain ⟨m, rfl, _, hw⟩ := DataW.trod_int ht h
  simp only [Lit.wf, decide_eq_true_eq, Bool.and_eq_true] at hw
  exact ⟨⟨m, hw⟩, dls_one (.v _)⟩
theorem opens_u64 {t : TypeId} (ht : P.underlying t = some (.int .u64)) : Opens P t (fun d : U64 => [.v (.int .u64 d.val)]) := by
  intro H enc w held n cs x h
  obtain ⟨m, rfl, _, hw⟩ := DataW.trod_int ht h
  simp only [Lit.wf, decide_eq_true_eq, Bool.and_eq_true] at hw
  exact ⟨⟨m, hw⟩, dls_one (.v _)⟩
theorem opens_bool {t : TypeId} (ht : P.underlying t = some .bool) : Opens P t (fun d : Bool => [.v (.bool d)]) := by
  intro H enc w held n cs x h
  obtain ⟨m, rfl, _⟩ := DataW.trod_bool ht h
  exact ⟨m, dls_one (.v _)⟩

abbrev Str := {s : ByteArray // s.size ≤ 9223372036854775807}
theorem opens_string {t : TypeId} (ht : P.underlying t = some .string) : Opens P t (fun d : Str => [.v (.string d.val)]) := by
  intro H enc w held n cs x h
  obtain ⟨m, rfl, _, hm⟩ := DataW.trod_string ht h
  exact ⟨⟨m, by unfold maxLen at hm; omega⟩, dls_one (.v _)⟩
theorem flat_uni {α : Type} {f : α → List AV} {z : Nat} (hf : ∀ d, (f d).length = z) : ∀ (l : List α) (i k : Nat) (hi : i < l.length), k < z → (l.map f).flatten[i * z + k]? = (f l[i])[k]?
  | [], i, k, hi, _ => by simp at hi
  | d :: l, 0, k, _, hk => by
    rw [List.map_cons, List.flatten_cons, Nat.zero_mul, Nat.zero_add, List.getElem?_append_left (by rw [hf]; exact hk)]
    rfl
  | d :: l, i + 1, k, hi, hk => by
    rw [List.map_cons, List.flatten_cons, List.getElem?_append_right (by rw [hf, Nat.succ_mul]; omega), hf]
    rw [show (i + 1) * z + k - z = i * z + k by rw [Nat.succ_mul]; omega, flat_uni hf l i k (by simpa using hi) hk]
    rfl
theorem flat_unilen {α : Type} {f : α → List AV} {z : Nat} (hf : ∀ d, (f d).length = z) (l : List α) : (l.map f).flatten.length = l.length * z := by
  induction l with
  | nil => simp
  | cons d l ih => rw [List.map_cons, List.flatten_cons, List.length_append, ih, hf, List.length_cons, Nat.succ_mul]; omega

theorem opens_slice {α : Type} {f : α → List AV} {t e : TypeId} {z : Nat} (ht : P.underlying t = some (.slice e)) (hc : P.cellsOf e = z) (hz : 0 < z) (he : Opens P e f) (hf : ∀ d, (f d).length = z) :
    Opens P t (fun l : List α => [.sl l.length (l.map f).flatten]) := by
  intro H enc w held n cs x h
  rcases DataW.trod_slice ht h with ⟨rfl, _⟩ | ⟨a, len, cap, elems, rest, n, _, rfl, _, _, hl, hm, hlen, hel, hsp, _⟩
  · exact ⟨[], dls_one (.sl0 _ _)⟩
  · have get : ∀ i, i < cap → ∃ d cs', (∀ k, k < z → ∃ c, cs'[k]? = some c ∧ w.cell? ((a.add (i * z)).add k) = some c) ∧ DLs w (f d) cs' := by
      intro i hi
      have hb : ∃ y, (w.cells? 0 (a.add (i * P.cellsOf e)) (P.cellsOf e)).bind (DataW.trod enc P w 0 (fun _ => true) held n e) = some y := by
        by_cases h1 : i < len
        · exact ⟨elems[i]'(by omega), by rw [hel i h1, List.getElem?_eq_getElem (by omega)]⟩
        · obtain ⟨hr, hrr⟩ := hsp rfl
          have := hrr (i - len) (by omega)
          rw [show len + (i - len) = i by omega] at this
          exact ⟨rest[i - len]'(by omega), by rw [this, List.getElem?_eq_getElem (by omega)]⟩
      obtain ⟨y, hy⟩ := hb
      rw [hc, Option.bind_eq_some_iff] at hy
      obtain ⟨cs', hcs, hy'⟩ := hy
      obtain ⟨d, hd⟩ := he H enc w held _ _ _ hy'
      refine ⟨d, cs', fun k hk => ?_, hd⟩
      unfold World.cells? at hcs
      rw [if_pos (Nat.zero_le _)] at hcs
      have hk1 := mapM_some_length hcs
      rw [List.length_range] at hk1
      have := mapM_some_get hcs k k (by simp [hk])
      exact ⟨cs'[k]'(by omega), List.getElem?_eq_getElem (by omega), by rw [this, List.getElem?_eq_getElem (by omega)]⟩
    by_cases h0 : cap = 0
    · subst h0
      have : len = 0 := by omega
      subst this
      exact ⟨[], dls_one (.sl0 _ _)⟩
    · obtain ⟨d0, cs0, hc0, _⟩ := get 0 (by omega)
      obtain ⟨c0, _, hcc⟩ := hc0 0 hz
      have e00 : (a.add (0 * z)).add 0 = a := by simp [Addr.add]
      rw [e00] at hcc
      have hs : a.spot = none := World.cell?_spot hcc
      have hb : a.block < w.heap.size := cell_lt hcc
      have ad : ∀ i, a.add i = ⟨a.block, a.off + i, none⟩ := by
        intro i
        obtain ⟨ab, ao, asp⟩ := a
        simp only at hs
        subst hs
        simp only [Addr.add]
        split
        · rename_i hi; rw [hi]; rfl
        · rfl
      have ad2 : ∀ i k, (a.add i).add k = ⟨a.block, a.off + (i + k), none⟩ := by
        intro i k
        rw [ad i]
        simp only [Addr.add]
        split
        · rename_i hi; rw [hi]; simp
        · simp
      have pick : ∀ i, ∃ d : α, i < len → ∃ cs', (∀ k, k < z → ∃ c, cs'[k]? = some c ∧ w.cell? ⟨a.block, a.off + (i * z + k), none⟩ = some c) ∧ DLs w (f d) cs' := by
        intro i
        by_cases hi : i < len
        · obtain ⟨d, cs', h1, h2⟩ := get i (by omega)
          exact ⟨d, fun _ => ⟨cs', fun k hk => by obtain ⟨c, h3, h4⟩ := h1 k hk; exact ⟨c, h3, by rw [← ad2]; exact h4⟩, h2⟩⟩
        · exact ⟨d0, fun h => absurd h hi⟩
      let D : Nat → α := fun i => (pick i).choose
      have hD : ∀ i, i < len → ∃ cs', (∀ k, k < z → ∃ c, cs'[k]? = some c ∧ w.cell? ⟨a.block, a.off + (i * z + k), none⟩ = some c) ∧ DLs w (f (D i)) cs' := fun i => (pick i).choose_spec
      refine ⟨(List.range len).map D, dls_one ?_⟩
      have hlen2 : ((List.range len).map D).length = len := by simp
      have key : ∀ (j : Nat) (x : AV), (((List.range len).map D).map f).flatten[j]? = some x → ∃ c, w.cell? ⟨a.block, a.off + j, none⟩ = some c ∧ Den [] (In w) w x c := by
        intro j x hx
        have hj : j < len * z := by
          have h1 := (List.getElem?_eq_some_iff.1 hx).1
          rw [flat_unilen hf, hlen2] at h1
          exact h1
        have hdiv : j / z < len := Nat.div_lt_of_lt_mul (by rw [Nat.mul_comm]; exact hj)
        have hmod : j % z < z := Nat.mod_lt _ hz
        have hjj : j / z * z + j % z = j := by rw [Nat.mul_comm]; exact Nat.div_add_mod j z
        have h2 := flat_uni hf ((List.range len).map D) (j / z) (j % z) (by rw [hlen2]; exact hdiv) hmod
        rw [hjj] at h2
        rw [h2] at hx
        simp only [List.getElem_map, List.getElem_range] at hx
        obtain ⟨cs', h3, h4⟩ := hD (j / z) hdiv
        obtain ⟨c, h5, h6⟩ := h3 (j % z) hmod
        rw [hjj] at h6
        exact ⟨c, h6, h4.2 _ _ _ hx h5⟩
      have ha : a = ⟨a.block, a.off, none⟩ := by obtain ⟨ab, ao, asp⟩ := a; simp only at hs; subst hs; rfl
      rw [hlen2]
      refine Den.sl (I := In w) _ _ cap a (fun j => (w.cell? ⟨a.block, a.off + j, none⟩).getD undef) hl hm hs hb ?_ ?_
      · intro j x hx
        obtain ⟨c, h1, _⟩ := key j x hx
        rw [h1]; rfl
      · intro j x hx
        obtain ⟨c, h1, h2⟩ := key j x hx
        rw [h1]; exact h2

theorem dls_split {cs : List Value} {o z : Nat} {l l' : List AV} (h1 : DLs w l ((cs.drop o).take z)) (hz : l.length = z) (h2 : DLs w l' (cs.drop (o + z))) : DLs w (l ++ l') (cs.drop o) := by
  subst hz
  have e : cs.drop o = (cs.drop o).take l.length ++ cs.drop (o + l.length) := by rw [← List.drop_drop]; exact (List.take_append_drop _ _).symm
  have hl := h1.1
  refine ⟨by rw [e, List.length_append, List.length_append, h1.1, h2.1], fun j a v ha hv => ?_⟩
  rw [e] at hv
  rw [List.getElem?_append] at ha hv
  by_cases hj : j < l.length
  · rw [if_pos hj] at ha
    rw [if_pos (by rw [hl]; exact hj)] at hv
    exact h1.2 j a v ha hv
  · rw [if_neg hj] at ha
    rw [if_neg (by rw [hl]; exact hj), hl] at hv
    exact h2.2 _ a v ha hv
theorem dls_end {cs : List Value} {o : Nat} (h : cs.length = o) : DLs w [] (cs.drop o) := ⟨by rw [List.drop_of_length_le (by omega)]; rfl, fun j a v ha _ => by simp at ha⟩

theorem opens_array {α : Type} {f : α → List AV} {t e : TypeId} {z m : Nat} [Inhabited α] (ht : P.underlying t = some (.array m e)) (hc : P.cellsOf e = z) (hct : P.cellsOf t = m * z) (he : Opens P e f) (hf : ∀ d, (f d).length = z) :
    Opens P t (fun l : {l : List α // l.length = m} => (l.val.map f).flatten) := by
  intro H enc w held n cs x h
  obtain ⟨xs, k, _, rfl, hl, hlen, hg⟩ := DataW.trod_array ht h
  have pick : ∀ i, ∃ d : α, i < m → DLs w (f d) ((cs.drop (i * z)).take z) := by
    intro i
    by_cases hi : i < m
    · have h1 := hg i hi
      rw [hc, List.getElem?_eq_getElem (by omega)] at h1
      obtain ⟨d, hd⟩ := he H enc w held _ _ _ h1
      exact ⟨d, fun _ => hd⟩
    · exact ⟨default, fun h => absurd h hi⟩
  let D : Nat → α := fun i => (pick i).choose
  have hD : ∀ i, i < m → DLs w (f (D i)) ((cs.drop (i * z)).take z) := fun i => (pick i).choose_spec
  have key : ∀ k, k ≤ m → DLs w (((List.range m).drop (m - k)).map fun i => f (D i)).flatten (cs.drop ((m - k) * z)) := by
    intro k
    induction k with
    | zero =>
      intro _
      rw [Nat.sub_zero, List.drop_of_length_le (by simp)]
      exact dls_end (by rw [hl, hct])
    | succ k ih =>
      intro hk
      have e : (List.range m).drop (m - (k + 1)) = (m - (k + 1)) :: (List.range m).drop (m - k) := by
        rw [List.drop_eq_getElem_cons (by simp; omega)]
        simp only [List.getElem_range]
        congr 1
        congr 1
        omega
      rw [e, List.map_cons, List.flatten_cons]
      refine dls_split (z := z) (hD _ (by omega)) (hf _) ?_
      have := ih (by omega)
      rwa [show (m - (k + 1)) * z + z = (m - k) * z by rw [← Nat.succ_mul]; congr 1; omega]
  refine ⟨⟨(List.range m).map D, by simp⟩, ?_⟩
  have := key m (Nat.le_refl _)
  rw [Nat.sub_self, Nat.zero_mul, List.drop_zero, List.drop_zero] at this
  simpa [List.map_map, Function.comp_def] using this

/-- A struct or array that came in. -/
theorem open_agg {α : Type} {f : α → List AV} {t : TypeId} (h : Opens P t f) {H : Type} {enc : TypeId × Value → H} {cs : Array Value} {d : DataW H} {p : List MemPlace}
    (ht : DataW.Trod enc P w 0 (fun _ => true) true t (.agg cs) d p) : ∃ d : α, Den [] (In w) w (.agg (f d)) (.agg cs) := by
  obtain ⟨fuel, hf⟩ := ht
  obtain ⟨d, h1, h2⟩ := h _ _ _ _ _ _ _ hf
  have e : (Value.agg cs).cells.toList = cs.toList := rfl
  rw [e] at h1 h2
  exact ⟨d, .agg _ _ (by simpa using h1) fun j a v ha hv => h2 j a v ha (by simpa using hv)⟩
end
end Go.Am
