/-
  Matchings, in plain lists: augmenting, closed sets, counting.
  Closed sets of matches; what filling leaves.
  Filling finds a full assignment if there is one.
  Choosing the pair of a match.
  The pair of a match; the matches that lack.
  A day: all matches can be filled, or some lack.
-/
import Derived.Test.YtcnleglfdnhagaaAmU
section
set_option linter.unusedVariables false
namespace Go.Proofs.Ytcnleglfdnhagaa
open Go Go.Am
/-- Over the row of match m, from umpire u on: the first of k umpires that can be got. -/
def loopP (pl : Int → List Int → List Bool → Bool × List Int × List Bool) (row : List Bool) (m : Int) : Nat → Nat → List Int → List Bool → Bool × List Int × List Bool
  | 0, _, used, seen => (false, used, seen)
  | k + 1, u, used, seen =>
    if gt row u = true ∧ gt seen u = false ∧ gt used u ≠ -2 then
      if gt used u = -1 then (true, used.set u m, seen.set u true)
      else
        let r := pl (gt used u) used (seen.set u true)
        if r.1 = true then (true, r.2.1.set u m, r.2.2) else loopP pl row m k (u + 1) r.2.1 r.2.2
    else loopP pl row m k (u + 1) used seen
def placeF (may : List (List Bool)) : Nat → Int → List Int → List Bool → Bool × List Int × List Bool
  | 0, _, used, seen => (false, used, seen)
  | f + 1, m, used, seen => loopP (placeF may f) (gt may m.toNat) m used.length 0 used seen
/-- How many have not been looked at. -/
def un (seen : List Bool) : Nat := seen.countP (fun b => !b)
def okU (may : List (List Bool)) (used : List Int) (m : Int) (u : Nat) : Prop := gt (gt may m.toNat) u = true ∧ gt used u ≠ -2
/-- What a search says. -/
structure PlOK (may : List (List Bool)) (m : Int) (used : List Int) (seen : List Bool) (r : Bool × List Int × List Bool) : Prop where
  lu : r.2.1.length = used.length
  ls : r.2.2.length = seen.length
  mono : ∀ u, gt seen u = true → gt r.2.2 u = true
  keep : ∀ u, u < used.length → gt seen u = true → gt r.2.1 u = gt used u
  perm : r.1 = true → ((-1 : Int) :: r.2.1).Perm (m :: used)
  way : r.1 = true → ∀ u, u < used.length → gt r.2.1 u = gt used u ∨ (0 ≤ gt r.2.1 u ∧ gt (gt may (gt r.2.1 u).toNat) u = true ∧ gt used u ≠ -2)
  same : r.1 = false → r.2.1 = used
  all : r.1 = false → ∀ u, u < used.length → okU may used m u → gt r.2.2 u = true
  clos : r.1 = false → ∀ u, u < used.length → gt r.2.2 u = true → gt seen u = false → 0 ≤ gt used u ∧ ∀ v, v < used.length → okU may used (gt used u) v → gt r.2.2 v = true
theorem perm_set : ∀ (l : List Int) (u : Nat) (x : Int), u < l.length → (gt l u :: l.set u x).Perm (x :: l)
  | [], _, _, h => absurd h (Nat.not_lt_zero _)
  | a :: l, 0, x, _ => List.Perm.swap _ _ _
  | a :: l, u + 1, x, h => by
    have ih := perm_set l u x (by simpa using h)
    have e : gt (a :: l) (u + 1) = gt l u := rfl
    rw [e, List.set_cons_succ]
    exact (List.Perm.swap _ _ _).trans ((ih.cons a).trans (List.Perm.swap _ _ _))
theorem un_set : ∀ (seen : List Bool) (u : Nat), u < seen.length → gt seen u = false → un (seen.set u true) + 1 = un seen
  | [], _, h, _ => absurd h (Nat.not_lt_zero _)
  | a :: l, 0, _, h => by
    have e : a = false := h
    subst e
    simp [un]
  | a :: l, u + 1, h, h2 => by
    have ih := un_set l u (by simpa using h) h2
    unfold un at ih ⊢
    rw [List.set_cons_succ, List.countP_cons, List.countP_cons]
    omega
theorem un_le : ∀ (s t : List Bool), s.length = t.length → (∀ u, gt s u = true → gt t u = true) → un t ≤ un s
  | [], [], _, _ => Nat.le_refl _
  | [], _ :: _, h, _ => by simp at h
  | _ :: _, [], h, _ => by simp at h
  | a :: s, b :: t, h, hm => by
    have ih := un_le s t (by simpa using h) (fun u hu => hm (u + 1) hu)
    have h0 : a = true → b = true := hm 0
    unfold un at ih ⊢
    rw [List.countP_cons, List.countP_cons]
    cases a <;> cases b <;> simp_all <;> omega
theorem gt_set_ne {α : Type} [Inhabited α] {l : List α} {i j : Nat} {x : α} (h : i ≠ j) : gt (l.set i x) j = gt l j := by
  simp [gt, List.getD_eq_getElem?_getD, h]
theorem gt_out {l : List Bool} {i : Nat} (h : l.length ≤ i) : gt l i = false := by
  simp [gt, List.getD_eq_getElem?_getD, List.getElem?_eq_none h]
theorem seen_set {l : List Bool} {u v : Nat} (h : u < l.length) : gt (l.set u true) v = true ↔ v = u ∨ gt l v = true := by
  rw [gt_set l u v true h]
  by_cases e : u = v
  · simp [e]
  · simp [e, Ne.symm e]
theorem bool_f {b : Bool} (h : ¬ b = true) : b = false := by simpa using h
theorem loop_ok {may : List (List Bool)} {m : Int} (hm : 0 ≤ m) {pl : Int → List Int → List Bool → Bool × List Int × List Bool} {f : Nat} {used : List Int} (hr : ∀ u, -2 ≤ gt used u)
    (hpl : ∀ v seen, 0 ≤ v → used.length = seen.length → un seen < f → PlOK may v used seen (pl v used seen)) :
    ∀ (k u : Nat) (seen : List Bool), u + k = used.length → used.length = seen.length → un seen ≤ f → (∀ v, v < u → okU may used m v → gt seen v = true) → PlOK may m used seen (loopP pl (gt may m.toNat) m k u used seen)
  | 0, u, seen, hk, hl, hf, hp => by
    refine ⟨rfl, rfl, fun _ h => h, fun _ _ _ => rfl, fun h => (by cases h), fun h => (by cases h), fun _ => rfl, fun _ v hv ho => hp v (by omega) ho, fun _ v _ h1 h2 => ?_⟩
    have h1 : gt seen v = true := h1
    rw [h1] at h2; cases h2
  | k + 1, u, seen, hk, hl, hf, hp => by
    have hu : u < used.length := by omega
    by_cases hc : gt (gt may m.toNat) u = true ∧ gt seen u = false ∧ gt used u ≠ -2
    · by_cases h1 : gt used u = -1
      · have e : loopP pl (gt may m.toNat) m (k + 1) u used seen = (true, used.set u m, seen.set u true) := by
          rw [loopP, if_pos hc, if_pos h1]
        rw [e]
        refine ⟨by simp, by simp, fun v hv => (seen_set (by omega)).2 (.inr hv), fun v hv hs => ?_, fun _ => ?_, fun _ v hv => ?_, fun h => (by cases h), fun h => (by cases h), fun h => (by cases h)⟩
        · refine gt_set_ne fun hh => ?_
          subst hh
          rw [hc.2.1] at hs; cases hs
        · have := perm_set used u m hu
          rw [h1] at this
          exact this
        · by_cases hh : u = v
          · subst hh
            refine .inr ⟨?_, ?_, hc.2.2⟩
            · show 0 ≤ gt (used.set u m) u; rw [gt_set used u u m hu, if_pos rfl]; exact hm
            · show gt (gt may (gt (used.set u m) u).toNat) u = true; rw [gt_set used u u m hu, if_pos rfl]; exact hc.1
          · exact .inl (gt_set_ne hh)
      · have hs1 : (seen.set u true).length = seen.length := by simp
        have hun := un_set seen u (by omega) hc.2.1
        have hv0 : 0 ≤ gt used u := by
          have := hr u
          have := hc.2.2
          omega
        have P := hpl (gt used u) (seen.set u true) hv0 (by omega) (by omega)
        have hsu : gt (seen.set u true) u = true := (seen_set (by omega)).2 (.inl rfl)
        have hst : ∀ v, gt seen v = true → gt (seen.set u true) v = true := fun v hv => (seen_set (by omega)).2 (.inr hv)
        by_cases h2 : (pl (gt used u) used (seen.set u true)).1 = true
        · have e : loopP pl (gt may m.toNat) m (k + 1) u used seen = (true, (pl (gt used u) used (seen.set u true)).2.1.set u m, (pl (gt used u) used (seen.set u true)).2.2) := by
            rw [loopP, if_pos hc, if_neg h1]
            simp only []
            rw [if_pos h2]
          rw [e]
          have hlu := P.lu
          have hku := P.keep u hu hsu
          refine ⟨by rw [List.length_set]; exact P.lu, by rw [P.ls]; exact hs1, fun v hv => P.mono v (hst v hv), fun v hv hs => ?_, fun _ => ?_, fun _ v hv => ?_, fun h => (by cases h), fun h => (by cases h), fun h => (by cases h)⟩
          · refine (gt_set_ne fun hh => ?_).trans (P.keep v hv (hst v hs))
            subst hh
            rw [hc.2.1] at hs; cases hs
          · have p1 := perm_set (pl (gt used u) used (seen.set u true)).2.1 u m (by omega)
            rw [hku] at p1
            have p2 := P.perm h2
            refine List.Perm.cons_inv (a := gt used u) ?_
            exact (List.Perm.swap _ _ _).trans ((p1.cons (-1)).trans ((List.Perm.swap _ _ _).trans ((p2.cons m).trans (List.Perm.swap _ _ _))))
          · by_cases hh : u = v
            · subst hh
              have e2 : gt ((pl (gt used u) used (seen.set u true)).2.1.set u m) u = m := by rw [gt_set _ u u m (by omega), if_pos rfl]
              exact .inr ⟨by show 0 ≤ gt ((pl (gt used u) used (seen.set u true)).2.1.set u m) u; rw [e2]; exact hm, by show gt (gt may (gt ((pl (gt used u) used (seen.set u true)).2.1.set u m) u).toNat) u = true; rw [e2]; exact hc.1, hc.2.2⟩
            · have e2 : gt ((pl (gt used u) used (seen.set u true)).2.1.set u m) v = gt (pl (gt used u) used (seen.set u true)).2.1 v := gt_set_ne hh
              show gt ((pl (gt used u) used (seen.set u true)).2.1.set u m) v = gt used v ∨ _
              rw [e2]
              exact P.way h2 v hv
        · have h2 := bool_f h2
          have hsame := P.same h2
          have e : loopP pl (gt may m.toNat) m (k + 1) u used seen = loopP pl (gt may m.toNat) m k (u + 1) used (pl (gt used u) used (seen.set u true)).2.2 := by
            rw [loopP, if_pos hc, if_neg h1]
            simp only []
            rw [if_neg (by rw [h2]; decide), hsame]
          rw [e]
          have hls := P.ls
          have hle := un_le _ _ hls.symm P.mono
          have R := loop_ok hm hr hpl k (u + 1) (pl (gt used u) used (seen.set u true)).2.2 (by omega) (by omega) (by omega) (fun v hv ho => by
            by_cases hh : v = u
            · subst hh; exact P.mono _ hsu
            · exact P.mono _ (hst _ (hp v (by omega) ho)))
          refine ⟨R.lu, R.ls.trans (hls.trans hs1), fun v hv => R.mono v (P.mono v (hst v hv)), fun v hv hs => R.keep v hv (P.mono v (hst v hs)), R.perm, R.way, R.same, R.all, fun hf2 v hv h3 h4 => ?_⟩
          by_cases h5 : gt (pl (gt used u) used (seen.set u true)).2.2 v = true
          · by_cases hh : v = u
            · subst hh
              exact ⟨hv0, fun x hx ho => R.mono x (P.all h2 x hx ho)⟩
            · have h6 : gt (seen.set u true) v = false := by rw [gt_set_ne (Ne.symm hh)]; exact h4
              obtain ⟨a, b⟩ := P.clos h2 v hv h5 h6
              exact ⟨a, fun x hx ho => R.mono x (b x hx ho)⟩
          · exact R.clos hf2 v hv h3 (bool_f h5)
    · have e : loopP pl (gt may m.toNat) m (k + 1) u used seen = loopP pl (gt may m.toNat) m k (u + 1) used seen := by rw [loopP, if_neg hc]
      rw [e]
      exact loop_ok hm hr hpl k (u + 1) seen (by omega) hl hf (fun v hv ho => by
        by_cases hh : v = u
        · subst hh
          by_cases hs : gt seen v = true
          · exact hs
          · exact absurd ⟨ho.1, bool_f hs, ho.2⟩ hc
        · exact hp v (by omega) ho)
theorem place_ok {may : List (List Bool)} {used : List Int} (hr : ∀ u, -2 ≤ gt used u) : ∀ (f : Nat) (m : Int) (seen : List Bool), 0 ≤ m → used.length = seen.length → un seen < f → PlOK may m used seen (placeF may f m used seen)
  | 0, _, _, _, _, h => absurd h (Nat.not_lt_zero _)
  | f + 1, m, seen, hm, hl, hf => by
    rw [placeF]
    exact loop_ok hm hr (fun v s hv hs hu => place_ok hr f v s hv hs hu) used.length 0 seen (by omega) hl (by omega) (fun v hv => absurd hv (Nat.not_lt_zero _))
end Go.Proofs.Ytcnleglfdnhagaa
end
section
set_option linter.unusedVariables false
namespace Go.Proofs.Ytcnleglfdnhagaa
open Go Go.Am
/-- Whoever may stand in one of these matches stands in one of them. -/
def Closed (may : List (List Bool)) (used : List Int) (T : Int → Bool) : Prop :=
  ∀ m, T m = true → 0 ≤ m ∧ ∀ u, u < used.length → okU may used m u → T (gt used u) = true
def Valid (may : List (List Bool)) (used : List Int) : Prop := ∀ u, u < used.length → 0 ≤ gt used u → gt (gt may (gt used u).toNat) u = true
theorem count_sub (T : Int → Bool) : ∀ (l l' : List Int), l'.length = l.length → (∀ u, u < l.length → T (gt l' u) = true → T (gt l u) = true) →
    l'.countP T ≤ l.countP T ∧ (l'.countP T = l.countP T → ∀ u, u < l.length → T (gt l u) = true → T (gt l' u) = true)
  | [], [], _, _ => ⟨Nat.le_refl _, fun _ u hu => absurd hu (Nat.not_lt_zero _)⟩
  | [], _ :: _, h, _ => by simp at h
  | _ :: _, [], h, _ => by simp at h
  | a :: l, b :: l', h, hs => by
    obtain ⟨h1, h2⟩ := count_sub T l l' (by simpa using h) (fun u hu => hs (u + 1) (by simpa using hu))
    have h0 : T b = true → T a = true := hs 0 (by simp)
    rw [List.countP_cons, List.countP_cons]
    refine ⟨?_, fun e u hu ha => ?_⟩
    · cases hb : T b <;> cases ha : T a <;> simp_all <;> omega
    · have hx : l'.countP T = l.countP T ∧ (T a = true → T b = true) := by
        cases hb : T b <;> cases ha : T a <;> simp_all <;> omega
      rcases u with _ | u
      · exact hx.2 ha
      · exact h2 hx.1 u (by simpa using hu) ha
theorem closed_neg {may : List (List Bool)} {used : List Int} {T : Int → Bool} (h : Closed may used T) {v : Int} (hv : v < 0) : T v = false := by
  cases e : T v
  · rfl
  · have := (h v e).1; omega
theorem perm_count {m : Int} {used used' : List Int} (h : ((-1 : Int) :: used').Perm (m :: used)) (T : Int → Bool) (h1 : T (-1) = false) : used'.countP T = used.countP T + (if T m = true then 1 else 0) := by
  have := h.countP_eq T
  rw [List.countP_cons, List.countP_cons, h1] at this
  simpa using this
/-- After a success the closed sets are closed, and the match was in none of them. -/
theorem closed_succ {may : List (List Bool)} {used : List Int} {m : Int} {seen : List Bool} {r : Bool × List Int × List Bool} (P : PlOK may m used seen r) (h1 : r.1 = true) {T : Int → Bool} (hc : Closed may used T) : T m = false ∧ Closed may r.2.1 T := by
  have hT := closed_neg hc (v := -1) (by decide)
  have e := perm_count (P.perm h1) T hT
  have hs : ∀ u, u < used.length → T (gt r.2.1 u) = true → T (gt used u) = true := fun u hu ht => by
    rcases P.way h1 u hu with h | ⟨h0, h2, h3⟩
    · rw [h] at ht; exact ht
    · exact (hc _ ht).2 u hu ⟨h2, h3⟩
  obtain ⟨c1, c2⟩ := count_sub T used r.2.1 P.lu hs
  have hm : T m = false := by
    cases em : T m
    · rfl
    · rw [em] at e; simp at e; omega
  rw [hm] at e
  refine ⟨hm, fun v hv => ⟨(hc v hv).1, fun u hu ho => ?_⟩⟩
  rw [P.lu] at hu
  refine c2 (by simpa using e) u hu ((hc v hv).2 u hu ⟨ho.1, fun h => ho.2 ?_⟩)
  rcases P.way h1 u hu with h' | ⟨h0, h2, h3⟩
  · rw [h', h]
  · exact absurd h h3
/-- A failure is in a closed set. -/
theorem closed_fail {may : List (List Bool)} {used : List Int} {m : Int} (hm : 0 ≤ m) {seen : List Bool} (h0 : ∀ u, gt seen u = false) {r : Bool × List Int × List Bool} (P : PlOK may m used seen r) (h1 : r.1 = false) : ∃ T : Int → Bool, T m = true ∧ Closed may used T := by
  refine ⟨fun v => v == m || (List.range used.length).any fun u => gt r.2.2 u && gt used u == v, by simp, fun v hv => ?_⟩
  have hin : ∀ u, u < used.length → gt r.2.2 u = true → (fun v => v == m || (List.range used.length).any fun u => gt r.2.2 u && gt used u == v) (gt used u) = true := fun u hu hs => by
    simp only [Bool.or_eq_true, List.any_eq_true, List.mem_range, Bool.and_eq_true, beq_iff_eq]
    exact .inr ⟨u, hu, hs, rfl⟩
  simp only [Bool.or_eq_true, List.any_eq_true, List.mem_range, Bool.and_eq_true, beq_iff_eq] at hv
  rcases hv with rfl | ⟨u, hu, hs, rfl⟩
  · exact ⟨hm, fun u hu ho => hin u hu (P.all h1 u hu ho)⟩
  · obtain ⟨a, b⟩ := P.clos h1 u hu hs (h0 u)
    exact ⟨a, fun x hx ho => hin x hx (b x hx ho)⟩
def fillM (may : List (List Bool)) (m : Int) : Nat → List Int → Bool × List Int
  | 0, used => (false, used)
  | k + 1, used =>
    let r := placeF may (used.length + 1) m used (List.replicate used.length false)
    if r.1 = true then fillM may m k r.2.1 else (true, r.2.1)
def fillS (may : List (List Bool)) : List Int → Nat → List Int → List Int → List Int × List Int
  | [], _, used, lack => (lack, used)
  | n :: ns, m, used, lack =>
    let r := fillM may (m : Int) n.toNat used
    fillS may ns (m + 1) r.2 (if r.1 = true then lack ++ [(m : Int)] else lack)
/-- What stays while matches are filled. -/
structure Kept (may : List (List Bool)) (used used' : List Int) : Prop where
  len : used'.length = used.length
  rng : ∀ u, -2 ≤ gt used' u
  val : Valid may used'
  two : ∀ u, u < used.length → (gt used' u = -2 ↔ gt used u = -2)
  cls : ∀ T, Closed may used T → Closed may used' T
theorem Kept.refl {may : List (List Bool)} {used : List Int} (h1 : ∀ u, -2 ≤ gt used u) (h2 : Valid may used) : Kept may used used := ⟨rfl, h1, h2, fun _ _ => Iff.rfl, fun _ h => h⟩
theorem Kept.trans {may : List (List Bool)} {a b c : List Int} (h : Kept may a b) (k : Kept may b c) : Kept may a c :=
  ⟨k.len.trans h.len, k.rng, k.val, fun u hu => (k.two u (by rw [h.len]; exact hu)).trans (h.two u hu), fun T hT => k.cls T (h.cls T hT)⟩
theorem gt_rep (n u : Nat) : gt (List.replicate n false) u = false := by
  by_cases h : u < n
  · rw [gt_eq _ _ (by simpa using h)]; simp
  · exact gt_out (by simpa using h)
theorem un_rep (n : Nat) : un (List.replicate n false) = n := by simp [un, List.countP_replicate]
theorem gt_big {l : List Int} {u : Nat} (h : l.length ≤ u) : gt l u = 0 := by
  simp [gt, List.getD_eq_getElem?_getD, List.getElem?_eq_none h]
theorem kept_succ {may : List (List Bool)} {used : List Int} {m : Int} (hm : 0 ≤ m) {seen : List Bool} {r : Bool × List Int × List Bool} (P : PlOK may m used seen r) (h1 : r.1 = true) (hr : ∀ u, -2 ≤ gt used u) (hv : Valid may used) : Kept may used r.2.1 where
  len := P.lu
  rng := fun u => by
    by_cases hu : u < used.length
    · rcases P.way h1 u hu with h | ⟨h, _⟩
      · rw [h]; exact hr u
      · omega
    · rw [gt_big (by rw [P.lu]; omega)]; decide
  val := fun u hu h0 => by
    rw [P.lu] at hu
    rcases P.way h1 u hu with h | ⟨_, h, _⟩
    · rw [h] at h0 ⊢; exact hv u hu h0
    · exact h
  two := fun u hu => by
    rcases P.way h1 u hu with h | ⟨h0, h2, h3⟩
    · rw [h]
    · exact ⟨fun h => by omega, fun h => absurd h h3⟩
  cls := fun T hT => (closed_succ P h1 hT).2
theorem fillM_ok {may : List (List Bool)} {m : Int} (hm : 0 ≤ m) : ∀ (k : Nat) (used : List Int), (∀ u, -2 ≤ gt used u) → Valid may used →
    Kept may used (fillM may m k used).2 ∧ (∃ c, (∀ T : Int → Bool, T (-1) = false → (fillM may m k used).2.countP T = used.countP T + (if T m = true then c else 0)) ∧ ((fillM may m k used).1 = false → c = k) ∧ ((fillM may m k used).1 = true → c < k)) ∧
    ((fillM may m k used).1 = true → ∃ T : Int → Bool, T m = true ∧ Closed may (fillM may m k used).2 T)
  | 0, used, hr, hv => ⟨Kept.refl hr hv, ⟨0, fun T _ => by simp [fillM], fun _ => rfl, fun h => (by cases h)⟩, fun h => (by cases h)⟩
  | k + 1, used, hr, hv => by
    have P := place_ok (may := may) hr (used.length + 1) m (List.replicate used.length false) hm (by simp) (by rw [un_rep]; omega)
    by_cases h1 : (placeF may (used.length + 1) m used (List.replicate used.length false)).1 = true
    · have e : fillM may m (k + 1) used = fillM may m k (placeF may (used.length + 1) m used (List.replicate used.length false)).2.1 := by
        rw [fillM, if_pos h1]
      rw [e]
      have K := kept_succ hm P h1 hr hv
      obtain ⟨a, ⟨c, b1, b2, b3⟩, d⟩ := fillM_ok hm k _ K.rng K.val
      refine ⟨K.trans a, ⟨c + 1, fun T hT => ?_, fun h => by have := b2 h; omega, fun h => by have := b3 h; omega⟩, d⟩
      rw [b1 T hT, perm_count (P.perm h1) T hT]
      split <;> omega
    · have h1 := bool_f h1
      have e : fillM may m (k + 1) used = (true, used) := by
        rw [fillM, if_neg (by rw [h1]; decide), P.same h1]
      rw [e]
      exact ⟨Kept.refl hr hv, ⟨0, fun T _ => (by simp), fun h => (by cases h), fun _ => Nat.succ_pos _⟩, fun _ => closed_fail hm (gt_rep _) P h1⟩
end Go.Proofs.Ytcnleglfdnhagaa
end
section
set_option linter.unusedVariables false
namespace Go.Proofs.Ytcnleglfdnhagaa
open Go Go.Am
/-- How many umpires match v has. -/
abbrev cn (l : List Int) (v : Int) : Nat := l.countP (fun x => x == v)
theorem cn_fillM {may : List (List Bool)} {m : Int} (hm : 0 ≤ m) {k : Nat} {used : List Int} (hr : ∀ u, -2 ≤ gt used u) (hv : Valid may used) :
    (∀ v : Int, 0 ≤ v → v ≠ m → cn (fillM may m k used).2 v = cn used v) ∧ ((fillM may m k used).1 = false → cn (fillM may m k used).2 m = cn used m + k) ∧ ((fillM may m k used).1 = true → cn (fillM may m k used).2 m < cn used m + k) := by
  obtain ⟨_, ⟨c, b1, b2, b3⟩, _⟩ := fillM_ok hm k used hr hv
  refine ⟨fun v hv hne => ?_, fun h => ?_, fun h => ?_⟩
  · have := b1 (fun x => x == v) (by simp; omega)
    rw [if_neg (by simpa using Ne.symm hne)] at this
    simpa using this
  · have := b1 (fun x => x == m) (by simp; omega)
    rw [if_pos (by simp), b2 h] at this
    exact this
  · have := b1 (fun x => x == m) (by simp; omega)
    rw [if_pos (by simp)] at this
    have h2 := b3 h
    show List.countP (fun x => x == m) (fillM may m k used).2 < List.countP (fun x => x == m) used + k
    omega
structure FillOK (may : List (List Bool)) (ns : List Int) (m : Nat) (used lack : List Int) (new : List Int) : Prop where
  out : (fillS may ns m used lack).1 = lack ++ new
  kept : Kept may used (fillS may ns m used lack).2
  inn : ∀ v, v ∈ new → (m : Int) ≤ v ∧ v < m + ns.length ∧ ∃ T : Int → Bool, T v = true ∧ Closed may (fillS may ns m used lack).2 T
  full : ∀ j, j < ns.length → ((m + j : Nat) : Int) ∉ new → cn (fillS may ns m used lack).2 ((m + j : Nat) : Int) = cn used ((m + j : Nat) : Int) + (gt ns j).toNat
  less : ∀ j, j < ns.length → ((m + j : Nat) : Int) ∈ new → cn (fillS may ns m used lack).2 ((m + j : Nat) : Int) < cn used ((m + j : Nat) : Int) + (gt ns j).toNat
  rest : ∀ v : Int, 0 ≤ v → (v < m ∨ m + ns.length ≤ v) → cn (fillS may ns m used lack).2 v = cn used v
  num : new.length ≤ ns.length
theorem fillS_ok {may : List (List Bool)} : ∀ (ns : List Int) (m : Nat) (used lack : List Int), (∀ u, -2 ≤ gt used u) → Valid may used → ∃ new, FillOK may ns m used lack new
  | [], m, used, lack, hr, hv => ⟨[], by simp [fillS], Kept.refl hr hv, fun v h => by simp at h, fun j h => by simp at h, fun j h => by simp at h, fun _ _ _ => rfl, Nat.le_refl _⟩
  | n :: ns, m, used, lack, hr, hv => by
    have hm : 0 ≤ (m : Int) := by omega
    obtain ⟨K, _, hT⟩ := fillM_ok (may := may) hm n.toNat used hr hv
    obtain ⟨c1, c2, c3⟩ := cn_fillM (may := may) hm (k := n.toNat) hr hv
    obtain ⟨r, hR⟩ : ∃ r, r = fillM may (m : Int) n.toNat used := ⟨_, rfl⟩
    rw [← hR] at K hT c1 c2 c3
    obtain ⟨new, F⟩ := fillS_ok ns (m + 1) r.2 (if r.1 = true then lack ++ [(m : Int)] else lack) K.rng K.val
    have e : fillS may (n :: ns) m used lack = fillS may ns (m + 1) r.2 (if r.1 = true then lack ++ [(m : Int)] else lack) := by
      rw [fillS, ← hR]
    have hnew : (m : Int) ∉ new := fun h => by have := (F.inn _ h).1; omega
    have hm0 : cn (fillS may ns (m + 1) r.2 (if r.1 = true then lack ++ [(m : Int)] else lack)).2 (m : Int) = cn r.2 (m : Int) := F.rest _ hm (.inl (by omega))
    refine ⟨(if r.1 = true then [(m : Int)] else []) ++ new, ?_, by rw [e]; exact K.trans F.kept, fun v hv => ?_, fun j hj hn => ?_, fun j hj hn => ?_, fun v h0 hv => ?_, by have := F.num; rw [List.length_append]; split <;> (simp only [List.length_cons, List.length_nil]; omega)⟩
    · rw [e, F.out]
      split <;> simp
    · rw [e]
      rw [List.mem_append] at hv
      rcases hv with hv | hv
      · by_cases h : r.1 = true
        · rw [if_pos h] at hv
          obtain rfl : v = m := by simpa using hv
          obtain ⟨T, t1, t2⟩ := hT h
          exact ⟨by omega, by simp only [List.length_cons]; omega, T, t1, F.kept.cls T t2⟩
        · rw [if_neg h] at hv; simp at hv
      · obtain ⟨a, b, c⟩ := F.inn v hv
        exact ⟨by omega, by simp only [List.length_cons]; omega, c⟩
    · rw [e]
      rcases j with _ | j
      · have h : r.1 = false := by
          cases h : r.1
          · rfl
          · exfalso; apply hn; rw [h]; simp
        show cn (fillS may ns (m + 1) r.2 (if r.1 = true then lack ++ [(m : Int)] else lack)).2 (m : Int) = cn used (m : Int) + n.toNat
        rw [hm0, c2 h]
      · have h2 : ((m + 1 + j : Nat) : Int) ∉ new := fun h => hn (List.mem_append_right _ (by rw [show m + (j + 1) = m + 1 + j by omega]; exact h))
        have := F.full j (by simpa using hj) h2
        rw [c1 _ (by omega) (by omega)] at this
        rw [show m + (j + 1) = m + 1 + j by omega]
        exact this
    · rw [e]
      rcases j with _ | j
      · have h : r.1 = true := by
          cases h : r.1
          · rw [h] at hn; simp at hn; exact absurd hn hnew
          · rfl
        show cn (fillS may ns (m + 1) r.2 (if r.1 = true then lack ++ [(m : Int)] else lack)).2 (m : Int) < cn used (m : Int) + n.toNat
        rw [hm0]
        exact c3 h
      · have h2 : ((m + 1 + j : Nat) : Int) ∈ new := by
          rw [List.mem_append] at hn
          rcases hn with hn | hn
          · split at hn
            · have : ((m + (j + 1) : Nat) : Int) = m := by simpa using hn
              omega
            · simp at hn
          · rw [show m + 1 + j = m + (j + 1) by omega]; exact hn
        have := F.less j (by simpa using hj) h2
        rw [c1 _ (by omega) (by omega)] at this
        rw [show m + (j + 1) = m + 1 + j by omega]
        exact this
    · rw [e, F.rest v h0 (by simp only [List.length_cons] at hv; omega)]
      exact c1 v h0 (by simp only [List.length_cons] at hv; omega)
theorem count_le (T T2 : Int → Bool) : ∀ (l l' : List Int), l'.length = l.length → (∀ u, u < l.length → T (gt l' u) = true → T2 (gt l u) = true) → l'.countP T ≤ l.countP T2
  | [], [], _, _ => Nat.le_refl _
  | [], _ :: _, h, _ => by simp at h
  | _ :: _, [], h, _ => by simp at h
  | a :: l, b :: l', h, hs => by
    have ih := count_le T T2 l l' (by simpa using h) (fun u hu => hs (u + 1) (by simpa using hu))
    have h0 : T b = true → T2 a = true := hs 0 (by simp)
    rw [List.countP_cons, List.countP_cons]
    cases hb : T b <;> cases ha : T2 a <;> simp_all <;> omega
/-- Those of a set of matches below k. -/
abbrev cut (T : Int → Bool) (k : Nat) : Int → Bool := fun v => T v && (decide (0 ≤ v) && decide (v < k))
theorem cut_succ (T : Int → Bool) (k : Nat) : ∀ l : List Int, l.countP (cut T (k + 1)) = l.countP (cut T k) + (if T k = true then cn l k else 0)
  | [] => by simp
  | a :: l => by
    have ih : l.countP (cut T (k + 1)) = l.countP (cut T k) + (if T k = true then l.countP (fun x => x == (k : Int)) else 0) := cut_succ T k l
    have h : (if cut T (k + 1) a = true then 1 else 0) = (if cut T k a = true then 1 else 0) + (if T k = true then (if (a == (k : Int)) = true then 1 else 0) else 0) := by
      by_cases e : a = k
      · subst e
        cases hT : T k <;> simp [cut, hT] <;> omega
      · cases hT : T a
        · simp [cut, hT, e]
        · by_cases h1 : 0 ≤ a ∧ a < k
          · simp [cut, hT, e, h1.1, h1.2]; omega
          · have h2 : ¬ (0 ≤ a ∧ a < (k : Int) + 1) := by omega
            simp only [cut, hT, Bool.true_and, Bool.and_eq_true, decide_eq_true_eq, Int.natCast_add, Int.cast_ofNat_Int, if_neg h1, if_neg h2, beq_iff_eq, if_neg e]
            split <;> rfl
    rw [List.countP_cons, List.countP_cons, cn, List.countP_cons, ih, h]
    by_cases hT : T k = true
    · rw [if_pos hT, if_pos hT, if_pos hT]; omega
    · rw [if_neg hT, if_neg hT, if_neg hT]; omega
theorem cut_le (T : Int → Bool) (l l' : List Int) : ∀ k, (∀ j : Nat, j < k → T j = true → cn l j ≤ cn l' j) → l.countP (cut T k) ≤ l'.countP (cut T k)
  | 0, _ => by
    have : ∀ x : List Int, x.countP (cut T 0) = 0 := fun x => by
      rw [List.countP_eq_zero]
      intro a _ h
      simp only [cut, Bool.and_eq_true, decide_eq_true_eq] at h
      omega
    rw [this, this]; exact Nat.le_refl _
  | k + 1, h => by
    have ih := cut_le T l l' k (fun j hj => h j (by omega))
    have h0 := h k (by omega)
    rw [cut_succ, cut_succ]
    split
    · have := h0 (by assumption); omega
    · omega
theorem cut_lt (T : Int → Bool) (l l' : List Int) (i : Nat) (hi : T i = true) (hlt : cn l i < cn l' i) : ∀ k, i < k → (∀ j : Nat, j < k → T j = true → cn l j ≤ cn l' j) → l.countP (cut T k) < l'.countP (cut T k)
  | 0, h, _ => absurd h (Nat.not_lt_zero _)
  | k + 1, h, hs => by
    have h0 := hs k (by omega)
    rw [cut_succ, cut_succ]
    by_cases e : i = k
    · subst e
      have ih := cut_le T l l' i (fun j hj => hs j (by omega))
      rw [if_pos hi, if_pos hi]; omega
    · have ih := cut_lt T l l' i hi hlt k (by omega) (fun j hj => hs j (by omega))
      split
      · have := h0 (by assumption); omega
      · omega
/-- A full assignment. -/
structure Perf (may : List (List Bool)) (need used F : List Int) : Prop where
  len : F.length = used.length
  ok : ∀ u, u < used.length → 0 ≤ gt F u → okU may used (gt F u) u
  cnt : ∀ j, j < need.length → cn F j = (gt need j).toNat
theorem fill_complete {may : List (List Bool)} {need used F : List Int} (hr : ∀ u, -2 ≤ gt used u) (hz : ∀ u, u < used.length → gt used u < 0) (P : Perf may need used F) : (fillS may need 0 used []).1 = [] := by
  have hv : Valid may used := fun u hu h => by have := hz u hu; omega
  obtain ⟨new, K⟩ := fillS_ok (may := may) need 0 used [] hr hv
  have hc0 : ∀ v : Int, 0 ≤ v → cn used v = 0 := fun v h0 => by
    rw [cn, List.countP_eq_zero]
    intro x hx h
    obtain ⟨u, hu, rfl⟩ := List.getElem_of_mem hx
    have := hz u hu
    rw [gt_eq _ _ hu] at this
    have : used[u] = v := by simpa using h
    omega
  rw [K.out, List.nil_append]
  rcases new with _ | ⟨v, new⟩
  · rfl
  · exfalso
    obtain ⟨a, b, T, t1, t2⟩ := K.inn v (by simp)
    obtain ⟨fin, hfin⟩ : ∃ fin, fin = (fillS may need 0 used []).2 := ⟨_, rfl⟩
    have hlen := K.kept.len
    have hfull := K.full
    have hless := K.less
    have hrest := K.rest
    have htwo := K.kept.two
    rw [← hfin] at hlen hfull hless hrest htwo t2
    have hsub : F.countP (cut T need.length) ≤ fin.countP (cut T need.length) := by
      refine count_le _ _ fin F (by rw [P.len, hlen]) fun u hu ht => ?_
      rw [hlen] at hu
      simp only [cut, Bool.and_eq_true, decide_eq_true_eq] at ht ⊢
      have ho := P.ok u hu ht.2.1
      have hcl := (t2 _ ht.1).2 u (by rw [hlen]; exact hu) ⟨ho.1, fun h => ho.2 ((htwo u hu).1 h)⟩
      have h0 := (t2 _ hcl).1
      refine ⟨hcl, h0, ?_⟩
      by_cases hk : gt fin u < need.length
      · exact hk
      · exfalso
        have e := hrest (gt fin u) h0 (.inr (by omega))
        rw [hc0 _ h0, cn, List.countP_eq_zero] at e
        exact e (gt fin u) (by rw [gt_eq _ _ (by rw [hlen]; exact hu)]; exact List.getElem_mem _) (by simp)
    have hle : ∀ j : Nat, j < need.length → cn fin j ≤ cn F j := fun j hj => by
      rw [P.cnt j hj]
      by_cases h : ((0 + j : Nat) : Int) ∈ v :: new
      · have := hless j hj h
        rw [hc0 _ (by omega), Nat.zero_add, Nat.zero_add] at this
        exact Nat.le_of_lt this
      · have := hfull j hj h
        rw [hc0 _ (by omega), Nat.zero_add, Nat.zero_add] at this
        exact Nat.le_of_eq this
    have hlt : cn fin (v.toNat : Nat) < cn F (v.toNat : Nat) := by
      have := hless v.toNat (by omega) (by rw [Nat.zero_add, Int.toNat_of_nonneg (by omega)]; simp)
      rw [hc0 _ (by omega), Nat.zero_add, Nat.zero_add] at this
      rw [P.cnt _ (by omega)]
      exact this
    have := cut_lt T fin F v.toNat (by rw [Int.toNat_of_nonneg (by omega)]; exact t1) hlt need.length (by omega) (fun j hj _ => hle j hj)
    omega
theorem fill_sound {may : List (List Bool)} {need used : List Int} (hr : ∀ u, -2 ≤ gt used u) (hz : ∀ u, u < used.length → gt used u < 0) (h : (fillS may need 0 used []).1 = []) : Perf may need used (fillS may need 0 used []).2 := by
  have hv : Valid may used := fun u hu h => by have := hz u hu; omega
  obtain ⟨new, K⟩ := fillS_ok (may := may) need 0 used [] hr hv
  have hn : new = [] := by have := K.out; rw [h] at this; simpa using this.symm
  subst hn
  refine ⟨K.kept.len, fun u hu h0 => ⟨K.kept.val u (by rw [K.kept.len]; exact hu) h0, fun e => ?_⟩, fun j hj => ?_⟩
  · have := (K.kept.two u hu).2 e; omega
  · have := K.full j hj (by simp)
    rw [Nat.zero_add] at this
    rw [this]
    have : cn used (j : Int) = 0 := by
      rw [cn, List.countP_eq_zero]
      intro x hx h
      obtain ⟨u, hu, rfl⟩ := List.getElem_of_mem hx
      have := hz u hu
      rw [gt_eq _ _ hu] at this
      have : used[u] = (j : Int) := by simpa using h
      omega
    omega
end Go.Proofs.Ytcnleglfdnhagaa
end
section
set_option linter.unusedVariables false
namespace Go.Proofs.Ytcnleglfdnhagaa
open Go Go.Am
/-- A row without its first u. -/
def clr (row : List Bool) (u : Nat) : List Bool := (row.drop u).reverse ++ [] |>.reverse |> fun r => List.replicate (min u row.length) false ++ r
theorem clr_eq (row : List Bool) (u : Nat) : clr row u = List.replicate (min u row.length) false ++ row.drop u := by simp [clr]
theorem clr_gt {row : List Bool} {u i : Nat} : gt (clr row u) i = true ↔ u ≤ i ∧ gt row i = true := by
  rw [clr_eq]
  by_cases h : i < min u row.length
  · have e : gt (List.replicate (min u row.length) false ++ row.drop u) i = false := by
      simp only [gt, List.getD_eq_getElem?_getD]
      rw [List.getElem?_append_left (by simpa using h)]
      simp [h]
    rw [e]
    constructor
    · intro hh; cases hh
    · intro hh; omega
  · have e : gt (List.replicate (min u row.length) false ++ row.drop u) i = gt (row.drop u) (i - min u row.length) := by
      simp only [gt, List.getD_eq_getElem?_getD]
      rw [List.getElem?_append_right (by simpa using Nat.le_of_not_lt h)]
      simp
    rw [e]
    by_cases hu : u ≤ row.length
    · rw [Nat.min_eq_left hu] at h ⊢
      have : gt (row.drop u) (i - u) = gt row i := by
        simp only [gt, List.getD_eq_getElem?_getD, List.getElem?_drop]
        rw [show u + (i - u) = i by omega]
      rw [this]
      exact ⟨fun hh => ⟨by omega, hh⟩, fun hh => hh.2⟩
    · have h1 : gt (row.drop u) (i - min u row.length) = false := gt_out (by simp; omega)
      have h2 : gt row i = false := gt_out (by omega)
      rw [h1, h2]
      constructor
      · intro hh; cases hh
      · intro hh; cases hh.2
def goodC (may : List (List Bool)) (need used : List Int) (m u : Nat) : Bool :=
  (fillS (may.set m (clr (gt may m) u)) (need.set m (gt need m - 1)) 0 (used.set u (-2)) []).1 == []
def chooseL (may : List (List Bool)) (need used : List Int) (m : Nat) : Nat → Nat → Option Nat
  | 0, _ => none
  | k + 1, u => if gt (gt may m) u = true ∧ gt used u ≠ -2 ∧ goodC may need used m u = true then some u else chooseL may need used m k (u + 1)
theorem choose_find {may : List (List Bool)} {need used : List Int} {m : Nat} : ∀ (k u w : Nat), u ≤ w → w < u + k → (gt (gt may m) w = true ∧ gt used w ≠ -2 ∧ goodC may need used m w = true) →
    ∃ v, chooseL may need used m k u = some v ∧ u ≤ v ∧ v ≤ w ∧ gt (gt may m) v = true ∧ gt used v ≠ -2 ∧ goodC may need used m v = true
  | 0, u, w, h1, h2, _ => by omega
  | k + 1, u, w, h1, h2, h => by
    by_cases hc : gt (gt may m) u = true ∧ gt used u ≠ -2 ∧ goodC may need used m u = true
    · exact ⟨u, by rw [chooseL, if_pos hc], Nat.le_refl _, h1, hc⟩
    · have hne : u ≠ w := fun e => by subst e; exact hc h
      obtain ⟨v, a, b, c⟩ := choose_find k (u + 1) w (by omega) (by omega) h
      exact ⟨v, by rw [chooseL, if_neg hc]; exact a, by omega, c⟩
theorem least_of {F : List Int} {v : Int} : ∀ (n : Nat), 0 < (F.take n).countP (fun x => x == v) → ∃ w, w < F.length ∧ gt F w = v ∧ ∀ i, i < w → gt F i ≠ v := by
  intro n h
  have h2 : 0 < F.countP (fun x => x == v) := Nat.lt_of_lt_of_le h ((List.take_sublist n F).countP_le)
  clear h
  induction F with
  | nil => simp at h2
  | cons a F ih =>
    by_cases e : a = v
    · exact ⟨0, by simp, e, fun i hi => absurd hi (Nat.not_lt_zero _)⟩
    · rw [List.countP_cons, if_neg (by simpa using e), Nat.add_zero] at h2
      obtain ⟨w, h3, h4, h5⟩ := ih h2
      refine ⟨w + 1, by simpa using h3, h4, fun i hi => ?_⟩
      rcases i with _ | i
      · exact e
      · exact h5 i (by omega)
theorem cn_set {F : List Int} {w : Nat} (h : w < F.length) (x v : Int) : cn (F.set w x) v + (if gt F w = v then 1 else 0) = cn F v + (if x = v then 1 else 0) := by
  have := (perm_set F w x h).countP_eq (fun y => y == v)
  rw [List.countP_cons, List.countP_cons] at this
  simpa using this
/-- Before a choice: the umpires are free or gone, and there is a full assignment. -/
structure Stt (may : List (List Bool)) (need used : List Int) : Prop where
  lm : may.length = need.length
  rng : ∀ u, -2 ≤ gt used u
  neg : ∀ u, u < used.length → gt used u < 0
theorem okU_clr {may : List (List Bool)} {used : List Int} {m u i : Nat} {v : Int} (hm : m < may.length) (h0 : 0 ≤ v) : okU (may.set m (clr (gt may m) u)) used v i ↔ okU may used v i ∧ (v = m → u ≤ i) := by
  unfold okU
  by_cases e : v = m
  · subst e
    rw [Int.toNat_natCast, gt_set may m m _ hm, if_pos rfl, clr_gt]
    constructor
    · rintro ⟨⟨a, b⟩, c⟩; exact ⟨⟨b, c⟩, fun _ => a⟩
    · rintro ⟨⟨a, b⟩, c⟩; exact ⟨⟨c rfl, a⟩, b⟩
  · rw [gt_set_ne (show m ≠ v.toNat by omega)]
    constructor
    · intro h; exact ⟨h, fun h => absurd h e⟩
    · intro h; exact h.1
theorem used_set {used : List Int} {u i : Nat} (hu : u < used.length) : gt (used.set u (-2)) i ≠ -2 ↔ i ≠ u ∧ gt used i ≠ -2 := by
  rw [gt_set used u i (-2) hu]
  by_cases e : u = i
  · simp [e]
  · simp [e, Ne.symm e]
/-- One umpire is chosen: the least one with which the others can be filled. -/
theorem choose_step {may : List (List Bool)} {need used F : List Int} {m k s : Nat} (S : Stt may need used) (P : Perf may need used F) (hm : m < need.length) (hn : 1 ≤ gt need m) (hs : ∀ i, i < s → gt F i ≠ m) (hk : used.length ≤ s + k) :
    ∃ u, chooseL may need used m k s = some u ∧ s ≤ u ∧ u < used.length ∧ gt (gt may m) u = true ∧ gt used u ≠ -2 ∧ Stt may (need.set m (gt need m - 1)) (used.set u (-2)) ∧
      ∃ F1, Perf may (need.set m (gt need m - 1)) (used.set u (-2)) F1 ∧ ∀ i, i < u + 1 → gt F1 i ≠ m := by
  have hcnt := P.cnt m hm
  obtain ⟨w, hw, hwm, hwl⟩ := least_of (F := F) (v := (m : Int)) F.length (by rw [List.take_length]; show 0 < cn F m; omega)
  have hws : s ≤ w := Nat.le_of_not_lt fun h => hs w h hwm
  have hwu : w < used.length := by rw [← P.len]; exact hw
  have hok := P.ok w hwu (by omega)
  rw [hwm] at hok
  have hrow : gt (gt may m) w = true := by have := hok.1; rwa [Int.toNat_natCast] at this
  have stt : ∀ u, u < used.length → Stt may (need.set m (gt need m - 1)) (used.set u (-2)) := fun u hu => ⟨by rw [List.length_set]; exact S.lm, fun i => by
      rw [gt_set used u i _ hu]; split
      · decide
      · exact S.rng i, fun i hi => by
      rw [gt_set used u i _ hu]; split
      · decide
      · exact S.neg i (by simpa using hi)⟩
  have hgood : goodC may need used m w = true := by
    unfold goodC
    rw [beq_iff_eq]
    refine fill_complete (F := F.set w (-1)) (stt w hwu).rng (stt w hwu).neg ⟨by simp [P.len], fun i hi h0 => ?_, fun j hj => ?_⟩
    · rw [List.length_set] at hi
      have hne : w ≠ i := fun e => by subst e; rw [gt_set F w w _ hw, if_pos rfl] at h0; omega
      rw [gt_set_ne hne] at h0 ⊢
      refine (okU_clr (by rw [S.lm]; exact hm) h0).2 ⟨⟨(P.ok i hi h0).1, (used_set hwu).2 ⟨Ne.symm hne, (P.ok i hi h0).2⟩⟩, fun e => ?_⟩
      exact Nat.le_of_not_lt fun h => hwl i h e
    · rw [List.length_set] at hj
      have h1 := cn_set hw (-1) (j : Int)
      rw [hwm, if_neg (show ¬ (-1 : Int) = j by omega)] at h1
      rw [gt_set need m j _ hm]
      by_cases e : m = j
      · subst e
        rw [if_pos rfl] at h1
        rw [if_pos rfl]
        omega
      · rw [if_neg (by omega)] at h1
        rw [if_neg e, ← P.cnt j hj]
        omega
  obtain ⟨u, a, b, c, d1, d2, d3⟩ := choose_find (may := may) (need := need) (used := used) (m := m) k s w hws (by omega) ⟨hrow, hok.2, hgood⟩
  have huu : u < used.length := by omega
  refine ⟨u, a, b, huu, d1, d2, stt u huu, ?_⟩
  unfold goodC at d3
  rw [beq_iff_eq] at d3
  have Q := fill_sound (stt u huu).rng (stt u huu).neg d3
  obtain ⟨F1, hF⟩ : ∃ F1, F1 = (fillS (may.set m (clr (gt may m) u)) (need.set m (gt need m - 1)) 0 (used.set u (-2)) []).2 := ⟨_, rfl⟩
  rw [← hF] at Q
  refine ⟨F1, ⟨Q.len, fun i hi h0 => ((okU_clr (by rw [S.lm]; exact hm) h0).1 (Q.ok i hi h0)).1, Q.cnt⟩, fun i hi e => ?_⟩
  have hiu : i < used.length := by omega
  have h1 := (okU_clr (by rw [S.lm]; exact hm) (by rw [e]; omega)).1 (Q.ok i (by simpa using hiu) (by rw [e]; omega))
  have h2 := h1.2 e
  have h3 := (used_set huu).1 h1.1.2
  omega
end Go.Proofs.Ytcnleglfdnhagaa
end
section
set_option linter.unusedVariables false
namespace Go.Proofs.Ytcnleglfdnhagaa
open Go Go.Am
structure PairOK (may : List (List Bool)) (need used : List Int) (m u1 u2 : Nat) : Prop where
  first : chooseL may need used m used.length 0 = some u1
  second : chooseL may (need.set m (gt need m - 1)) (used.set u1 (-2)) m (used.length - (u1 + 1)) (u1 + 1) = some u2
  lt : u1 < u2
  ltn : u2 < used.length
  row1 : gt (gt may m) u1 = true
  row2 : gt (gt may m) u2 = true
  free1 : gt used u1 ≠ -2
  free2 : gt used u2 ≠ -2
abbrev need2 (need : List Int) (m : Nat) : List Int := (need.set m (gt need m - 1)).set m (gt (need.set m (gt need m - 1)) m - 1)
abbrev used2 (used : List Int) (u1 u2 : Nat) : List Int := (used.set u1 (-2)).set u2 (-2)
theorem choose_pair {may : List (List Bool)} {need used F : List Int} {m : Nat} (S : Stt may need used) (P : Perf may need used F) (hm : m < need.length) (hn : gt need m = 2) :
    ∃ u1 u2, PairOK may need used m u1 u2 ∧ Stt may (need2 need m) (used2 used u1 u2) ∧ ∃ F2, Perf may (need2 need m) (used2 used u1 u2) F2 := by
  obtain ⟨u1, a1, a2, a3, a4, a5, S1, F1, P1, hF1⟩ := choose_step (k := used.length) (s := 0) S P hm (by omega) (fun i hi => absurd hi (Nat.not_lt_zero _)) (by omega)
  obtain ⟨u2, b1, b2, b3, b4, b5, S2, F2, P2, _⟩ := choose_step (k := used.length - (u1 + 1)) (s := u1 + 1) S1 P1 (by simpa using hm) (by rw [gt_set need m m _ hm, if_pos rfl]; omega) hF1 (by rw [List.length_set]; omega)
  exact ⟨u1, u2, ⟨a1, b1, by omega, by simpa using b3, a4, b4, a5, ((used_set a3).1 b5).2⟩, S2, F2, P2⟩
/-! ### The matches that lack -/
def lackRow (row : List Bool) (used : List Int) : Nat → Nat → List Bool → List Int → List Bool × List Int
  | 0, _, inn, q => (inn, q)
  | k + 1, u, inn, q =>
    if gt row u = true ∧ 0 ≤ gt used u ∧ gt inn (gt used u).toNat = false then lackRow row used k (u + 1) (inn.set (gt used u).toNat true) (q ++ [gt used u])
    else lackRow row used k (u + 1) inn q
def lackQ (may : List (List Bool)) (used : List Int) : Nat → List Bool → List Int → List Bool
  | 0, inn, _ => inn
  | f + 1, inn, q =>
    match q with
    | [] => inn
    | m :: q' => let r := lackRow (gt may m.toNat) used used.length 0 inn q'; lackQ may used f r.1 r.2
/-- The matches reached. -/
def lackO (inn : List Bool) : List Nat := (List.range inn.length).filter fun m => gt inn m
/-- What is on the way: in, or still to be looked at. -/
structure RowOK (row : List Bool) (used : List Int) (inn : List Bool) (q : List Int) (r : List Bool × List Int) (u : Nat) : Prop where
  len : r.1.length = inn.length
  mono : ∀ v, gt inn v = true → gt r.1 v = true
  keep : ∀ v, v ∈ q → v ∈ r.2
  new : ∀ v, v < inn.length → gt r.1 v = true → gt inn v = false → (v : Int) ∈ r.2
  old : ∀ v, v ∈ r.2 → v ∈ q ∨ (0 ≤ v ∧ gt r.1 v.toNat = true)
  all : ∀ x, u ≤ x → x < used.length → gt row x = true → 0 ≤ gt used x → gt r.1 (gt used x).toNat = true
  only : ∀ T : Int → Prop, (∀ v : Nat, gt inn v = true → T v) → (∀ x, x < used.length → gt row x = true → 0 ≤ gt used x → T (gt used x)) → ∀ v : Nat, gt r.1 v = true → T v
  size : un r.1 + r.2.length = un inn + q.length
theorem un_pos {l : List Bool} {v : Nat} (h : v < l.length) (h2 : gt l v = false) : 0 < un l := by
  have := un_set l v h h2
  omega
theorem lackRow_ok {row : List Bool} {used : List Int} : ∀ (k u : Nat) (inn : List Bool) (q : List Int), u + k = used.length → (∀ x, x < used.length → gt used x < inn.length) → RowOK row used inn q (lackRow row used k u inn q) u
  | 0, u, inn, q, hk, hb => ⟨rfl, fun _ h => h, fun _ h => h, fun v _ h1 h2 => (by have h1 : gt inn v = true := h1; rw [h1] at h2; cases h2), fun v h => .inl h, fun x h1 h2 => (by omega), fun T h1 _ => h1, rfl⟩
  | k + 1, u, inn, q, hk, hb => by
    by_cases hc : gt row u = true ∧ 0 ≤ gt used u ∧ gt inn (gt used u).toNat = false
    · have hbu := hb u (by omega)
      have hlt : (gt used u).toNat < inn.length := by omega
      have R := lackRow_ok (row := row) (used := used) k (u + 1) (inn.set (gt used u).toNat true) (q ++ [gt used u]) (by omega) (by simpa using hb)
      have e : lackRow row used (k + 1) u inn q = lackRow row used k (u + 1) (inn.set (gt used u).toNat true) (q ++ [gt used u]) := by rw [lackRow, if_pos hc]
      rw [e]
      have hun := un_set inn _ hlt hc.2.2
      refine ⟨by rw [R.len, List.length_set], fun v hv => R.mono v ((seen_set hlt).2 (.inr hv)), fun v hv => R.keep v (List.mem_append_left _ hv), fun v hv h1 h2 => ?_, fun v hv => ?_, fun x h1 h2 h3 h4 => ?_, fun T h1 h2 => ?_, ?_⟩
      · by_cases hh : v = (gt used u).toNat
        · have : (v : Int) = gt used u := by omega
          rw [this]
          exact R.keep _ (List.mem_append_right _ (by simp))
        · exact R.new v (by simpa using hv) h1 (by rw [gt_set_ne (Ne.symm hh)]; exact h2)
      · rcases R.old v hv with h | h
        · rw [List.mem_append] at h
          rcases h with h | h
          · exact .inl h
          · obtain rfl : v = gt used u := by simpa using h
            exact .inr ⟨hc.2.1, R.mono _ ((seen_set hlt).2 (.inl rfl))⟩
        · exact .inr h
      · by_cases hh : x = u
        · subst hh; exact R.mono _ ((seen_set hlt).2 (.inl rfl))
        · exact R.all x (by omega) h2 h3 h4
      · refine R.only T (fun v hv => ?_) h2
        rcases (seen_set hlt).1 hv with rfl | h
        · have := h2 u (by omega) hc.1 hc.2.1
          rwa [Int.toNat_of_nonneg hc.2.1]
        · exact h1 v h
      · rw [R.size, List.length_append]
        simp only [List.length_cons, List.length_nil]
        omega
    · have R := lackRow_ok (row := row) (used := used) k (u + 1) inn q (by omega) hb
      have e : lackRow row used (k + 1) u inn q = lackRow row used k (u + 1) inn q := by rw [lackRow, if_neg hc]
      rw [e]
      refine ⟨R.len, R.mono, R.keep, R.new, R.old, fun x h1 h2 h3 h4 => ?_, R.only, R.size⟩
      by_cases hh : x = u
      · subst hh
        by_cases h5 : gt inn (gt used x).toNat = true
        · exact R.mono _ h5
        · exact absurd ⟨h3, h4, bool_f h5⟩ hc
      · exact R.all x (by omega) h2 h3 h4
/-- What the search has at its end. -/
structure ReachOK (may : List (List Bool)) (used : List Int) (inn res : List Bool) : Prop where
  len : res.length = inn.length
  mono : ∀ v, gt inn v = true → gt res v = true
  clos : ∀ v : Nat, gt res v = true → ∀ x, x < used.length → gt (gt may v) x = true → 0 ≤ gt used x → gt res (gt used x).toNat = true
  only : ∀ T : Int → Prop, (∀ v : Nat, gt inn v = true → T v) → (∀ v : Nat, T v → ∀ x, x < used.length → gt (gt may v) x = true → 0 ≤ gt used x → T (gt used x)) → ∀ v : Nat, gt res v = true → T v
theorem lackQ_ok {may : List (List Bool)} {used : List Int} : ∀ (f : Nat) (inn : List Bool) (q : List Int), un inn + q.length < f → (∀ x, x < used.length → gt used x < inn.length) → (∀ v, v ∈ q → 0 ≤ v ∧ gt inn v.toNat = true) →
    (∀ v : Nat, gt inn v = true → (v : Int) ∈ q ∨ ∀ x, x < used.length → gt (gt may v) x = true → 0 ≤ gt used x → gt inn (gt used x).toNat = true) → ReachOK may used inn (lackQ may used f inn q)
  | 0, _, _, h, _, _, _ => absurd h (Nat.not_lt_zero _)
  | f + 1, inn, [], h, hb, hq, hi => ⟨rfl, fun _ h => h, fun v hv => by
      rcases hi v hv with h | h
      · simp at h
      · exact h, fun T h1 _ => h1⟩
  | f + 1, inn, m :: q, h, hb, hq, hi => by
    have R := lackRow_ok (row := gt may m.toNat) (used := used) used.length 0 inn q (by omega) hb
    obtain ⟨r, hr⟩ : ∃ r, r = lackRow (gt may m.toNat) used used.length 0 inn q := ⟨_, rfl⟩
    rw [← hr] at R
    have e : lackQ may used (f + 1) inn (m :: q) = lackQ may used f r.1 r.2 := by rw [lackQ, ← hr]
    rw [e]
    obtain ⟨hm0, hm1⟩ := hq m (by simp)
    have K := lackQ_ok (may := may) (used := used) f r.1 r.2 (by have := R.size; simp only [List.length_cons] at h; omega) (by rw [R.len]; exact hb) (fun v hv => by
      rcases R.old v hv with h | h
      · have := hq v (by simp [h]); exact ⟨this.1, R.mono _ this.2⟩
      · exact h) (fun v hv => by
      by_cases h1 : gt inn v = true
      · rcases hi v h1 with h2 | h2
        · simp only [List.mem_cons] at h2
          rcases h2 with h2 | h2
          · have e2 : m.toNat = v := by omega
            rw [← e2]
            exact .inr fun x hx h3 h4 => R.all x (Nat.zero_le _) hx h3 h4
          · exact .inl (R.keep _ h2)
        · exact .inr fun x hx h3 h4 => R.mono _ (h2 x hx h3 h4)
      · by_cases hvl : v < inn.length
        · exact .inl (R.new v hvl hv (bool_f h1))
        · have := gt_out (l := r.1) (i := v) (by rw [R.len]; omega)
          rw [this] at hv; cases hv)
    refine ⟨by rw [K.len, R.len], fun v hv => K.mono v (R.mono v hv), K.clos, fun T h1 h2 => K.only T (R.only T h1 ?_) h2⟩
    exact h2 m.toNat (h1 m.toNat hm1)
end Go.Proofs.Ytcnleglfdnhagaa
end
section
set_option linter.unusedVariables false
namespace Go.Proofs.Ytcnleglfdnhagaa
open Go Go.Am
def markL (lack : List Int) (inn : List Bool) : List Bool := lack.foldl (fun b v => b.set v.toNat true) inn
theorem mark_len : ∀ (lack : List Int) (inn : List Bool), (markL lack inn).length = inn.length
  | [], _ => rfl
  | v :: lack, inn => by
    show (markL lack (inn.set v.toNat true)).length = _
    rw [mark_len lack, List.length_set]
theorem mark_gt : ∀ (lack : List Int) (inn : List Bool) (v : Nat), (∀ x, x ∈ lack → 0 ≤ x ∧ x < inn.length) → (gt (markL lack inn) v = true ↔ (v : Int) ∈ lack ∨ gt inn v = true)
  | [], inn, v, _ => by simp [markL]
  | x :: lack, inn, v, h => by
    have hx := h x (by simp)
    have e : gt (markL (x :: lack) inn) v = gt (markL lack (inn.set x.toNat true)) v := rfl
    rw [e, mark_gt lack _ v (fun y hy => by have := h y (by simp [hy]); simpa using this), seen_set (by omega)]
    simp only [List.mem_cons]
    constructor
    · rintro (h1 | rfl | h1)
      · exact .inl (.inr h1)
      · exact .inl (.inl (by omega))
      · exact .inr h1
    · rintro ((h1 | h1) | h1)
      · exact .inr (.inl (by omega))
      · exact .inl h1
      · exact .inr (.inr h1)
theorem cut_two (T : Int → Bool) (l : List Int) : ∀ k, (∀ j : Nat, j < k → T j = true → cn l j ≤ 2) → l.countP (cut T k) ≤ 2 * ((List.range k).filter fun j => T (j : Nat)).length
  | 0, _ => by
    have : l.countP (cut T 0) = 0 := by
      rw [List.countP_eq_zero]
      intro a _ h
      simp only [cut, Bool.and_eq_true, decide_eq_true_eq] at h
      omega
    rw [this]; exact Nat.zero_le _
  | k + 1, h => by
    have ih := cut_two T l k (fun j hj => h j (by omega))
    have h0 := h k (by omega)
    rw [cut_succ, List.range_succ, List.filter_append, List.length_append]
    by_cases hT : T k = true
    · have := h0 hT
      rw [if_pos hT]
      simp only [List.filter_cons, hT, if_true, List.filter_nil, List.length_cons, List.length_nil]
      omega
    · rw [if_neg hT]; omega
theorem cut_two_lt (T : Int → Bool) (l : List Int) (i : Nat) (hi : T i = true) (hlt : cn l i < 2) : ∀ k, i < k → (∀ j : Nat, j < k → T j = true → cn l j ≤ 2) → l.countP (cut T k) < 2 * ((List.range k).filter fun j => T (j : Nat)).length
  | 0, h, _ => absurd h (Nat.not_lt_zero _)
  | k + 1, h, hs => by
    have h0 := hs k (by omega)
    rw [cut_succ, List.range_succ, List.filter_append, List.length_append]
    by_cases e : i = k
    · subst e
      have ih := cut_two T l i (fun j hj => hs j (by omega))
      rw [if_pos hi]
      simp only [List.filter_cons, hi, if_true, List.filter_nil, List.length_cons, List.length_nil]
      omega
    · have ih := cut_two_lt T l i hi hlt k (by omega) (fun j hj => hs j (by omega))
      by_cases hT : T k = true
      · have := h0 hT
        rw [if_pos hT]
        simp only [List.filter_cons, hT, if_true, List.filter_nil, List.length_cons, List.length_nil]
        omega
      · rw [if_neg hT]; omega
/-- The matches that lack, of a day. -/
def dayFill (may : List (List Bool)) (n : Nat) : List Int × List Int := fillS may (List.replicate may.length 2) 0 (List.replicate n (-1)) []
def dayLack (may : List (List Bool)) (n : Nat) : List Nat :=
  let r := dayFill may n
  lackO (lackQ may r.2 (2 * may.length + 2) (markL r.1 (List.replicate may.length false)) r.1)
theorem gt_repI (n u : Nat) : gt (List.replicate n (-1 : Int)) u = if u < n then -1 else 0 := by
  by_cases h : u < n
  · rw [gt_eq _ _ (by simpa using h), if_pos h]; simp
  · rw [gt_big (by simpa using h), if_neg h]
theorem cn_rep (n : Nat) {v : Int} (h : 0 ≤ v) : cn (List.replicate n (-1)) v = 0 := by
  rw [cn, List.countP_eq_zero]
  intro x hx e
  have := List.eq_of_mem_replicate hx
  have : x = v := by simpa using e
  omega
theorem day_perf {may : List (List Bool)} {n : Nat} (h : (dayFill may n).1 = []) : Stt may (List.replicate may.length 2) (List.replicate n (-1)) ∧ ∃ F, Perf may (List.replicate may.length 2) (List.replicate n (-1)) F := by
  have hr : ∀ u, -2 ≤ gt (List.replicate n (-1 : Int)) u := fun u => by rw [gt_repI]; split <;> decide
  have hz : ∀ u, u < (List.replicate n (-1 : Int)).length → gt (List.replicate n (-1 : Int)) u < 0 := fun u hu => by rw [gt_repI, if_pos (by simpa using hu)]; decide
  exact ⟨⟨by simp, hr, hz⟩, _, fill_sound hr hz h⟩
theorem gt_rep2 (k j : Nat) (h : j < k) : gt (List.replicate k (2 : Int)) j = 2 := by rw [gt_eq _ _ (by simpa using h)]; simp
/-- Fewer may stand in those matches than they need. -/
theorem day_lack {may : List (List Bool)} {n : Nat} (h : (dayFill may n).1 ≠ []) : ((List.range n).filter fun u => (dayLack may n).any fun i => gt (gt may i) u).length < 2 * (dayLack may n).length ∧ (∀ i, i ∈ dayLack may n → i < may.length) := by
  have hr : ∀ u, -2 ≤ gt (List.replicate n (-1 : Int)) u := fun u => by rw [gt_repI]; split <;> decide
  have hv : Valid may (List.replicate n (-1 : Int)) := fun u hu h0 => by rw [gt_repI, if_pos (by simpa using hu)] at h0; omega
  obtain ⟨new, K⟩ := fillS_ok (may := may) (List.replicate may.length 2) 0 (List.replicate n (-1)) [] hr hv
  have hout := K.out
  rw [List.nil_append] at hout
  obtain ⟨used, hu⟩ : ∃ used, used = (dayFill may n).2 := ⟨_, rfl⟩
  have hlen : used.length = n := by rw [hu]; simpa [dayFill] using K.kept.len
  have hinn : ∀ v, v ∈ new → 0 ≤ v ∧ v < may.length ∧ ∃ T : Int → Bool, T v = true ∧ Closed may used T := fun v hv => by
    obtain ⟨a, b, c⟩ := K.inn v hv
    rw [hu]
    exact ⟨by omega, by simpa using b, c⟩
  have hcn : ∀ j : Nat, j < may.length → cn used j ≤ 2 ∧ ((j : Int) ∈ new → cn used j < 2) := fun j hj => by
    have f := K.full j (by simpa using hj)
    have l := K.less j (by simpa using hj)
    rw [Nat.zero_add, cn_rep _ (by omega), gt_rep2 _ _ hj] at f l
    by_cases hm : (j : Int) ∈ new
    · have := l hm
      rw [hu]
      exact ⟨Nat.le_of_lt (by simpa [dayFill] using this), fun _ => by simpa [dayFill] using this⟩
    · have := f hm
      rw [hu]
      exact ⟨Nat.le_of_eq (by simpa [dayFill] using this), fun h => absurd h hm⟩
  have hbig : ∀ x, x < used.length → gt used x < may.length := fun x hx => by
    by_cases hb : gt used x < may.length
    · exact hb
    · exfalso
      have e := K.rest (gt used x) (by omega) (.inr (by simp; omega))
      rw [cn_rep _ (by omega)] at e
      have e : cn used (gt used x) = 0 := by rw [hu] at e ⊢; exact e
      rw [cn, List.countP_eq_zero] at e
      exact e (gt used x) (by rw [gt_eq _ _ hx]; exact List.getElem_mem _) (by simp)
  have hne2 : ∀ x, x < used.length → gt used x ≠ -2 := fun x hx e => by
    have := (K.kept.two x (by simpa [hlen] using hx)).1 (by rw [hu] at e; exact e)
    rw [gt_repI] at this
    split at this <;> omega
  have hnew : (dayFill may n).1 = new := hout
  rw [hnew] at h
  have hinb : ∀ x, x ∈ new → 0 ≤ x ∧ x < (List.replicate may.length false).length := fun x hx => by
    have := hinn x hx
    exact ⟨this.1, by simpa using this.2.1⟩
  obtain ⟨i0, hi0⟩ : ∃ i0, i0 = markL new (List.replicate may.length false) := ⟨_, rfl⟩
  have hi0l : i0.length = may.length := by rw [hi0, mark_len]; simp
  have hi0g : ∀ v : Nat, gt i0 v = true ↔ (v : Int) ∈ new := fun v => by
    rw [hi0, mark_gt _ _ _ hinb, gt_rep]; simp
  have hnl : new.length ≤ may.length := by simpa using K.num
  have hun : un i0 ≤ may.length := by
    unfold un
    rw [← hi0l]
    exact List.countP_le_length
  have R := lackQ_ok (may := may) (used := used) (2 * may.length + 2) i0 new (by omega) (by rw [hi0l]; exact hbig) (fun v hv => ⟨(hinn v hv).1, by rw [hi0g, Int.toNat_of_nonneg (hinn v hv).1]; exact hv⟩) (fun v hv => .inl ((hi0g v).1 hv))
  obtain ⟨res, hres⟩ : ∃ res, res = lackQ may used (2 * may.length + 2) i0 new := ⟨_, rfl⟩
  rw [← hres] at R
  have hlk : dayLack may n = lackO res := by
    show lackO (lackQ may (dayFill may n).2 (2 * may.length + 2) (markL (dayFill may n).1 (List.replicate may.length false)) (dayFill may n).1) = _
    rw [hnew, ← hu, ← hi0, ← hres]
  have hrl : res.length = may.length := by rw [R.len, hi0l]
  have honly : ∀ v : Nat, gt res v = true → ∃ T : Int → Bool, T v = true ∧ Closed may used T := R.only (fun v => ∃ T : Int → Bool, T v = true ∧ Closed may used T) (fun v hv => (hinn v ((hi0g v).1 hv)).2.2) (fun v ⟨T, t1, t2⟩ x hx hm h0 => ⟨T, (t2 v t1).2 x hx ⟨by rw [Int.toNat_natCast]; exact hm, hne2 x hx⟩, t2⟩)
  have hcl : ∀ v : Nat, gt res v = true → ∀ x, x < used.length → gt (gt may v) x = true → 0 ≤ gt used x ∧ gt res (gt used x).toNat = true := fun v hv x hx hm => by
    obtain ⟨T, t1, t2⟩ := honly v hv
    have h0 := (t2 _ ((t2 v t1).2 x hx ⟨by rw [Int.toNat_natCast]; exact hm, hne2 x hx⟩)).1
    exact ⟨h0, R.clos v hv x hx hm h0⟩
  obtain ⟨Rb, hRb⟩ : ∃ Rb : Int → Bool, Rb = fun v => decide (0 ≤ v) && gt res v.toNat := ⟨_, rfl⟩
  have hRbn : ∀ j : Nat, Rb (j : Int) = gt res j := fun j => by rw [hRb]; simp
  rw [hlk]
  refine ⟨?_, fun i hi => by
    unfold lackO at hi
    rw [List.mem_filter, List.mem_range, hrl] at hi
    exact hi.1⟩
  have h1 : ((List.range n).filter fun u => (lackO res).any fun i => gt (gt may i) u).length ≤ used.countP (cut Rb may.length) := by
    have e : used = (List.range n).map fun u => gt used u := by
      apply List.ext_getElem
      · simp [hlen]
      · intro i h1 h2
        simp [gt_eq _ _ h1]
    rw [e, List.countP_map, ← List.countP_eq_length_filter]
    refine List.countP_mono_left fun u hu ha => ?_
    rw [List.mem_range] at hu
    rw [List.any_eq_true] at ha
    obtain ⟨i, hi, hm⟩ := ha
    unfold lackO at hi
    rw [List.mem_filter] at hi
    obtain ⟨a, b⟩ := hcl i hi.2 u (by rw [hlen]; exact hu) hm
    have c := hbig u (by rw [hlen]; exact hu)
    simp only [Function.comp, cut, Bool.and_eq_true, decide_eq_true_eq, hRb]
    exact ⟨⟨a, b⟩, a, c⟩
  have hle : (lackO res).length = ((List.range may.length).filter fun j => Rb (j : Nat)).length := by
    unfold lackO
    rw [hrl]
    congr 1
    exact List.filter_congr fun j _ => (hRbn j).symm
  rw [hle]
  obtain ⟨v, hvn⟩ : ∃ v, v ∈ new := by
    cases new with
    | nil => exact absurd rfl h
    | cons v _ => exact ⟨v, by simp⟩
  obtain ⟨v0, v1, _⟩ := hinn v hvn
  have hvc : ((v.toNat : Nat) : Int) = v := Int.toNat_of_nonneg v0
  refine Nat.lt_of_le_of_lt h1 (cut_two_lt Rb used v.toNat ?_ ?_ may.length (by omega) (fun j hj _ => (hcn j hj).1))
  · rw [hRbn]
    exact R.mono _ ((hi0g _).2 (by rw [hvc]; exact hvn))
  · exact (hcn v.toNat (by omega)).2 (by rw [hvc]; exact hvn)
end Go.Proofs.Ytcnleglfdnhagaa
end
