/-
  The way to the sink and what becomes of a flow that is raised along it: plain proofs.
-/
import Derived.Test.YtdicnojnkbmdlaaQB
set_option linter.unusedVariables false
namespace Go.Proofs.Ytdicnojnkbmdlaa
open Go Go.Am

def TreeN (n s : Int) (E : List Ed) (f : List Int) (way : List Int) : Nat → Int → Prop
  | 0, v => v = s
  | k + 1, v => v ≠ s ∧ 0 ≤ v ∧ v < n ∧ ArcOK E f (gt way v.toNat) ∧ headE E (gt way v.toNat) = v ∧ TreeN n s E f way k (tailE E (gt way v.toNat))
def wayN (E : List Ed) (way : List Int) : Nat → Int → List Int
  | 0, _ => []
  | k + 1, v => gt way v.toNat :: wayN E way k (tailE E (gt way v.toNat))
theorem wayN_len {E : List Ed} {way : List Int} : ∀ (k : Nat) (v : Int), (wayN E way k v).length = k
  | 0, _ => rfl
  | k + 1, v => by rw [wayN, List.length_cons, wayN_len k]
theorem tree_uni {n s : Int} {E : List Ed} {f way : List Int} : ∀ {k m : Nat} {v : Int}, TreeN n s E f way k v → TreeN n s E f way m v → k = m
  | 0, 0, _, _, _ => rfl
  | 0, m + 1, v, h1, h2 => absurd h1 h2.1
  | k + 1, 0, v, h1, h2 => absurd h2 h1.1
  | k + 1, m + 1, v, h1, h2 => by rw [tree_uni h1.2.2.2.2.2 h2.2.2.2.2.2]
def posArc (E : List Ed) (ord : List Int) (k : Nat) (c : Int) : Prop := ∃ j i, i < j ∧ j ≤ k ∧ j < ord.length ∧ headE E c = gt ord j ∧ tailE E c = gt ord i
theorem tree_of {n s : Int} {E : List Ed} {f : List Int} {st : BS} {ord : List Int} (R : RInv n s E f st ord) : ∀ (k : Nat), k < ord.length →
    ∃ m, TreeN n s E f st.way m (gt ord k) ∧ ((wayN E st.way m (gt ord k)).map ixE).Nodup ∧ ∀ c, c ∈ wayN E st.way m (gt ord k) → posArc E ord k c ∧ ArcOK E f c := by
  intro k
  induction k using Nat.strongRecOn with
  | ind k ih =>
    intro hk
    by_cases h0 : k = 0
    · subst h0
      exact ⟨0, R.hd, by simp [wayN], fun c hc => by simp [wayN] at hc⟩
    · obtain ⟨a1, a2, i, a3, a4⟩ := R.arc k (by omega) hk
      obtain ⟨m, b1, b2, b3⟩ := ih i a3 (by omega)
      have hr := R.rng k hk
      have hs : gt ord k ≠ s := fun h => by
        have := R.inj k 0 hk R.pos (h.trans R.hd.symm)
        omega
      refine ⟨m + 1, ⟨hs, hr.1, hr.2, a1, a2, by rw [a4]; exact b1⟩, ?_, fun c hc => ?_⟩
      · rw [wayN, List.map_cons, List.nodup_cons, a4]
        refine ⟨fun hm => ?_, b2⟩
        obtain ⟨c, hc, hi⟩ := List.mem_map.1 hm
        obtain ⟨⟨j, l, q1, q2, q3, q4, q5⟩, _⟩ := b3 c hc
        generalize gt st.way (gt ord k).toNat = c0 at hi a1 a2 a4
        by_cases hp : 0 < c <;> by_cases hp0 : 0 < c0
        · have e : headE E c = headE E c0 := by rw [headE, headE, if_pos hp, if_pos hp0, hi]
          have := R.inj j k q3 hk (by rw [← q4, e, a2])
          omega
        · have e : headE E c = tailE E c0 := by rw [headE, tailE, if_pos hp, if_neg hp0, hi]
          have e2 : tailE E c = headE E c0 := by rw [headE, tailE, if_pos hp, if_neg hp0, hi]
          have := R.inj l k (by omega) hk (by rw [← q5, e2, a2])
          omega
        · have e : headE E c = tailE E c0 := by rw [headE, tailE, if_neg hp, if_pos hp0, hi]
          have e2 : tailE E c = headE E c0 := by rw [headE, tailE, if_neg hp, if_pos hp0, hi]
          have := R.inj l k (by omega) hk (by rw [← q5, e2, a2])
          omega
        · have e : headE E c = headE E c0 := by rw [headE, headE, if_neg hp, if_neg hp0, hi]
          have := R.inj j k q3 hk (by rw [← q4, e, a2])
          omega
      · rw [wayN, List.mem_cons, a4] at hc
        rcases hc with rfl | hc
        · exact ⟨⟨k, i, a3, Nat.le_refl _, hk, a2, a4⟩, a1⟩
        · obtain ⟨⟨j, l, q1, q2, q3, q4, q5⟩, q6⟩ := b3 c hc
          exact ⟨⟨j, l, q1, by omega, q3, q4, q5⟩, q6⟩
/-- The way along which a flow is raised. -/
structure WayOK (E : List Ed) (f : List Int) (w : List Int) : Prop where
  nd : (w.map ixE).Nodup
  arc : ∀ c, c ∈ w → ArcOK E f c
theorem tree_sink {n s t : Int} {E : List Ed} {f : List Int} (g : GOK n s t E) (h : gt (reachS n s E f).seen t.toNat = true) :
    ∃ m, TreeN n s E f (reachS n s E f).way m t ∧ WayOK E f (wayN E (reachS n s E f).way m t) := by
  obtain ⟨ord, so, R, _⟩ := reach_inv f g
  obtain ⟨k, hk, hkt⟩ := (R.seen t g.t0 g.t1).1 h
  obtain ⟨m, h1, h2, h3⟩ := tree_of R k hk
  rw [hkt] at h1 h2 h3
  exact ⟨m, h1, h2, fun c hc => (h3 c hc).2⟩
/-- The least room along a way. -/
def leastW (E : List Ed) (f : List Int) : Int → List Int → Int
  | m, [] => m
  | m, c :: r => leastW E f (min m (roomI E f c)) r
theorem least_le {E : List Ed} {f : List Int} : ∀ (w : List Int) (m : Int), leastW E f m w ≤ m ∧ ∀ c, c ∈ w → leastW E f m w ≤ roomI E f c
  | [], m => ⟨Int.le_refl _, fun c hc => by simp at hc⟩
  | c :: r, m => by
    have ih := least_le r (min m (roomI E f c)) (E := E) (f := f)
    unfold leastW
    refine ⟨?_, fun x hx => ?_⟩
    · have := ih.1
      omega
    · rcases List.mem_cons.1 hx with rfl | hx
      · have := ih.1
        omega
      · exact ih.2 x hx
theorem least_pos {E : List Ed} {f : List Int} : ∀ (w : List Int) (m : Int), 0 < m → (∀ c, c ∈ w → 0 < roomI E f c) → 0 < leastW E f m w
  | [], m, h, _ => h
  | c :: r, m, h, hr => by
    unfold leastW
    refine least_pos r _ ?_ fun x hx => hr x (List.mem_cons_of_mem _ hx)
    have := hr c (List.mem_cons_self ..)
    omega
theorem least_app {E : List Ed} {f : List Int} : ∀ (w : List Int) (m c : Int), leastW E f m (w ++ [c]) = min (leastW E f m w) (roomI E f c)
  | [], m, c => rfl
  | x :: r, m, c => by rw [List.cons_append]; unfold leastW; exact least_app r _ c
def addV (d : Int) (f : List Int) (c : Int) : Int := if 0 < c then gt f (ixE c) + d else gt f (ixE c) - d
def addE (d : Int) (f : List Int) (c : Int) : List Int := f.set (ixE c) (addV d f c)
def applyW (d : Int) : List Int → List Int → List Int
  | f, [] => f
  | f, c :: r => applyW d (addE d f c) r
theorem apply_app {d : Int} : ∀ (w : List Int) (f : List Int) (c : Int), applyW d f (w ++ [c]) = addE d (applyW d f w) c
  | [], f, c => rfl
  | x :: r, f, c => by rw [List.cons_append, applyW, applyW]; exact apply_app r _ c
theorem apply_len {d : Int} : ∀ (w : List Int) (f : List Int), (applyW d f w).length = f.length
  | [], f => rfl
  | x :: r, f => by rw [applyW, apply_len r, addE, List.length_set]
theorem addE_gt {d : Int} {f : List Int} {c : Int} (h : ixE c < f.length) (j : Nat) : gt (addE d f c) j = if ixE c = j then addV d f c else gt f j := by
  rw [addE, gt_set _ _ _ _ h]
theorem apply_rng {E : List Ed} {d : Int} (hd : 0 ≤ d) : ∀ (w : List Int) (f : List Int), f.length = E.length → fRng E f → (w.map ixE).Nodup → (∀ c, c ∈ w → ixE c < E.length ∧ d ≤ roomI E f c) → fRng E (applyW d f w)
  | [], f, _, hf, _, _ => hf
  | c :: r, f, hl, hf, hn, hw => by
    rw [List.map_cons, List.nodup_cons] at hn
    have hc := hw c (List.mem_cons_self ..)
    have hg := addE_gt (d := d) (f := f) (c := c) (by omega)
    unfold applyW
    refine apply_rng hd r _ (by rw [addE, List.length_set]; exact hl) (fun i hi => ?_) hn.2 fun x hx => ?_
    · rw [hg]
      have h1 := hf i hi
      by_cases hi2 : ixE c = i
      · rw [if_pos hi2]
        have h2 := hc.2
        unfold roomI at h2
        unfold addV
        split
        · rw [if_pos (by assumption)] at h2
          rw [hi2] at h2 ⊢
          omega
        · rw [if_neg (by assumption)] at h2
          rw [hi2] at h2 ⊢
          omega
      · rw [if_neg hi2]; exact h1
    · have hx2 := hw x (List.mem_cons_of_mem _ hx)
      have hne : ixE c ≠ ixE x := fun h => hn.1 (List.mem_map.2 ⟨x, hx, h.symm⟩)
      refine ⟨hx2.1, ?_⟩
      have : roomI E (addE d f c) x = roomI E f x := by
        unfold roomI
        rw [hg, if_neg hne]
      rw [this]
      exact hx2.2
theorem apply_take {E : List Ed} {d : Int} (hd : 0 ≤ d) {w f : List Int} (hl : f.length = E.length) (hf : fRng E f) (W : WayOK E f w) (hw : ∀ c, c ∈ w → d ≤ roomI E f c) (j : Nat) : fRng E (applyW d f (w.take j)) :=
  apply_rng hd _ f hl hf (List.Nodup.sublist (List.Sublist.map _ (List.take_sublist j w)) W.nd) fun c hc => ⟨(W.arc c (List.mem_of_mem_take hc)).ix, hw c (List.mem_of_mem_take hc)⟩

/-- What begins at a node less what ends there. -/
def exc (E : List Ed) (f : List Int) (v : Int) : Nat → Int
  | 0 => 0
  | u + 1 => exc E f v u + ((if (gt E u).a = v then gt f u else 0) - (if (gt E u).b = v then gt f u else 0))
theorem surp_exc {n : Int} {E : List Ed} {f : List Int} (he : ∀ i, i < E.length → 0 ≤ (gt E i).a ∧ (gt E i).a < n ∧ 0 ≤ (gt E i).b ∧ (gt E i).b < n) {v : Int} (h0 : 0 ≤ v) (h1 : v < n) :
    ∀ u, u ≤ E.length → gt (surpN n.toNat E f u) v.toNat = exc E f v u
  | 0, _ => by rw [surpN, gt_rep]; rfl
  | u + 1, h => by
    have ih := surp_exc he h0 h1 u (by omega) (f := f)
    have e := he u (by omega)
    have hl := surp_len n.toNat E f u
    rw [surpN, surp2, gt_set _ _ _ _ (by rw [surp1_len, hl]; omega), exc]
    have k : ∀ y, 0 ≤ y → y < n → gt (surp1 E f u (surpN n.toNat E f u)) y.toNat = gt (surpN n.toNat E f u) y.toNat + if (gt E u).a = y then gt f u else 0 := by
      intro y hy0 hy1
      rw [surp1, gt_set _ _ _ _ (by rw [hl]; omega)]
      by_cases hy : (gt E u).a = y
      · rw [if_pos (by rw [hy]), if_pos hy, hy]
      · rw [if_neg (by omega), if_neg hy]; omega
    by_cases hb : (gt E u).b = v
    · rw [if_pos (by rw [hb]), if_pos hb, hb, k v h0 h1, ih]; omega
    · rw [if_neg (by omega), if_neg hb, k v h0 h1, ih]; omega
theorem exc_set {E : List Ed} {f : List Int} {v x : Int} {i : Nat} (hi : i < f.length) : ∀ u, exc E (f.set i x) v u = exc E f v u + if i < u then ((if (gt E i).a = v then x - gt f i else 0) - (if (gt E i).b = v then x - gt f i else 0)) else 0
  | 0 => by rw [if_neg (by omega)]; rfl
  | u + 1 => by
    have ih := exc_set hi u (E := E) (v := v) (x := x)
    rw [exc, exc, ih, gt_set _ _ _ _ hi]
    by_cases hu : i = u
    · subst hu
      simp only [if_true, if_neg (Nat.lt_irrefl i), if_pos (Nat.lt_succ_self i)]
      split <;> split <;> omega
    · simp only [if_neg hu]
      by_cases h2 : i < u
      · simp only [if_pos h2, if_pos (show i < u + 1 by omega)]; omega
      · simp only [if_neg h2, if_neg (show ¬ i < u + 1 by omega)]; omega
theorem exc_add {E : List Ed} {f : List Int} {d c : Int} (hl : f.length = E.length) (hi : ixE c < E.length) (x : Int) :
    exc E (addE d f c) x E.length = exc E f x E.length + ((if tailE E c = x then d else 0) - (if headE E c = x then d else 0)) := by
  rw [addE, exc_set (by omega), if_pos hi]
  unfold addV tailE headE
  by_cases hc : 0 < c
  · simp only [if_pos hc]
    split <;> split <;> omega
  · simp only [if_neg hc]
    split <;> split <;> omega
theorem exc_way {n s : Int} {E : List Ed} {f0 way : List Int} {d : Int} : ∀ (k : Nat) (v : Int) (f : List Int), TreeN n s E f0 way k v → f.length = E.length → ∀ x,
    exc E (applyW d f (wayN E way k v)) x E.length = exc E f x E.length + ((if s = x then d else 0) - (if v = x then d else 0))
  | 0, v, f, h, _, x => by
    have : v = s := h
    subst this
    rw [wayN, applyW]
    omega
  | k + 1, v, f, h, hl, x => by
    rw [wayN, applyW, exc_way k _ _ h.2.2.2.2.2 (by rw [addE, List.length_set]; exact hl) x, exc_add hl h.2.2.2.1.ix, h.2.2.2.2.1]
    omega
theorem exc_rng {E : List Ed} {f : List Int} (hf : ∀ i, i < E.length → 0 ≤ gt f i ∧ gt f i ≤ 1073741824) (v : Int) : ∀ u, u ≤ E.length → -(1073741824 * (u : Int)) ≤ exc E f v u ∧ exc E f v u ≤ 1073741824 * (u : Int)
  | 0, _ => by simp [exc]
  | u + 1, h => by
    have ih := exc_rng hf v u (by omega)
    have := hf u (by omega)
    rw [exc]
    split <;> split <;> omega
structure FlowOK (n s t : Int) (E : List Ed) (f : List Int) : Prop where
  len : f.length = E.length
  rng : fRng E f
  con : ∀ v, 0 ≤ v → v < n → v ≠ s → v ≠ t → exc E f v E.length = 0
/-- What one search and one raise make of a flow. -/
def augW (n s t : Int) (E : List Ed) (f : List Int) (m : Nat) : List Int := applyW (leastW E f 1073741824 (wayN E (reachS n s E f).way m t)) f (wayN E (reachS n s E f).way m t)
theorem aug_ok {n s t : Int} {E : List Ed} {f : List Int} (g : GOK n s t E) (F : FlowOK n s t E f) {m : Nat} (T : TreeN n s E f (reachS n s E f).way m t) (W : WayOK E f (wayN E (reachS n s E f).way m t)) :
    FlowOK n s t E (augW n s t E f m) ∧ exc E f s E.length < exc E (augW n s t E f m) s E.length := by
  have hp := least_pos (E := E) (f := f) (wayN E (reachS n s E f).way m t) 1073741824 (by decide) fun c hc => (W.arc c hc).room
  have hl := least_le (E := E) (f := f) (wayN E (reachS n s E f).way m t) 1073741824
  have hx := exc_way (d := leastW E f 1073741824 (wayN E (reachS n s E f).way m t)) m t f T F.len
  refine ⟨⟨by rw [augW, apply_len, F.len], ?_, fun v h0 h1 h2 h3 => ?_⟩, ?_⟩
  · exact apply_rng (Int.le_of_lt hp) _ f F.len F.rng W.nd fun c hc => ⟨(W.arc c hc).ix, hl.2 c hc⟩
  · rw [augW, hx v, F.con v h0 h1 h2 h3, if_neg (Ne.symm h2), if_neg (Ne.symm h3)]; rfl
  · rw [augW, hx s, if_pos rfl, if_neg (Ne.symm g.st)]; omega
inductive Runs (n s t : Int) (E : List Ed) : List Int → List Int → Prop
  | stop (f : List Int) (h : gt (reachS n s E f).seen t.toNat = false) : Runs n s t E f f
  | step (f f' : List Int) (m : Nat) (h : gt (reachS n s E f).seen t.toNat = true) (T : TreeN n s E f (reachS n s E f).way m t) (r : Runs n s t E (augW n s t E f m) f') : Runs n s t E f f'
theorem runs_det {n s t : Int} {E : List Ed} {f a b : List Int} (h1 : Runs n s t E f a) (h2 : Runs n s t E f b) : a = b := by
  induction h1 with
  | stop f h =>
    cases h2 with
    | stop => rfl
    | step _ _ m h' => rw [h] at h'; cases h'
  | step f f' m h T r ih =>
    cases h2 with
    | stop _ h' => rw [h] at h'; cases h'
    | step _ _ m' h' T' r' =>
      have := tree_uni T T'
      subst this
      exact ih r'
theorem runs_ok {n s t : Int} {E : List Ed} {f a : List Int} (g : GOK n s t E) (h : Runs n s t E f a) (F : FlowOK n s t E f) : FlowOK n s t E a ∧ gt (reachS n s E a).seen t.toNat = false := by
  induction h with
  | stop f h => exact ⟨F, h⟩
  | step f f' m h T r ih =>
    obtain ⟨m', T', W'⟩ := tree_sink g h
    have := tree_uni T T'
    subst this
    exact ih (aug_ok g F T W').1
theorem zero_ok {n s t : Int} {E : List Ed} (g : GOK n s t E) : FlowOK n s t E (List.replicate E.length 0) := by
  refine ⟨by simp, fun i hi => ?_, fun v _ _ _ _ => ?_⟩
  · have := g.ed i hi
    rw [gt_rep]; omega
  · have : ∀ u, exc E (List.replicate E.length 0) v u = 0 := by
      intro u
      induction u with
      | zero => rfl
      | succ u ih => rw [exc, ih, gt_rep]; split <;> split <;> rfl
    exact this _
end Go.Proofs.Ytdicnojnkbmdlaa
