/-
  The machine's functions as contracts that Appoint's walk uses: a matching in the world.
  What Appoint answers.
-/
import Derived.Test.YtcnleglfdnhagaaK2
import Derived.Test.YtcnleglfdnhagaaNC
section
set_option linter.unusedVariables false
namespace Go.Proofs.Ytcnleglfdnhagaa
open Go Go.Am Go.Maps Go.RowKit
/-- What was there stays but for a block that holds no cells. -/
theorem den_keep {φ : Phi} {I : Nat → Prop} {w w' : World} {B : Nat} (hI : ∀ k, I k → k < w.heap.size) (hh : ∀ k, k < w.heap.size → k ≠ B → w'.heap[k]? = w.heap[k]?) (hm : ∀ C T z, w.heap[B]? ≠ some (.cells C T z)) {x : AV} {y : Value} (h : Den φ I w x y) : Den φ I w' x y := by
  have nocell : ∀ o, w.cell? ⟨B, o, none⟩ = none := fun o => by
    unfold World.cell?
    cases e : w.heap[B]? with
    | none => rfl
    | some ob => cases ob with
      | cells C T z => exact absurd e (hm C T z)
      | _ => rfl
  have cell : ∀ k, I k → ∀ o y, w.cell? ⟨k, o, none⟩ = some y → w'.cell? ⟨k, o, none⟩ = some y := fun k hk o y hy => by
    by_cases hB : k = B
    · subst hB; rw [nocell] at hy; cases hy
    · rw [World.cell?_of_block (w := w) (a := ⟨k, o, none⟩) (hh k (hI k hk) hB)]; exact hy
  induction h with
  | any x => exact .any x
  | v x => exact .v x
  | sl0 l p => exact .sl0 l p
  | sl n l c a Y hn hc ha hIa hY hD ih => exact .sl n l c a Y hn hc ha hIa (fun j x hj => cell _ hIa _ _ (hY j x hj)) ih
  | own0 z b o h => exact .own0 z b o h
  | own z b o n c off L h hn hc ho => exact .own z b o n c off L h hn hc ho
  | ptr b o L h => exact .ptr b o L h
  | ele l o a Y ha hIa hY hD ih => exact .ele l o a Y ha hIa (fun j x hj => cell _ hIa _ _ (hY j x hj)) ih
  | agg l cs hs hD ih => exact .agg l cs hs ih
  | tup l cs hs hD ih => exact .tup l cs hs ih
  | clo f l cs hs hD ih => exact .clo f l cs hs ih
theorem rel_keep {lim : Nat} {φ : Phi} {I : Nat → Prop} {w w' : World} {H : Heap} {B : Nat} (hR : Rel lim φ I w H) (hs : w.heap.size ≤ w'.heap.size) (hh : ∀ k, k < w.heap.size → k ≠ B → w'.heap[k]? = w.heap[k]?) (hm : ∀ C T z, w.heap[B]? ≠ some (.cells C T z)) : Rel lim φ I w' H where
  len := hR.len
  limle := hR.limle
  blk := fun b k hk => by
    rcases hR.blk b k hk with h | ⟨L, C, T, h1, h2, h3, h5, h6⟩
    · exact .inl h
    · refine .inr ⟨L, C, T, h1, ?_, h3, h5, fun j x hx => by obtain ⟨y, e1, e2⟩ := h6 j x hx; exact ⟨y, e1, den_keep hR.Ilt hh hm e2⟩⟩
      rw [hh _ (hR.disj b L h1).2 (fun e => hm _ _ _ (e ▸ h2))]
      exact h2
  disj := fun b L hL => ⟨(hR.disj b L hL).1, Nat.lt_of_lt_of_le (hR.disj b L hL).2 hs⟩
  inj := hR.inj
  sep := hR.sep
  Ilt := fun k hk => Nat.lt_of_lt_of_le (hR.Ilt k hk) hs
  tab := fun _ _ => trivial
/-- Numbers in memory. -/
def IntsAt (w : World) (z : Value) (out : List Int) : Prop :=
  ∃ p c, z = .slice p out.length c ∧ out.length ≤ c ∧ (0 < out.length → ∃ g o, p = some ⟨g, o, none⟩ ∧ g < w.heap.size ∧ ∀ i, i < out.length → w.cell? ⟨g, o + i, none⟩ = some (.int .i64 (gt out i)))
theorem IntsAt.below {w w' : World} {z : Value} {out : List Int} (h : IntsAt w z out) (hb : Below w.heap.size w w') : IntsAt w' z out := by
  obtain ⟨p, c, h1, h2, h3⟩ := h
  refine ⟨p, c, h1, h2, fun h0 => ?_⟩
  obtain ⟨g, o, h4, h5, h6⟩ := h3 h0
  exact ⟨g, o, h4, Nat.lt_of_lt_of_le h5 hb.size, fun i hi => (cell_below hb h5).trans (h6 i hi)⟩
theorem ints_at {lim lo : Nat} {φ : Phi} {I : Nat → Prop} {w : World} {H : Heap} {r : AV} {z : Value} {out : List Int} (hR : Rel lim φ I w H) (hO : OutI lo H r out) (hd : Den φ I w r z) : IntsAt w z out := by
  rcases hO with ⟨rfl, rfl⟩ | ⟨b, rfl, hb, hk⟩
  · have : z = .slice none 0 0 := den_v hd
    subst this
    exact ⟨_, _, rfl, Nat.le_refl _, fun h => absurd h (Nat.lt_irrefl _)⟩
  · rcases hR.blk b _ hk with ⟨h1, h2⟩ | ⟨L, C, T, h1, h2, h3, h5, h6⟩
    · have h0 : out = [] := by simpa using h2
      subst h0
      cases hd with
      | own0 z b o h => exact ⟨_, _, rfl, Nat.le_refl _, fun h => absurd h (Nat.lt_irrefl _)⟩
      | own z b o n c off L h hn hc ho => rw [h1] at h; cases h
    · generalize hn0 : out.length = n0 at hd
      cases hd with
      | own0 z b o h => rw [h1] at h; cases h
      | own z b o n c off L' h hn hc ho =>
        have : L' = L := by rw [h1] at h; cases h; rfl
        subst this
        subst hn0
        refine ⟨_, _, rfl, hn, fun h0 => ⟨L'.k, off, rfl, (hR.disj b L' h1).2, fun i hi => ?_⟩⟩
        rcases ho with ho | ⟨ho, _⟩
        · omega
        · obtain ⟨y, e1, e2⟩ := h6 i (AV.i (gt out i)) (by rw [List.getElem?_map, gt_eq _ _ hi, List.getElem?_eq_getElem hi]; rfl)
          have := den_v e2
          subst this
          unfold World.cell?
          simp only [h2]
          rw [if_neg (by simp), ho, Nat.add_zero]
          exact e1
/-- A matching, reached by the pointer x; its memory lies from block B0 on. -/
def Mat (B0 : Nat) (w : World) (x : Value) (may : List (List Bool)) (need used : List Int) : Prop :=
  ∃ φ I H b bm bn bu rs, Den φ I w (.ptr b 0) x ∧ Rel 0 φ I w H ∧ Sta H b bm bn bu rs may used.length need ∧ hget H bu = some (used.map AV.i) ∧ (∀ (c : Nat) (L : Am.Loc), φ[c]? = some (some L) → B0 ≤ L.k) ∧ bn ≠ bu
theorem Mat.keep {B0 B : Nat} {w w' : World} {x : Value} {may : List (List Bool)} {need used : List Int} (h : Mat B0 w x may need used) (hs : w.heap.size ≤ w'.heap.size) (hh : ∀ k, k < w.heap.size → k ≠ B → w'.heap[k]? = w.heap[k]?) (hm : ∀ C T z, w.heap[B]? ≠ some (.cells C T z)) : Mat B0 w' x may need used := by
  obtain ⟨φ, I, H, b, bm, bn, bu, rs, h1, h2, h3⟩ := h
  exact ⟨φ, I, H, b, bm, bn, bu, rs, den_keep h2.Ilt hh hm h1, rel_keep h2 hs hh hm, h3⟩
theorem Mat.below {B0 : Nat} {w w' : World} {x : Value} {may : List (List Bool)} {need used : List Int} (h : Mat B0 w x may need used) (hb : Below w.heap.size w w') : Mat B0 w' x may need used :=
  h.keep (B := w.heap.size) hb.size (fun k hk _ => hb.block k hk) (fun C T z e => by simp at e)
theorem mat_ptr {B0 : Nat} {w : World} {x : Value} {may : List (List Bool)} {need used : List Int} (h : Mat B0 w x may need used) : ∃ u, x = .pointer u := by
  obtain ⟨φ, I, H, b, bm, bn, bu, rs, h1, h2, h3⟩ := h
  cases h1
  exact ⟨_, rfl⟩
theorem ext_below {lim B0 : Nat} {φ φ' : Phi} {I I' : Nat → Prop} {w w' : World} (h : Ext lim φ I w φ' I' w') (hB : B0 ≤ w.heap.size) (hφ : ∀ (c : Nat) (L : Am.Loc), φ[c]? = some (some L) → B0 ≤ L.k) : Below B0 w w' ∧ ∀ (c : Nat) (L : Am.Loc), φ'[c]? = some (some L) → B0 ≤ L.k := by
  refine ⟨⟨h.os, h.tape.1, h.output, h.size, fun k hk => h.old k (by omega) fun b L hb e => ?_⟩, fun c L hL => ?_⟩
  · have := hφ b L hb; omega
  · rcases h.fresh c L hL with h1 | ⟨b0, L0, h1, h2⟩
    · omega
    · have := hφ b0 L0 h1; omega
theorem named_call {f : FuncId} {args : List AV} {H H' : Heap} {r : AV} {n : Nat} (h : acall sig n 0 f args H = some (r, H')) (hN : Named Try.prog f) {φ : Phi} {I : Nat → Prop} {w : World} {cs : Array Value} (hR : Rel 0 φ I w H) (hD : DL φ I w args cs) : Calls Try.prog f cs w (CallPost 0 φ I w H' r) := by
  rcases (acall_sound sig_ok n).1 0 f args H r H' h φ I w cs hR hD with ⟨_, hC⟩ | ⟨x, hx, _⟩
  · exact hC
  · have := (named_run hN cs w).symm.trans (hx w)
    cases this
theorem named9 : Named Try.prog 9 := ⟨_, Try.func9, by kernel_rfl, rfl⟩
theorem named11 : Named Try.prog 11 := ⟨_, Try.func11, by kernel_rfl, rfl⟩
theorem named12 : Named Try.prog 12 := ⟨_, Try.func12, by kernel_rfl, rfl⟩
theorem named13 : Named Try.prog 13 := ⟨_, Try.func13, by kernel_rfl, rfl⟩
theorem named14 : Named Try.prog 14 := ⟨_, Try.func14, by kernel_rfl, rfl⟩
theorem dl1 {φ : Phi} {I : Nat → Prop} {w : World} {x : AV} {v : Value} (h : Den φ I w x v) : DL φ I w [x] #[v] :=
  ⟨rfl, fun j x' y hx hy => by
    rcases j with _ | j
    · obtain rfl := Option.some.inj hx
      obtain rfl : v = y := by simpa using hy
      exact h
    · simp at hx⟩
theorem dl2 {φ : Phi} {I : Nat → Prop} {w : World} {x y : AV} {v u : Value} (h : Den φ I w x v) (h2 : Den φ I w y u) : DL φ I w [x, y] #[v, u] :=
  ⟨rfl, fun j x' y' hx hy => by
    rcases j with _ | _ | j
    · obtain rfl := Option.some.inj hx
      obtain rfl : v = y' := by simpa using hy
      exact h
    · obtain rfl := Option.some.inj hx
      obtain rfl : u = y' := by simpa using hy
      exact h2
    · simp at hx⟩
theorem rel0 (w : World) : Rel 0 [] (fun k => k < w.heap.size) w [] :=
  ⟨rfl, Nat.le_refl _, fun b k hk => by simp [hget] at hk, fun b L h => by simp at h, fun b b' k k' L L' hk => by simp [hget] at hk, fun b b' L L' hb => by omega, fun k hk => hk, fun _ _ => trivial⟩
theorem nophi {B0 : Nat} : ∀ (c : Nat) (L : Am.Loc), ([] : Phi)[c]? = some (some L) → B0 ≤ L.k := fun c L h => by simp at h
abbrev Iw (w : World) : Nat → Prop := fun k => k < w.heap.size
theorem check_c {w : World} {l : List Du} {us : List Um} {v u : Value} (hl : Den [] (Iw w) w (dusAV l) v) (hu : Den [] (Iw w) w (umsAV us) u) (h1 : l.length ≤ 1000000) (h2 : us.length ≤ 1000000) (hs : ∀ u, (gt l u).ho.size ≤ 9223372036854775807 ∧ (gt l u).aw.size ≤ 9223372036854775807) (hs2 : ∀ u, (gt us u).nm.size ≤ 9223372036854775807 ∧ (gt us u).tm.size ≤ 9223372036854775807) :
    Calls Try.prog 9 #[v, u] w fun e w' => e = .returned (.int .i64 (ckS l us)) ∧ Below w.heap.size w w' := by
  obtain ⟨n, r, H', h, rfl, rfl⟩ := check_ok 0 [] l us h1 h2 hs hs2
  refine (named_call h named9 (rel0 w) (dl2 hl hu)).mono ?_
  rintro e w' ⟨x, φ', I', rfl, hd, hr, he⟩
  exact ⟨by rw [den_v hd], (ext_below he (Nat.le_refl _) nophi).1⟩
abbrev rep2 (k : Nat) : List Int := List.replicate k 2
abbrev repM (n : Nat) : List Int := List.replicate n (-1)
theorem new_c {w : World} {l : List Du} {us : List Um} {v u : Value} (hl : Den [] (Iw w) w (dusAV l) v) (hu : Den [] (Iw w) w (umsAV us) u) (h0 : 0 < l.length) (h1 : l.length ≤ 100) (h2 : us.length ≤ 1000) (hds : ∀ u, (gt us u).ds.length ≤ 1000000) :
    Calls Try.prog 11 #[v, u] w fun e w' => ∃ x, e = .returned x ∧ Mat w.heap.size w' x (mayL us l) (rep2 l.length) (repM us.length) ∧ Below w.heap.size w w' := by
  obtain ⟨n, r, H', h, bm, bn, rs, rfl, hS, hu', hk, hlen⟩ := new_w 0 l us [] (Nat.zero_le _) h0 h1 h2 hds
  refine (named_call h named11 (rel0 w) (dl2 hl hu)).mono ?_
  rintro e w' ⟨x, φ', I', rfl, hd, hr, he⟩
  obtain ⟨hb, hφ⟩ := ext_below he (Nat.le_refl _) nophi
  exact ⟨x, rfl, ⟨φ', I', H', _, bm, bn, _, rs, hd, hr, by rw [List.length_replicate]; exact hS, hu', hφ, Ne.symm hS.un⟩, hb⟩
theorem day_facts {may : List (List Bool)} {n : Nat} (h0 : 0 < may.length) : (dayFill may n).2.length = n ∧ (∀ x, -2 ≤ gt (dayFill may n).2 x ∧ gt (dayFill may n).2 x < may.length) ∧ (∀ x, x ∈ (dayFill may n).1 → 0 ≤ x ∧ x < may.length) ∧
    un (markL (dayFill may n).1 (List.replicate may.length false)) + (dayFill may n).1.length < 2 * may.length + 2 ∧ (dayFill may n).1.length ≤ may.length := by
  have hr : ∀ u, -2 ≤ gt (List.replicate n (-1 : Int)) u := fun u => by rw [gt_repI]; split <;> decide
  have hv : Valid may (List.replicate n (-1 : Int)) := fun u hu h0 => by rw [gt_repI, if_pos (by simpa using hu)] at h0; omega
  obtain ⟨new, K⟩ := fillS_ok (may := may) (List.replicate may.length 2) 0 (List.replicate n (-1)) [] hr hv
  have hout := K.out
  rw [List.nil_append] at hout
  obtain ⟨used, hu⟩ : ∃ used, used = (dayFill may n).2 := ⟨_, rfl⟩
  have hnew : (dayFill may n).1 = new := hout
  have hlen : used.length = n := by rw [hu]; simpa [dayFill] using K.kept.len
  have hnl : new.length ≤ may.length := by simpa using K.num
  rw [← hu, hnew]
  refine ⟨hlen, fun x => ⟨by rw [hu]; exact K.kept.rng x, ?_⟩, fun v hv => ?_, ?_, hnl⟩
  · by_cases hx : x < used.length
    · by_cases hb : gt used x < may.length
      · exact hb
      · exfalso
        have e := K.rest (gt used x) (by omega) (.inr (by simp; omega))
        rw [cn_rep _ (by omega)] at e
        have e : cn used (gt used x) = 0 := by rw [hu] at e ⊢; exact e
        rw [cn, List.countP_eq_zero] at e
        exact e (gt used x) (by rw [gt_eq _ _ hx]; exact List.getElem_mem _) (by simp)
    · rw [gt_big (by omega)]
      show (0 : Int) < _
      omega
  · obtain ⟨a, b, c⟩ := K.inn v hv
    exact ⟨by omega, by simpa using b⟩
  · have hun : un (markL new (List.replicate may.length false)) ≤ may.length := by
      unfold un
      have e : (markL new (List.replicate may.length false)).length = may.length := by rw [mark_len]; simp
      exact Nat.le_trans List.countP_le_length (Nat.le_of_eq e)
    omega
theorem lackRow_length {row : List Bool} {used : List Int} : ∀ (k u : Nat) (inn : List Bool) (q : List Int), (lackRow row used k u inn q).1.length = inn.length
  | 0, u, inn, q => rfl
  | k + 1, u, inn, q => by
    rw [lackRow]
    split
    · rw [lackRow_length k, List.length_set]
    · exact lackRow_length k _ _ _
theorem lackQ_length {may : List (List Bool)} {used : List Int} : ∀ (f : Nat) (inn : List Bool) (q : List Int), (lackQ may used f inn q).length = inn.length
  | 0, inn, q => rfl
  | f + 1, inn, [] => rfl
  | f + 1, inn, m :: q => by
    rw [lackQ]
    rw [lackQ_length f, lackRow_length]
/-- A matching and what it lacks. -/
def MatL (B0 : Nat) (w : World) (x y : Value) (may : List (List Bool)) (need used lack : List Int) : Prop :=
  ∃ φ I H b bm bn bu rs bl, Den φ I w (.ptr b 0) x ∧ Den φ I w (.own 1 bl 0 lack.length) y ∧ Rel 0 φ I w H ∧ Sta H b bm bn bu rs may used.length need ∧ hget H bu = some (used.map AV.i) ∧ hget H bl = some (lack.map AV.i) ∧ (∀ (c : Nat) (L : Am.Loc), φ[c]? = some (some L) → B0 ≤ L.k)
theorem fill_c {B0 : Nat} {w : World} {x : Value} {may : List (List Bool)} {n : Nat} (M : Mat B0 w x may (rep2 may.length) (repM n)) (hB : B0 ≤ w.heap.size) (h0 : 0 < may.length) (h1 : may.length ≤ 100) (h2 : n ≤ 1000) :
    Calls Try.prog 12 #[x] w fun e w' => ∃ y, e = .returned y ∧ IntsAt w' y (dayFill may n).1 ∧ ((dayFill may n).1 ≠ [] → MatL B0 w' x y may (rep2 may.length) (dayFill may n).2 (dayFill may n).1) ∧ Below B0 w w' := by
  obtain ⟨φ, I, H, b, bm, bn, bu, rs, hd, hR, hS, hu, hφ, hnu⟩ := M
  rw [List.length_replicate] at hS
  have P : FiPre 0 H b bm bn bu rs may n (rep2 may.length) (repM n) :=
    ⟨hS, hu, by simp, fun u => by rw [gt_repI]; split <;> omega, fun u hu h0 => by rw [gt_repI, if_pos (by simpa using hu)] at h0; omega, Nat.zero_le _, Nat.zero_le _, h1, h2, by simp, fun j => by
      by_cases hj : j < may.length
      · rw [gt_rep2 _ _ hj]; decide
      · rw [gt_big (by simpa using hj)]; decide, h0⟩
  obtain ⟨k, r, H', h, hO, W⟩ := fill_w 0 b bm bn bu rs may n (rep2 may.length) (repM n) H P
  refine (named_call h named12 hR (dl1 hd)).mono ?_
  rintro e w' ⟨y, φ', I', rfl, hd', hr, he⟩
  obtain ⟨hb, hφ'⟩ := ext_below he hB hφ
  refine ⟨y, rfl, ints_at hr hO hd', fun hne => ?_, hb⟩
  rcases hO with ⟨h3, _⟩ | ⟨bl, rfl, hbl, hlk⟩
  · exact absurd h3 hne
  · have hlen : (dayFill may n).2.length = n := by
      obtain ⟨new, K⟩ := fillS_ok (may := may) (rep2 may.length) 0 (repM n) [] (fun u => by rw [gt_repI]; split <;> decide) P.val
      simpa [dayFill] using K.kept.len
    exact ⟨φ', I', H', b, bm, bn, bu, rs, bl, hd.ext hR he, hd', hr, by rw [hlen]; exact hS.fi W, W.hu, hlk, hφ'⟩
theorem lacking_c {B0 : Nat} {w : World} {x y : Value} {may : List (List Bool)} {n : Nat} (M : MatL B0 w x y may (rep2 may.length) (dayFill may n).2 (dayFill may n).1) (hB : B0 ≤ w.heap.size) (hne : (dayFill may n).1 ≠ []) (h0 : 0 < may.length) (h1 : may.length ≤ 100) (h2 : n ≤ 1000) :
    Calls Try.prog 13 #[x, y] w fun e w' => ∃ z, e = .returned z ∧ IntsAt w' z ((dayLack may n).map fun i : Nat => (i : Int)) ∧ Below B0 w w' := by
  obtain ⟨φ, I, H, b, bm, bn, bu, rs, bl, hd, hd2, hR, hS, hu, hlk, hφ⟩ := M
  obtain ⟨hlen, hrg, hlr, hF, hl9⟩ := day_facts (may := may) (n := n) h0
  obtain ⟨lack, hlk0⟩ : ∃ lack, lack = (dayFill may n).1 := ⟨_, rfl⟩
  rw [← hlk0] at hd2 hlk hlr hF hl9 hne
  obtain ⟨k, r, H', h, hO, hk, hl⟩ := lacking_w 0 b bm bn bu bl (2 * may.length + 2) rs may (rep2 may.length) (dayFill may n).2 lack H hS hu hlk (List.length_pos_iff.2 hne) (by omega) (Nat.zero_le _) h1 (by omega) hrg hlr (fun i hi => hlr _ (gt_mem hi)) hF (by omega)
  refine (named_call h named13 hR (dl2 hd hd2)).mono ?_
  rintro e w' ⟨z, φ', I', rfl, hd', hr, he⟩
  have hI := ints_at hr hO hd'
  have e9 : (lackQ may (dayFill may n).2 (2 * may.length + 2) (markL lack (List.replicate may.length false)) lack).length = may.length := by rw [lackQ_length, mark_len, List.length_replicate]
  refine ⟨z, rfl, ?_, (ext_below he hB hφ).1⟩
  unfold dayLack lackO
  simp only []
  rw [← hlk0, e9]
  exact hI
/-- .. and block bx is none of its blocks. -/
def MatX (B0 bx : Nat) (w : World) (x : Value) (may : List (List Bool)) (need used : List Int) : Prop :=
  ∃ φ I H b bm bn bu rs, Den φ I w (.ptr b 0) x ∧ Rel 0 φ I w H ∧ Sta H b bm bn bu rs may used.length need ∧ hget H bu = some (used.map AV.i) ∧ (∀ (c : Nat) (L : Am.Loc), φ[c]? = some (some L) → B0 ≤ L.k ∧ L.k ≠ bx) ∧ bn ≠ bu
theorem Mat.box {B0 : Nat} {w w' : World} {x : Value} {may : List (List Bool)} {need used : List Int} (h : Mat B0 w x may need used) (hb : Below w.heap.size w w') : MatX B0 w.heap.size w' x may need used := by
  obtain ⟨φ, I, H, b, bm, bn, bu, rs, h1, h2, h3, h4, h5, h6⟩ := h
  have hh : ∀ k, k < w.heap.size → k ≠ w.heap.size → w'.heap[k]? = w.heap[k]? := fun k hk _ => hb.block k hk
  have hm : ∀ C T z, w.heap[w.heap.size]? ≠ some (.cells C T z) := fun C T z e => by simp at e
  exact ⟨φ, I, H, b, bm, bn, bu, rs, den_keep h2.Ilt hh hm h1, rel_keep h2 hb.size hh hm, h3, h4, fun c L hL => ⟨h5 c L hL, fun e => by have := (h2.disj c L hL).2; omega⟩, h6⟩
theorem choose_c {B0 bx : Nat} {w : World} {x : Value} {may : List (List Bool)} {n i : Nat} (M : MatX B0 bx w x may (dst may n i).1 (dst may n i).2) (hB : B0 ≤ w.heap.size) (hbx : bx < w.heap.size) (D : DayAt may n i) (hi : i < may.length) (h1 : may.length ≤ 100) (h2 : n ≤ 1000) :
    Calls Try.prog 14 #[x, .int .i64 (i : Int)] w fun e w' => e = .returned (.agg #[.int .i64 ((dpr may n i).1 : Int), .int .i64 ((dpr may n i).2 : Int)]) ∧ Mat B0 w' x may (dst may n (i + 1)).1 (dst may n (i + 1)).2 ∧ Below B0 w w' ∧ w'.heap[bx]? = w.heap[bx]? := by
  obtain ⟨φ, I, H, b, bm, bn, bu, rs, hd, hR, hS, hu, hφ, hnu⟩ := M
  obtain ⟨P, D2⟩ := day_pair D hi
  have hlm := D.stt.lm
  have CP : ChPre 0 H b bm bn bu rs may (dst may n i).1 (dst may n i).2 i :=
    ⟨hS, hu, Nat.zero_le _, Nat.zero_le _, Nat.zero_le _, hlm, h1, by rw [D.ul]; exact h2, by omega, D.nr, fun u => ⟨D.stt.rng u, D.stt.neg u⟩, D.two i (Nat.le_refl _) hi⟩
  obtain ⟨k, r, H', h, rfl, hS', hu', hk, hlen⟩ := choose_w 0 b bm bn bu rs may (dst may n i).1 (dst may n i).2 i H CP (dpr may n i).1 (dpr may n i).2 P
  refine (named_call h named14 hR (dl2 hd (.v _))).mono ?_
  rintro e w' ⟨y, φ', I', rfl, hd', hr, he⟩
  obtain ⟨hb, hφ'⟩ := ext_below he hB fun c L hL => (hφ c L hL).1
  have es : dst may n (i + 1) = (need2 (dst may n i).1 i, used2 (dst may n i).2 (dpr may n i).1 (dpr may n i).2) := by rw [dst]; rfl
  refine ⟨?_, ⟨φ', I', H', b, bm, bn, bu, rs, hd.ext hR he, hr, ?_, ?_, hφ', hnu⟩, hb, he.old bx hbx fun c L hL => (hφ c L hL).2⟩
  · cases hd' with
    | agg l cs hs hD =>
      obtain ⟨l⟩ := cs
      match l, hs with
      | [p, q], _ =>
        obtain rfl := den_v (hD 0 _ p rfl rfl)
        obtain rfl := den_v (hD 1 _ q rfl rfl)
        rfl
  · rw [es]
    show Sta H' b bm bn bu rs may (used2 _ _ _).length _
    rw [show (used2 (dst may n i).2 (dpr may n i).1 (dpr may n i).2).length = (dst may n i).2.length by simp [used2]]
    exact hS'
  · rw [es]; exact hu'
end Go.Proofs.Ytcnleglfdnhagaa
end
section
set_option linter.unusedVariables false
namespace Go.Proofs.Ytcnleglfdnhagaa
open Go Go.Am Go.Maps Go.RowKit
def badD (l : List Du) (us : List Um) (d : Int) : Bool := !(dayFill (mayL us (grp l d)) us.length).1.isEmpty
theorem badD_t {l : List Du} {us : List Um} {d : Int} : badD l us d = true ↔ (dayFill (mayL us (grp l d)) us.length).1 ≠ [] := by
  unfold badD
  cases (dayFill (mayL us (grp l d)) us.length).1 <;> simp
theorem badD_f {l : List Du} {us : List Um} {d : Int} : badD l us d = false ↔ (dayFill (mayL us (grp l d)) us.length).1 = [] := by
  unfold badD
  cases (dayFill (mayL us (grp l d)) us.length).1 <;> simp
def fstBad (l : List Du) (us : List Um) : Option Int := (sdays l).find? (badD l us)
def numsL (l : List Du) (us : List Um) (d : Int) : List Int := (dayLack (mayL us (grp l d)) us.length).map fun i => (gt (grp l d) i).mt
structure Ap where
  mt : Int
  one : ByteArray
  two : ByteArray
abbrev apV (x : Ap) : List Value := [.int .i64 x.mt, .string x.one, .string x.two]
def flatAV (l : List Ap) : List Value := (l.map apV).flatten
theorem flatAV_snoc (l : List Ap) (x : Ap) : flatAV (l ++ [x]) = flatAV l ++ apV x := by simp [flatAV]
theorem flatAV_len (l : List Ap) : (flatAV l).length = l.length * 3 := by
  unfold flatAV
  induction l with
  | nil => rfl
  | cons x l ih => rw [List.map_cons, List.flatten_cons, List.length_append, ih]; simp; omega
/-- The pair of duty j. -/
def prJ (l : List Du) (us : List Um) (j : Nat) : Nat × Nat := dpair l us (gt l j).dy (plc l j)
def apJ (l : List Du) (us : List Um) (j : Nat) : Ap := ⟨(gt l j).mt, (gt us (prJ l us j).1).nm, (gt us (prJ l us j).2).nm⟩
def appE (l : List Du) (us : List Um) : Int := if ckS l us ≠ 0 then ckS l us else if (fstBad l us).isSome then 13 else 0
def appN (l : List Du) (us : List Um) : List Int := if ckS l us ≠ 0 then [] else match fstBad l us with | some d => numsL l us d | none => []
def appO (l : List Du) (us : List Um) : List Ap := if ckS l us ≠ 0 then [] else if (fstBad l us).isSome then [] else (List.range l.length).map (apJ l us)
/-- What a call of Appoint leaves. -/
def AppPost (w : World) (l : List Du) (us : List Um) (e : Ending) (w' : World) : Prop :=
  ∃ ov nv, e = .returned (.tuple #[ov, nv, .int .i64 (appE l us)]) ∧ w'.ownsRow w.heap.size 30 3 ov (appO l us).length (flatAV (appO l us)) ∧ w'.ownsRow w.heap.size 3 1 nv (appN l us).length ((appN l us).map encI) ∧ Below w.heap.size w w'
theorem post_err {w w' : World} {l : List Du} {us : List Um} {e : Int} (h : ckS l us = e) (h0 : e ≠ 0) (hb : Below w.heap.size w w') : AppPost w l us (.returned (.tuple #[.slice none 0 0, .slice none 0 0, .int .i64 e])) w' := by
  subst h
  refine ⟨_, _, by rw [appE, if_pos h0], ?_, ?_, hb⟩
  · rw [appO, if_pos h0]; exact World.ownsRow_nil _ _ _ _
  · rw [appN, if_pos h0]; exact World.ownsRow_nil _ _ _ _
theorem post_bad {w w' : World} {l : List Du} {us : List Um} {d : Int} {nv : Value} (h : ckS l us = 0) (hd : fstBad l us = some d) (hn : w'.ownsRow w.heap.size 3 1 nv (numsL l us d).length ((numsL l us d).map encI)) (hb : Below w.heap.size w w') : AppPost w l us (.returned (.tuple #[.slice none 0 0, nv, .int .i64 13])) w' := by
  have h0 : ¬ ckS l us ≠ 0 := by omega
  refine ⟨_, _, by rw [appE, if_neg h0, hd]; rfl, ?_, ?_, hb⟩
  · rw [appO, if_neg h0, hd]; exact World.ownsRow_nil _ _ _ _
  · rw [appN, if_neg h0, hd]; exact hn
theorem post_ok {w w' : World} {l : List Du} {us : List Um} {ov : Value} (h : ckS l us = 0) (hd : fstBad l us = none) (hn : w'.ownsRow w.heap.size 30 3 ov l.length (flatAV ((List.range l.length).map (apJ l us)))) (hb : Below w.heap.size w w') : AppPost w l us (.returned (.tuple #[ov, .slice none 0 0, .int .i64 0])) w' := by
  have h0 : ¬ ckS l us ≠ 0 := by omega
  refine ⟨_, _, by rw [appE, if_neg h0, hd]; rfl, ?_, ?_, hb⟩
  · rw [appO, if_neg h0, hd]
    simpa using hn
  · rw [appN, if_neg h0, hd]; exact World.ownsRow_nil _ _ _ _
theorem fst_some {l : List Du} {us : List Um} {k : Nat} (hk : k < (sdays l).length) (hb : ∀ j, j < k → badD l us (gt (sdays l) j) = false) (h : badD l us (gt (sdays l) k) = true) : fstBad l us = some (gt (sdays l) k) := by
  unfold fstBad
  rw [List.find?_eq_some_iff_append]
  refine ⟨h, (sdays l).take k, (sdays l).drop (k + 1), ?_, fun a ha => ?_⟩
  · rw [gt_eq _ _ hk]; simp
  · obtain ⟨j, hj, rfl⟩ := List.getElem_of_mem ha
    have hj2 : j < k := by simp at hj; omega
    have := hb j hj2
    rw [gt_eq _ _ (by omega)] at this
    simpa using this
theorem fst_none {l : List Du} {us : List Um} {k : Nat} (hk : (sdays l).length ≤ k) (hb : ∀ j, j < k → badD l us (gt (sdays l) j) = false) : fstBad l us = none := by
  unfold fstBad
  rw [List.find?_eq_none]
  intro x hx
  obtain ⟨j, hj, rfl⟩ := List.getElem_of_mem hx
  have := hb j (by omega)
  rw [gt_eq _ _ hj] at this
  simpa using this
theorem ckS_facts {l : List Du} {us : List Um} (h : ckS l us = 0) : ferr (duE l) l.length = 0 ∧ ∀ u, (gt us u).ds.length ≤ 400 := by
  unfold ckS at h
  split at h
  · omega
  split at h
  · omega
  rename_i h1 h2
  refine ⟨by simpa using h2, fun u => ?_⟩
  by_cases hu : u < us.length
  · have := ferr_all h u hu
    unfold umE at this
    split at this
    · omega
    split at this
    · omega
    split at this
    · omega
    omega
  · have e : gt us u = default := by unfold gt; rw [List.getD_eq_getElem?_getD, List.getElem?_eq_none (by omega)]; rfl
    rw [e]
    exact Nat.zero_le _
theorem day_rng {l : List Du} {us : List Um} (h : ckS l us = 0) {i : Nat} (hi : i < l.length) : 1 ≤ (gt l i).mt ∧ (gt l i).mt ≤ 1000000 ∧ 0 ≤ (gt l i).dy ∧ (gt l i).dy ≤ 1000000 := by
  have := ferr_all (ckS_facts h).1 i hi
  unfold duE at this
  split at this
  · omega
  rename_i h1
  have h2 : dayB (gt l i).dy = true := by
    cases hd : dayB (gt l i).dy with
    | true => rfl
    | false => exact absurd (.inr (.inr hd)) h1
  unfold dayB at h2
  simp at h2
  omega
theorem wf_of {n : Int} (h0 : -1000000 ≤ n) (h1 : n ≤ 1000000) : (Lit.int .i64 n).wf = true := WalkArith.wf_i64 (by omega)
theorem day_of {l : List Du} {k : Nat} (hk : k < (sdays l).length) : ∃ i, i < l.length ∧ (gt l i).dy = gt (sdays l) k ∧ 0 < (grp l (gt (sdays l) k)).length := by
  have h := (sdays_mem (l := l)).1 (gt_mem hk)
  obtain ⟨x, hx⟩ := List.exists_mem_of_length_pos h
  obtain ⟨h1, h2⟩ := grp_mem.1 hx
  obtain ⟨i, hi, rfl⟩ := List.getElem_of_mem h1
  exact ⟨i, hi, by rw [gt_eq _ _ hi]; exact h2, h⟩
theorem grp_len (l : List Du) (d : Int) : (grp l d).length ≤ l.length := List.length_filter_le _ _
theorem mayL_len (us : List Um) (G : List Du) : (mayL us G).length = G.length := by simp
/-- The m-th of the matches that lack. -/
theorem lack_at {l : List Du} {us : List Um} {d : Int} (h : (dayFill (mayL us (grp l d)) us.length).1 ≠ []) {m : Nat} (hm : m < ((dayLack (mayL us (grp l d)) us.length).map fun i : Nat => (i : Int)).length) :
    ∃ ix : Nat, gt ((dayLack (mayL us (grp l d)) us.length).map fun i : Nat => (i : Int)) m = (ix : Int) ∧ ix < (grp l d).length ∧ (numsL l us d)[m]? = some (gt (grp l d) ix).mt := by
  rw [List.length_map] at hm
  refine ⟨(dayLack (mayL us (grp l d)) us.length)[m], ?_, ?_, ?_⟩
  · rw [gt_eq _ _ (by simpa using hm), List.getElem_map]
  · have := (day_lack h).2 _ (List.getElem_mem hm)
    simpa using this
  · rw [numsL, List.getElem?_map, List.getElem?_eq_getElem hm]
    rfl
theorem nums_len (l : List Du) (us : List Um) (d : Int) : (numsL l us d).length = ((dayLack (mayL us (grp l d)) us.length).map fun i : Nat => (i : Int)).length := by simp [numsL]
theorem take_some {α : Type} {l : List α} {m : Nat} {x : α} (h : l[m]? = some x) : l.take (m + 1) = l.take m ++ [x] := by
  obtain ⟨hm, rfl⟩ := List.getElem?_eq_some_iff.1 h
  rw [List.take_succ_eq_append_getElem hm]
/-! ### The pairs, by the duties' numbers -/
abbrev pairV (p : Nat × Nat) : Value := .agg #[.int .i64 (p.1 : Int), .int .i64 (p.2 : Int)]
abbrev zeroP : Value := .agg #[.int .i64 0, .int .i64 0]
def tgt (l : List Du) (us : List Um) (m : Int) : Value := match (List.range l.length).find? (fun j => (gt l j).mt == m) with | some j => pairV (prJ l us j) | none => zeroP
theorem tgt_at {l : List Du} {us : List Um} (hr : rising l) {j : Nat} (hj : j < l.length) : tgt l us (gt l j).mt = pairV (prJ l us j) := by
  have e : (List.range l.length).find? (fun i => (gt l i).mt == (gt l j).mt) = some j := by
    rw [List.find?_range_eq_some]
    refine ⟨by simp, List.mem_range.2 hj, fun k hk => ?_⟩
    have : ¬ (gt l k).mt = (gt l j).mt := fun e => by have := rising_at hr (by omega) hj e; omega
    simpa using this
  unfold tgt
  rw [e]
theorem grp_idx {l : List Du} (hr : rising l) {d : Int} {i : Nat} (hi : i < (grp l d).length) : ∃ j, j < l.length ∧ gt l j = gt (grp l d) i ∧ (gt l j).dy = d ∧ plc l j = i := by
  obtain ⟨h1, h2⟩ := grp_mem.1 (gt_mem hi)
  obtain ⟨j, hj, e⟩ := List.getElem_of_mem h1
  rw [← gt_eq _ _ hj] at e
  have hd : (gt l j).dy = d := by rw [e]; exact h2
  obtain ⟨p1, p2⟩ := plc_at hj
  rw [hd] at p1 p2
  exact ⟨j, hj, e, hd, rising_at (grp_rising hr d) p1 hi (by rw [p2, e])⟩
theorem tgt_grp {l : List Du} {us : List Um} (hr : rising l) {d : Int} {i : Nat} (hi : i < (grp l d).length) : tgt l us (gt (grp l d) i).mt = pairV (dpr (mayL us (grp l d)) us.length i) := by
  obtain ⟨j, hj, e, hd, hp⟩ := grp_idx hr hi
  rw [← e, tgt_at hr hj]
  unfold prJ dpair
  rw [hd, hp]
/-- What was put in for the first k days, and for i duties of day k. -/
def Put (l : List Du) (us : List Um) (g : Int → Value) (k i : Nat) : Prop :=
  (∀ j, j < k → ∀ a, a < (grp l (gt (sdays l) j)).length → g (gt (grp l (gt (sdays l) j)) a).mt = tgt l us (gt (grp l (gt (sdays l) j)) a).mt) ∧ ∀ a, a < i → g (gt (grp l (gt (sdays l) k)) a).mt = tgt l us (gt (grp l (gt (sdays l) k)) a).mt
theorem put_start (l : List Du) (us : List Um) (g : Int → Value) : Put l us g 0 0 := ⟨fun j hj => absurd hj (Nat.not_lt_zero _), fun a ha => absurd ha (Nat.not_lt_zero _)⟩
theorem put_step {l : List Du} {us : List Um} {g : Int → Value} {k i : Nat} {v : Value} {m : Int} (h : Put l us g k i) (hm : m = (gt (grp l (gt (sdays l) k)) i).mt) (hv : v = tgt l us m) : Put l us (updM g m v) k (i + 1) := by
  have key : ∀ y, g y = tgt l us y → updM g m v y = tgt l us y := fun y hy => by
    unfold updM
    split
    · rename_i e; rw [hv, e]
    · exact hy
  refine ⟨fun j hj a ha => key _ (h.1 j hj a ha), fun a ha => ?_⟩
  by_cases hai : a < i
  · exact key _ (h.2 a hai)
  · obtain rfl : a = i := by omega
    rw [← hm]
    unfold updM
    rw [if_pos rfl, hv]
theorem put_next {l : List Du} {us : List Um} {g : Int → Value} {k : Nat} (h : Put l us g k (grp l (gt (sdays l) k)).length) : Put l us g (k + 1) 0 :=
  ⟨fun j hj a ha => by
    by_cases hjk : j < k
    · exact h.1 j hjk a ha
    · obtain rfl : j = k := by omega
      exact h.2 a ha, fun a ha => absurd ha (Nat.not_lt_zero _)⟩
theorem put_all {l : List Du} {us : List Um} {g : Int → Value} (hr : rising l) (h : Put l us g (sdays l).length 0) {j : Nat} (hj : j < l.length) : g (gt l j).mt = pairV (prJ l us j) := by
  have hd : (gt l j).dy ∈ sdays l := sdays_mem.2 (List.length_pos_iff.2 (List.ne_nil_of_mem (grp_mem.2 ⟨gt_mem hj, rfl⟩)))
  obtain ⟨a, ha, e⟩ := List.getElem_of_mem hd
  rw [← gt_eq _ _ ha] at e
  obtain ⟨p1, p2⟩ := plc_at hj
  have := h.1 a ha (plc l j) (by rw [e]; exact p1)
  rw [e, p2] at this
  rw [this, tgt_at hr hj]
/-- The pair of a duty is a pair of umpires. -/
theorem prJ_lt {l : List Du} {us : List Um} (h : fstBad l us = none) {j : Nat} (hj : j < l.length) : PrOK (mayL us (grp l (gt l j).dy)) us.length (plc l j) := by
  have hd : (gt l j).dy ∈ sdays l := sdays_mem.2 (List.length_pos_iff.2 (List.ne_nil_of_mem (grp_mem.2 ⟨gt_mem hj, rfl⟩)))
  have hb : badD l us (gt l j).dy = false := by
    have := List.find?_eq_none.1 h _ hd
    simpa using this
  exact pr_ok (badD_f.1 hb) (by rw [mayL_len]; exact (plc_at hj).1)
end Go.Proofs.Ytcnleglfdnhagaa
end
