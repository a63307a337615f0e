/-
  The callees that the law takes by contract: Appoint, Check, Contains.
-/
import Derived.Test.YtcnleglfdnhagaaHw
set_option linter.unusedVariables false
namespace Go.Proofs.Ytcnleglfdnhagaa.L
open Go Go.Am Go.Maps Go.RowKit
theorem flatD_inj : ∀ {l m : List Du}, flatD l = flatD m → l = m
  | [], [], _ => rfl
  | [], y :: m, h => by simp [flatD] at h
  | x :: l, [], h => by simp [flatD] at h
  | x :: l, y :: m, h => by
    have h2 : duC x ++ flatD l = duC y ++ flatD m := h
    obtain ⟨h3, h4⟩ := List.append_inj h2 rfl
    rw [flatD_inj h4]
    obtain ⟨a, b, c, d⟩ := x
    obtain ⟨a', b', c', d'⟩ := y
    simp at h3
    obtain ⟨rfl, rfl, rfl, rfl⟩ := h3
    rfl
theorem ints_inj : ∀ {l m : List Int}, l.map AV.i = m.map AV.i → l = m
  | [], [], _ => rfl
  | [], y :: m, h => by simp at h
  | x :: l, [], h => by simp at h
  | x :: l, y :: m, h => by
    rw [List.map_cons, List.map_cons] at h
    injection h with h1 h2
    rw [ints_inj h2]
    simp at h1
    rw [h1]
theorem flatU_inj : ∀ {l m : List Um}, flatU l = flatU m → l = m
  | [], [], _ => rfl
  | [], y :: m, h => by simp [flatU] at h
  | x :: l, [], h => by simp [flatU] at h
  | x :: l, y :: m, h => by
    have h2 : umC x ++ flatU l = umC y ++ flatU m := h
    obtain ⟨h3, h4⟩ := List.append_inj h2 rfl
    rw [flatU_inj h4]
    obtain ⟨a, b, c⟩ := x
    obtain ⟨a', b', c'⟩ := y
    simp only [umC, List.cons.injEq, AV.v.injEq, Value.string.injEq, AV.sl.injEq] at h3
    obtain ⟨rfl, rfl, ⟨_, h5⟩, _⟩ := h3
    rw [ints_inj h5]
abbrev apC (x : Ap) : List AV := [AV.i x.mt, .v (.string x.one), .v (.string x.two)]
def flatC (l : List Ap) : List AV := (l.map apC).flatten
theorem flatC_V : ∀ l : List Ap, flatC l = (flatAV l).map AV.v
  | [] => rfl
  | x :: l => by
    have h := flatC_V l
    unfold flatC flatAV at h ⊢
    rw [List.map_cons, List.flatten_cons, List.map_cons, List.flatten_cons, List.map_append, h]
    rfl
abbrev apsAV (l : List Ap) : AV := .sl l.length (flatC l)
/-- What comes in: the first k of l, the first k2 of us. -/
structure InR (l : List Du) (us : List Um) (k k2 : Nat) : Prop where
  kl : k ≤ l.length
  kh : k ≤ 100
  ul : k2 ≤ us.length
  uh : k2 ≤ 100
  hs : ∀ u, (gt l u).ho.size ≤ 9223372036854775807 ∧ (gt l u).aw.size ≤ 9223372036854775807
  hs2 : ∀ u, (gt us u).nm.size ≤ 9223372036854775807 ∧ (gt us u).tm.size ≤ 9223372036854775807
abbrev inA (l : List Du) (us : List Um) (k k2 : Nat) : List AV := [.sl k (flatD l), .sl k2 (flatU us)]
theorem inA_inj {l l' : List Du} {us us' : List Um} {k k' k2 k2' : Nat} (h : inA l us k k2 = inA l' us' k' k2') : l = l' ∧ us = us' ∧ k = k' ∧ k2 = k2' := by
  simp only [List.cons.injEq, AV.sl.injEq, and_true] at h
  obtain ⟨⟨rfl, h1⟩, rfl, h2⟩ := h
  exact ⟨flatD_inj h1, flatU_inj h2, rfl, rfl⟩
structure Inp where
  l : List Du
  us : List Um
  k : Nat
  k2 : Nat
open Classical in
noncomputable def pickA (f : List Du → List Um → AV) (args : List AV) : Option AV :=
  if h : ∃ x : Inp, args = inA x.l x.us x.k x.k2 ∧ InR x.l x.us x.k x.k2 then some (f (h.choose.l.take h.choose.k) (h.choose.us.take h.choose.k2)) else none
theorem pickA_eq {f : List Du → List Um → AV} {l : List Du} {us : List Um} {k k2 : Nat} (h : InR l us k k2) : pickA f (inA l us k k2) = some (f (l.take k) (us.take k2)) := by
  have hx : ∃ x : Inp, inA l us k k2 = inA x.l x.us x.k x.k2 ∧ InR x.l x.us x.k x.k2 := ⟨⟨l, us, k, k2⟩, rfl, h⟩
  unfold pickA
  rw [dif_pos hx]
  obtain ⟨h1, h2, h3, h4⟩ := inA_inj hx.choose_spec.1
  rw [← h1, ← h2, ← h3, ← h4]
theorem pickA_some {f : List Du → List Um → AV} {args : List AV} {r : AV} (h : pickA f args = some r) : ∃ l us k k2, args = inA l us k k2 ∧ InR l us k k2 ∧ r = f (l.take k) (us.take k2) := by
  unfold pickA at h
  split at h
  · rename_i hx
    obtain ⟨h1, h2⟩ := hx.choose_spec
    exact ⟨_, _, _, _, h1, h2, (Option.some.inj h).symm⟩
  · cases h
noncomputable def appAV (l : List Du) (us : List Um) : AV := .tup [apsAV (appO l us), intsAV (appN l us), AV.i (appE l us)]
abbrev ckAV (l : List Du) (us : List Um) : AV := AV.i (ckS l us)
open Classical in
noncomputable def contF (args : List AV) : Option AV :=
  if h : ∃ x : List Int × Int, args = [intsAV x.1, AV.i x.2] ∧ x.1.length ≤ 1000000 then some (.v (.bool (h.choose.1.contains h.choose.2))) else none
theorem cont_eq {l : List Int} {v : Int} (h : l.length ≤ 1000000) : contF [intsAV l, AV.i v] = some (.v (.bool (l.contains v))) := by
  have hx : ∃ x : List Int × Int, [intsAV l, AV.i v] = [intsAV x.1, AV.i x.2] ∧ x.1.length ≤ 1000000 := ⟨(l, v), rfl, h⟩
  unfold contF
  rw [dif_pos hx]
  have h1 := hx.choose_spec.1
  generalize hx.choose = x at h1 ⊢
  simp only [List.cons.injEq, AV.sl.injEq, AV.v.injEq, Value.int.injEq, true_and, and_true] at h1
  obtain ⟨⟨_, h3⟩, h4⟩ := h1
  rw [← ints_inj h3, ← h4]
theorem cont_some {args : List AV} {r : AV} (h : contF args = some r) : ∃ l v, args = [intsAV l, AV.i v] ∧ l.length ≤ 1000000 ∧ r = .v (.bool (l.contains v)) := by
  unfold contF at h
  split at h
  · rename_i hx
    obtain ⟨h1, h2⟩ := hx.choose_spec
    exact ⟨_, _, h1, h2, (Option.some.inj h).symm⟩
  · cases h
noncomputable def primF : FuncId → Option (List AV → Heap → Option AV)
  | 4 => some fun args _ => pickA appAV args
  | 5 => some fun args _ => contF args
  | 8 => some fun args _ => contF args
  | 9 => some fun args _ => pickA ckAV args
  | _ => none
/-! ### They hold -/
section
variable {φ : Phi} {I J : Nat → Prop} {w w' : World} {lim : Nat} {H : Heap}
theorem den_pre {n : Nat} {l m : List AV} {v : Value} (h : Den φ I w (.sl n l) v) (hp : ∀ (j : Nat) (x : AV), m[j]? = some x → l[j]? = some x) : Den φ I w (.sl n m) v := by
  cases h with
  | sl0 l p => exact .sl0 _ _
  | sl n l c a Y hn hc ha hI hY hD => exact .sl n m c a Y hn hc ha hI (fun j x hj => hY j x (hp j x hj)) fun j x hj => hD j x (hp j x hj)
theorem pre_of {l m : List AV} (r : List AV) (h : l = m ++ r) : ∀ (j : Nat) (x : AV), m[j]? = some x → l[j]? = some x := fun j x hj => by
  rw [h, List.getElem?_append_left (List.getElem?_eq_some_iff.1 hj).1]
  exact hj
theorem den_du {l : List Du} {k : Nat} {v : Value} (hk : k ≤ l.length) (h : Den φ I w (.sl k (flatD l)) v) : Den φ I w (dusAV (l.take k)) v := by
  have e : flatD l = flatD (l.take k) ++ flatD (l.drop k) := by
    unfold flatD
    rw [← List.flatten_append, ← List.map_append, List.take_append_drop]
  have hl : (l.take k).length = k := by simp; omega
  show Den φ I w (.sl (l.take k).length (flatD (l.take k))) v
  rw [hl]
  exact den_pre h (pre_of _ e)
theorem den_um {l : List Um} {k : Nat} {v : Value} (hk : k ≤ l.length) (h : Den φ I w (.sl k (flatU l)) v) : Den φ I w (umsAV (l.take k)) v := by
  have e : flatU l = flatU (l.take k) ++ flatU (l.drop k) := by
    unfold flatU
    rw [← List.flatten_append, ← List.map_append, List.take_append_drop]
  have hl : (l.take k).length = k := by simp; omega
  show Den φ I w (.sl (l.take k).length (flatU (l.take k))) v
  rw [hl]
  exact den_pre h (pre_of _ e)
/-- Nothing of the call's own memory in it. -/
inductive Nr : AV → Prop
  | v (x : Value) : Nr (.v x)
  | sl (n : Nat) (l : List AV) (h : ∀ x ∈ l, Nr x) : Nr (.sl n l)
theorem den_nr (hI : ∀ k, I k → J k) {x : AV} {v : Value} (h : Den φ I w x v) (hn : Nr x) : Den [] J w x v := by
  induction h with
  | v x => exact .v x
  | sl0 l p => exact .sl0 l p
  | sl n l c a Y hn' hc ha hIa hY hD ih =>
    cases hn with
    | sl _ _ hl => exact .sl n l c a Y hn' hc ha (hI _ hIa) hY fun j x hj => ih j x hj (hl x (List.mem_of_getElem? hj))
  | any x => cases hn
  | own0 z b o h => cases hn
  | own z b o n c off L h hn' hc ho => cases hn
  | ptr b o L h => cases hn
  | ele l o a Y ha hIa hY hD ih => cases hn
  | agg l cs hs hD ih => cases hn
  | tup l cs hs hD ih => cases hn
  | clo f l cs hs hD ih => cases hn
theorem nr_du (l : List Du) : Nr (dusAV l) := .sl _ _ fun x hx => by
  rw [flatD_V] at hx
  obtain ⟨y, _, rfl⟩ := List.mem_map.1 hx
  exact .v y
theorem nr_um (l : List Um) : Nr (umsAV l) := .sl _ _ fun x hx => by
  unfold flatU at hx
  obtain ⟨c, hc, hx⟩ := List.mem_flatten.1 hx
  obtain ⟨y, _, rfl⟩ := List.mem_map.1 hc
  simp only [umC, List.mem_cons, List.not_mem_nil, or_false] at hx
  rcases hx with rfl | rfl | rfl
  · exact .v _
  · exact .v _
  · exact .sl _ _ fun z hz => by
      obtain ⟨y, _, rfl⟩ := List.mem_map.1 hz
      exact .v _
theorem rel_more (hR : Rel lim φ I w H) (hb : Below w.heap.size w w') : Rel lim φ (fun k => I k ∨ (w.heap.size ≤ k ∧ k < w'.heap.size)) w' H := by
  have h1 := rel_keep (B := w.heap.size) hR hb.size (fun k hk _ => hb.block k hk) (fun C T z e => by simp at e)
  refine ⟨h1.len, h1.limle, fun b k hk => ?_, fun b L hL => ⟨?_, (h1.disj b L hL).2⟩, h1.inj, h1.sep, fun k hk => ?_, fun _ _ => trivial⟩
  · rcases h1.blk b k hk with h | ⟨L, C, T, g1, g2, g3, g5, g6⟩
    · exact .inl h
    · exact .inr ⟨L, C, T, g1, g2, g3, g5, fun j x hx => by obtain ⟨y, e1, e2⟩ := g6 j x hx; exact ⟨y, e1, e2.mono (List.prefix_refl _) (fun _ h => .inl h) fun _ _ => rfl⟩⟩
  · rintro (h | h)
    · exact (h1.disj b L hL).1 h
    · have := (hR.disj b L hL).2; omega
  · rcases hk with h | h
    · exact h1.Ilt k h
    · exact h.2
theorem dl_two {x y : AV} {cs : Array Value} (h : DL φ I w [x, y] cs) : ∃ a b, cs = #[a, b] ∧ Den φ I w x a ∧ Den φ I w y b := by
  obtain ⟨h1, h2⟩ := h
  obtain ⟨l⟩ := cs
  match l, h1 with
  | [a, b], _ => exact ⟨a, b, rfl, h2 0 x a rfl rfl, h2 1 y b rfl rfl⟩
theorem named4 : Named Try.prog 4 := ⟨_, Try.func4, by kernel_rfl, rfl⟩
theorem pure_call {f : FuncId} {args : List AV} {r r0 : AV} {H' : Heap} {n : Nat} (hp : sig.pure f = true) (h : acall sig n lim f args H = some (r, H')) (hr : r = r0) {cs : Array Value} (hR : Rel lim φ I w H) (hD : DL φ I w args cs) : CallW Try.prog f cs w (PurePost φ I w lim H r0) := by
  subst hr
  exact ((acall_sound sig_ok n).2 lim f args H r H' hp h).2 φ I w cs hR hD
theorem gt_take {α : Type} [Inhabited α] {P : α → Prop} {l : List α} {k : Nat} (hd : P default) (h : ∀ u, P (gt l u)) : ∀ u, P (gt (l.take k) u) := fun u => by
  by_cases hu : u < (l.take k).length
  · rw [gt_eq _ _ hu, List.getElem_take]
    have := h u
    rw [gt_eq _ _ (by simp at hu; omega)] at this
    exact this
  · have e : gt (l.take k) u = default := by unfold gt; rw [List.getD_eq_getElem?_getD, List.getElem?_eq_none (by omega)]; rfl
    rw [e]; exact hd
end
theorem prim_ok : ∀ f p, primF f = some p → ∀ args H r, p args H = some r → ∀ (lim : Nat) (φ : Phi) (I : Nat → Prop) (w : World) (cs : Array Value), Tb w → Rel lim φ I w H → DL φ I w args cs → CallW Try.prog f cs w (PurePost φ I w lim H r) := by
  intro f p h args H r hr lim φ I w cs hT hR hD
  unfold primF at h
  split at h
  · cases h
    obtain ⟨l, us, k, k2, rfl, R, rfl⟩ := pickA_some hr
    obtain ⟨a, b, rfl, hd1, hd2⟩ := dl_two hD
    have hv := den_nr (J := Iw w) hR.Ilt (den_du R.kl hd1) (nr_du _)
    have hu := den_nr (J := Iw w) hR.Ilt (den_um R.ul hd2) (nr_um _)
    have hl1 : (l.take k).length = k := by have := R.kl; simp; omega
    have hl2 : (us.take k2).length = k2 := by have := R.ul; simp; omega
    have hc := appoint_c w (l.take k) (us.take k2) a b hv hu (by rw [hl1]; exact R.kh) (by rw [hl2]; exact R.uh) (gt_take (P := fun x : Du => x.ho.size ≤ 9223372036854775807 ∧ x.aw.size ≤ 9223372036854775807) (by decide) R.hs) (gt_take (P := fun x : Um => x.nm.size ≤ 9223372036854775807 ∧ x.tm.size ≤ 9223372036854775807) (by decide) R.hs2)
    refine .inl ⟨named4, hc.mono ?_⟩
    rintro e w' ⟨ov, nv, rfl, ho, hn, hb⟩
    refine ⟨_, fun k => I k ∨ (w.heap.size ≤ k ∧ k < w'.heap.size), rfl, ?_, fun _ h => .inl h, ⟨hb.os, ⟨hb.tape, fun h => h.elim⟩, hb.output, hb.size, hb.block⟩, rel_more hR hb⟩
    have d1 : Den φ (fun k => I k ∨ (w.heap.size ≤ k ∧ k < w'.heap.size)) w' (apsAV (appO (l.take k) (us.take k2))) ov := by
      show Den _ _ _ (.sl _ (flatC _)) _
      rw [flatC_V]
      exact den_own ho fun k e => .inr (ho.lt k e)
    have d2 : Den φ (fun k => I k ∨ (w.heap.size ≤ k ∧ k < w'.heap.size)) w' (intsAV (appN (l.take k) (us.take k2))) nv := by
      have := den_own (φ := φ) (I := fun k => I k ∨ (w.heap.size ≤ k ∧ k < w'.heap.size)) hn fun k e => .inr (hn.lt k e)
      rw [List.map_map] at this
      exact this
    refine .tup _ _ rfl fun j x y hx hy => ?_
    rcases j with _ | _ | _ | j
    · obtain rfl := Option.some.inj hx; obtain rfl := Option.some.inj hy; exact d1
    · obtain rfl := Option.some.inj hx; obtain rfl := Option.some.inj hy; exact d2
    · obtain rfl := Option.some.inj hx; obtain rfl := Option.some.inj hy; exact .v _
    · simp at hx
  · cases h
    obtain ⟨l, v, rfl, hl, rfl⟩ := cont_some hr
    obtain ⟨n, r, H', h, hr, _⟩ := cont64 lim H l v hl
    exact pure_call rfl h hr hR hD
  · cases h
    obtain ⟨l, v, rfl, hl, rfl⟩ := cont_some hr
    obtain ⟨n, r, H', h, hr, _⟩ := contI lim H l v hl
    exact pure_call rfl h hr hR hD
  · cases h
    obtain ⟨l, us, k, k2, rfl, R, rfl⟩ := pickA_some hr
    obtain ⟨a, b, rfl, hd1, hd2⟩ := dl_two hD
    have hl1 : (l.take k).length = k := by have := R.kl; simp; omega
    have hl2 : (us.take k2).length = k2 := by have := R.ul; simp; omega
    have hkh := R.kh
    have huh := R.uh
    obtain ⟨n, r, H', h, hr, _⟩ := check_ok lim H (l.take k) (us.take k2) (by omega) (by omega) (gt_take (P := fun x : Du => x.ho.size ≤ 9223372036854775807 ∧ x.aw.size ≤ 9223372036854775807) (by decide) R.hs) (gt_take (P := fun x : Um => x.nm.size ≤ 9223372036854775807 ∧ x.tm.size ≤ 9223372036854775807) (by decide) R.hs2)
    exact pure_call rfl h hr hR (dl2 (den_du R.kl hd1) (den_um R.ul hd2))
  · cases h
end Go.Proofs.Ytcnleglfdnhagaa.L
