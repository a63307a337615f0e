/-
  Choosing, in the machine's memory.
-/
import Derived.Test.YtcnleglfdnhagaaWE
set_option linter.unusedVariables false
set_option linter.unusedSimpArgs false
namespace Go.Proofs.Ytcnleglfdnhagaa
open Go Go.Am
/-- Where choosing stands: k umpires are chosen. -/
def CK (may : List (List Bool)) (need used : List Int) (m k : Nat) (least : Int) (ne usd : List Int) (p0 p1 : Int) : Prop :=
  (k = 0 ∧ least = -1 ∧ ne = need ∧ usd = used ∧ p0 = 0 ∧ p1 = 0) ∨
  (k = 1 ∧ ∃ u1 : Nat, least = u1 ∧ u1 < used.length ∧ chooseL may need used m used.length 0 = some u1 ∧ ne = need.set m (gt need m - 1) ∧ usd = used.set u1 (-2) ∧ p0 = u1 ∧ p1 = 0) ∨
  (k = 2 ∧ ∃ u1 u2 : Nat, PairOK may need used m u1 u2 ∧ ne = need2 need m ∧ usd = used2 used u1 u2 ∧ p0 = u1 ∧ p1 = u2)
/-- What a step of choosing finds. -/
theorem ck_find {may : List (List Bool)} {need used : List Int} {m k : Nat} {least : Int} {ne usd : List Int} {p0 p1 : Int} (h : CK may need used m k least ne usd p0 p1) (hk : k < 2) {u1 u2 : Nat} (P : PairOK may need used m u1 u2) :
    -1 ≤ least ∧ least < used.length ∧ ne.length = need.length ∧ usd.length = used.length ∧ (∃ v, chooseL may ne usd m (used.length - (least + 1).toNat) (least + 1).toNat = some v) := by
  rcases h with ⟨rfl, rfl, rfl, rfl, _⟩ | ⟨rfl, w, rfl, hw, h1, rfl, rfl, _⟩ | ⟨rfl, _⟩
  · exact ⟨by omega, by omega, rfl, rfl, u1, P.first⟩
  · have e : w = u1 := Option.some.inj (h1.symm.trans P.first)
    subst e
    exact ⟨by omega, by omega, by simp, by simp, u2, by rw [show ((w : Int) + 1).toNat = w + 1 by omega]; exact P.second⟩
  · omega
/-- The step taken. -/
theorem ck_step {may : List (List Bool)} {need used : List Int} {m k : Nat} {least : Int} {ne usd : List Int} {p0 p1 : Int} (h : CK may need used m k least ne usd p0 p1) (hk : k < 2) {u1 u2 : Nat} (P : PairOK may need used m u1 u2) {v : Nat} (hv : chooseL may ne usd m (used.length - (least + 1).toNat) (least + 1).toNat = some v) :
    CK may need used m (k + 1) v (ne.set m (gt ne m - 1)) (usd.set v (-2)) (if k = 0 then v else p0) (if k = 1 then v else p1) := by
  rcases h with ⟨rfl, rfl, rfl, rfl, rfl, rfl⟩ | ⟨rfl, w, rfl, hw, h1, rfl, rfl, rfl, rfl⟩ | ⟨rfl, _⟩
  · have e : v = u1 := Option.some.inj (hv.symm.trans P.first)
    subst e
    exact .inr (.inl ⟨rfl, v, rfl, by have := P.lt; have := P.ltn; omega, P.first, rfl, rfl, rfl, rfl⟩)
  · have e : w = u1 := Option.some.inj (h1.symm.trans P.first)
    subst e
    rw [show ((w : Int) + 1).toNat = w + 1 by omega] at hv
    have e : v = u2 := Option.some.inj (hv.symm.trans P.second)
    subst e
    exact .inr (.inr ⟨rfl, w, v, P, rfl, rfl, rfl, rfl⟩)
  · omega
theorem chooseL_skip {may : List (List Bool)} {need used : List Int} {m n u v : Nat} (hu : u < n) (h : ¬ (gt (gt may m) u = true ∧ gt used u ≠ -2 ∧ goodC may need used m u = true)) (hv : chooseL may need used m (n - u) u = some v) : chooseL may need used m (n - (u + 1)) (u + 1) = some v := by
  rw [show n - u = (n - (u + 1)) + 1 by omega, chooseL, if_neg h] at hv
  exact hv
theorem chooseL_hit {may : List (List Bool)} {need used : List Int} {m n u v : Nat} (hu : u < n) (h : gt (gt may m) u = true ∧ gt used u ≠ -2 ∧ goodC may need used m u = true) (hv : chooseL may need used m (n - u) u = some v) : v = u := by
  rw [show n - u = (n - (u + 1)) + 1 by omega, chooseL, if_pos h] at hv
  exact (Option.some.inj hv).symm
theorem chooseL_lt {may : List (List Bool)} {need used : List Int} {m n u v : Nat} (hv : chooseL may need used m (n - u) u = some v) : u < n := by
  rcases Nat.lt_or_ge u n with h | h
  · exact h
  · rw [show n - u = 0 by omega, chooseL] at hv; cases hv
/-- A row whose first u cells are cleared. -/
theorem clr_set {row : List Bool} {u : Nat} (h : u < row.length) : (clr row u).set u false = clr row (u + 1) := by
  rw [clr_eq, clr_eq, Nat.min_eq_left (by omega), Nat.min_eq_left (by omega), List.set_append_right _ _ (by simp)]
  rw [show u - (List.replicate u false).length = 0 by simp, List.drop_eq_getElem_cons h, List.set_cons_zero, List.replicate_succ', List.append_assoc]
  rfl
theorem clr_0 (row : List Bool) : clr row 0 = row := by rw [clr_eq]; simp
theorem clr_len {row : List Bool} {u : Nat} (h : u ≤ row.length) : (clr row u).length = row.length := by
  rw [clr_eq, List.length_append, List.length_replicate, List.length_drop, Nat.min_eq_left h]; omega
/-- The copy with one row written anew. -/
theorem Sta.row {H H' : Heap} {b bm bn bu : Nat} {rs : List Nat} {may : List (List Bool)} {n m : Nat} {need : List Int} {row : List Bool} (S : Sta H b bm bn bu rs may n need) (hm : m < may.length) (hk : ∀ c, c ≠ gt rs m → hget H' c = hget H c) (hr : hget H' (gt rs m) = some (row.map bv)) (hl : row.length = n)
    (h1 : gt rs m ≠ b ∧ gt rs m ≠ bm ∧ gt rs m ≠ bn) (hd : ∀ i, i < may.length → i ≠ m → gt rs i ≠ gt rs m) : Sta H' b bm bn bu rs (may.set m row) n need := by
  refine ⟨?_, (hk bm (Ne.symm h1.2.1)).trans S.ms, by rw [List.length_set]; exact S.rl, fun i hi => ?_, (hk bn (Ne.symm h1.2.2)).trans S.nd, S.ub, S.um, S.un, fun i hi => S.ur i (by simpa using hi)⟩
  · rw [hk b (Ne.symm h1.1), S.st, List.length_set]
  · rw [List.length_set] at hi
    by_cases e : m = i
    · subst e
      rw [gt_set may m m _ hm, if_pos rfl]
      exact ⟨hr, hl⟩
    · rw [gt_set_ne e]
      exact ⟨(hk _ (hd i hi (Ne.symm e))).trans (S.rw i hi).1, (S.rw i hi).2⟩
/-- After taking. -/
theorem Sta.tk {H H' : Heap} {b bm bn bu : Nat} {rs : List Nat} {may : List (List Bool)} {n : Nat} {need need' used' : List Int} (S : Sta H b bm bn bu rs may n need) (w : TkW H H' bn bu need' used') (hl : need'.length = need.length) (hb : bn ≠ b ∧ bn ≠ bm) (hr : ∀ i, i < may.length → gt rs i ≠ bn) : Sta H' b bm bn bu rs may n need' :=
  ⟨by rw [w.keep b (Ne.symm S.ub) (Ne.symm hb.1), S.st, hl], (w.keep bm (Ne.symm S.um) (Ne.symm hb.2)).trans S.ms, S.rl, fun i hi => ⟨(w.keep _ (S.ur i hi) (hr i hi)).trans (S.rw i hi).1, (S.rw i hi).2⟩, w.hn, S.ub, S.um, S.un, S.ur⟩
theorem Sta.nb {H : Heap} {b bm bn bu : Nat} {rs : List Nat} {may : List (List Bool)} {n : Nat} {need : List Int} (S : Sta H b bm bn bu rs may n need) (h0 : 0 < may.length) (h1 : 0 < need.length) : (bn ≠ b ∧ bn ≠ bm) ∧ ∀ i, i < may.length → gt rs i ≠ bn := by
  have hne : need ≠ [] := fun e => by rw [e] at h1; simp at h1
  have hrs : rs ≠ [] := fun e => by have := S.rl; rw [e] at this; simp at this; omega
  refine ⟨⟨fun e => ?_, ne_io S.ms hrs S.nd⟩, fun i hi => ne_ints S.nd hne (S.rw i hi).1⟩
  have h := S.nd
  rw [e, S.st] at h
  cases need with
  | nil => exact hne rfl
  | cons x r => simp at h
theorem OutI.lenV {lo : Nat} {H : Heap} {o : AV} {w : List Int} (h : OutI lo H o w) : Go.Am.lenV (tyOf Try.prog 25) o = some (AV.i (w.length : Int)) := by
  rcases h with ⟨rfl, rfl⟩ | ⟨b, rfl, _⟩
  · rw [ty25]; rfl
  · rw [ty25]; rfl
theorem Sta.grow {H H' : Heap} {b bm bn bu : Nat} {rs : List Nat} {may : List (List Bool)} {n : Nat} {need : List Int} (S : Sta H b bm bn bu rs may n need) (hk : ∀ c, c < H.length → hget H' c = hget H c) : Sta H' b bm bn bu rs may n need := by
  obtain ⟨l1, l2, l3, l4⟩ := S.lt
  exact ⟨(hk b l1).trans S.st, (hk bm l2).trans S.ms, S.rl, fun i hi => ⟨(hk _ (l4 i hi)).trans (S.rw i hi).1, (S.rw i hi).2⟩, (hk bn l3).trans S.nd, S.ub, S.um, S.un, S.ur⟩
/-- What is at hand before choosing. -/
structure ChPre (lim : Nat) (H : Heap) (b bm bn bu : Nat) (rs : List Nat) (may : List (List Bool)) (need used : List Int) (m : Nat) : Prop where
  sta : Sta H b bm bn bu rs may used.length need
  hu : hget H bu = some (used.map AV.i)
  lb : lim ≤ bu
  ln : lim ≤ bn
  lh : lim ≤ H.length
  mn : may.length = need.length
  kl : may.length ≤ 100
  nl : used.length ≤ 1000
  ml : m < need.length
  nr : ∀ j, 0 ≤ gt need j ∧ gt need j ≤ 1000
  neg : ∀ u, -2 ≤ gt used u ∧ (u < used.length → gt used u < 0)
  m2 : gt need m = 2
/-- The running facts: needs and umpires as they are while choosing. -/
theorem ck_facts {may : List (List Bool)} {need used : List Int} {m k : Nat} {least : Int} {ne usd : List Int} {p0 p1 : Int} (h : CK may need used m k least ne usd p0 p1) (hk : k < 2) (hm : m < need.length) (h2 : gt need m = 2) (hnr : ∀ j, 0 ≤ gt need j ∧ gt need j ≤ 1000) (hneg : ∀ u, -2 ≤ gt used u ∧ (u < used.length → gt used u < 0)) :
    (1 ≤ gt ne m ∧ gt ne m ≤ 1000) ∧ (∀ j, 0 ≤ gt (ne.set m (gt ne m - 1)) j ∧ gt (ne.set m (gt ne m - 1)) j ≤ 1000) ∧ (∀ u, -2 ≤ gt usd u ∧ (u < used.length → gt usd u < 0)) := by
  rcases h with ⟨rfl, rfl, rfl, rfl, _⟩ | ⟨rfl, w, rfl, hw, h1, rfl, rfl, _⟩ | ⟨rfl, _⟩
  · refine ⟨by omega, fun j => ?_, hneg⟩
    rw [gt_set _ m j _ hm]; split
    · omega
    · exact hnr j
  · refine ⟨by rw [gt_set _ m m _ hm, if_pos rfl]; omega, fun j => ?_, fun u => ?_⟩
    · rw [gt_set _ m j _ (by simpa using hm), gt_set _ m m _ hm, if_pos rfl, gt_set _ m j _ hm]; split
      · omega
      · exact hnr j
    · rw [gt_set _ w u _ hw]; split
      · exact ⟨by decide, fun _ => by decide⟩
      · exact hneg u
  · omega
theorem iap49 (b o : Nat) (k : IntKind) (i : Int) (h0 : 0 ≤ i) (h1 : i < 2) : indexAddrV Try.prog 49 (.ptr b o) (.v (.int k i)) = some (.ptr b (o + i.toNat)) := by
  simp only [indexAddrV, tk49, ty3]
  rw [if_pos ⟨h0, h1⟩, Nat.mul_one]
attribute [go_sem] iap49
theorem set_self {α : Type} [Inhabited α] {l : List α} {m : Nat} (h : m < l.length) : l.set m (gt l m) = l := by
  rw [gt_eq _ _ h]; exact List.set_getElem_self h
theorem Sta.other {H H' : Heap} {b bm bn bu x : Nat} {rs : List Nat} {may : List (List Bool)} {n : Nat} {need : List Int} (S : Sta H b bm bn bu rs may n need) (hk : ∀ c, c ≠ x → hget H' c = hget H c) (h1 : x ≠ b) (h2 : x ≠ bm) (h3 : x ≠ bn) (h4 : ∀ i, i < may.length → gt rs i ≠ x) : Sta H' b bm bn bu rs may n need :=
  ⟨(hk b (Ne.symm h1)).trans S.st, (hk bm (Ne.symm h2)).trans S.ms, S.rl, fun i hi => ⟨(hk _ (h4 i hi)).trans (S.rw i hi).1, (S.rw i hi).2⟩, (hk bn (Ne.symm h3)).trans S.nd, S.ub, S.um, S.un, S.ur⟩
end Go.Proofs.Ytcnleglfdnhagaa
