/-
  A flow and a cut prove each other: no flow has a greater value than a cut has capacity, and what Max gives has the same. Plain proofs.
-/
import Derived.Test.YtdicnojnkbmdlaaQF
set_option linter.unusedVariables false
namespace Go.Proofs.Ytdicnojnkbmdlaa
open Go Go.Am

def sumC (cut : List Bool) (g : Int → Int) : Nat → Int
  | 0 => 0
  | v + 1 => sumC cut g v + if gt cut v = true then g v else 0
theorem sumC_add (cut : List Bool) (g h : Int → Int) : ∀ N, sumC cut (fun v => g v + h v) N = sumC cut g N + sumC cut h N
  | 0 => rfl
  | N + 1 => by rw [sumC, sumC, sumC, sumC_add cut g h N]; split <;> omega
theorem sumC_congr (cut : List Bool) {g h : Int → Int} : ∀ N, (∀ v : Nat, v < N → gt cut v = true → g v = h v) → sumC cut g N = sumC cut h N
  | 0, _ => rfl
  | N + 1, e => by
    rw [sumC, sumC, sumC_congr cut N fun v hv => e v (by omega)]
    split
    · rw [e N (by omega) (by assumption)]
    · rfl
theorem sumC_zero (cut : List Bool) : ∀ N, sumC cut (fun _ => 0) N = 0
  | 0 => rfl
  | N + 1 => by rw [sumC, sumC_zero cut N]; split <;> rfl
theorem sumC_one (cut : List Bool) (a x : Int) (h0 : 0 ≤ a) : ∀ N : Nat, sumC cut (fun v => if a = v then x else 0) N = if a < N ∧ gt cut a.toNat = true then x else 0
  | 0 => by rw [if_neg (by omega)]; rfl
  | N + 1 => by
    rw [sumC, sumC_one cut a x h0 N]
    by_cases ha : a = N
    · rw [if_neg (by omega), if_pos ha]
      have e : a.toNat = N := by omega
      rw [e]
      by_cases hc : gt cut N = true
      · rw [if_pos hc, if_pos ⟨by omega, hc⟩]; omega
      · rw [if_neg hc, if_neg (fun h => hc h.2)]; rfl
    · rw [if_neg ha]
      simp only [ite_self, Int.add_zero]
      by_cases hc : a < N ∧ gt cut a.toNat = true
      · rw [if_pos hc, if_pos ⟨by omega, hc.2⟩]
      · rw [if_neg hc, if_neg (fun h => hc ⟨by omega, h.2⟩)]
def netN (E : List Ed) (f : List Int) (cut : List Bool) : Nat → Int
  | 0 => 0
  | u + 1 => netN E f cut u + ((if gt cut (gt E u).a.toNat = true then gt f u else 0) - (if gt cut (gt E u).b.toNat = true then gt f u else 0))
theorem sum_exc {n s t : Int} {E : List Ed} (g : GOK n s t E) (f : List Int) (cut : List Bool) : ∀ u, u ≤ E.length → sumC cut (fun v => exc E f v u) n.toNat = netN E f cut u
  | 0, _ => sumC_zero cut _
  | u + 1, h => by
    have ih := sum_exc g f cut u (by omega)
    have e := g.ed u (by omega)
    have h1 := sumC_one cut (gt E u).a (gt f u) e.1 n.toNat
    have h2 := sumC_one cut (gt E u).b (-(gt f u)) e.2.2.1 n.toNat
    have k : sumC cut (fun v => exc E f v (u + 1)) n.toNat = sumC cut (fun v => exc E f v u + ((if (gt E u).a = v then gt f u else 0) + (if (gt E u).b = v then -(gt f u) else 0))) n.toNat :=
      sumC_congr cut _ fun v _ _ => by
        rw [exc]
        split <;> split <;> omega
    rw [k, sumC_add cut (fun v => exc E f v u), sumC_add cut (fun v => if (gt E u).a = v then gt f u else 0), ih, h1, h2, netN]
    have c1 : ((gt E u).a < (n.toNat : Int) ∧ gt cut (gt E u).a.toNat = true) ↔ gt cut (gt E u).a.toNat = true := ⟨fun h => h.2, fun h => ⟨by omega, h⟩⟩
    have c2 : ((gt E u).b < (n.toNat : Int) ∧ gt cut (gt E u).b.toNat = true) ↔ gt cut (gt E u).b.toNat = true := ⟨fun h => h.2, fun h => ⟨by omega, h⟩⟩
    simp only [c1, c2]
    split <;> split <;> omega
theorem flow_net {n s t : Int} {E : List Ed} {f : List Int} (g : GOK n s t E) (F : FlowOK n s t E f) {cut : List Bool} (hs : gt cut s.toNat = true) (ht : gt cut t.toNat = false) : exc E f s E.length = netN E f cut E.length := by
  have h1 := g.s0
  have h2 := g.s1
  have h3 := g.n2
  rw [← sum_exc g f cut E.length (Nat.le_refl _)]
  have k : sumC cut (fun v => exc E f v E.length) n.toNat = sumC cut (fun v => if s = v then exc E f s E.length else 0) n.toNat :=
    sumC_congr cut _ fun v hv hc => by
      by_cases hsv : s = v
      · rw [if_pos hsv, hsv]
      · rw [if_neg hsv]
        refine F.con v (by omega) (by omega) (Ne.symm hsv) fun htv => ?_
        rw [← htv, Int.toNat_natCast] at ht
        rw [hc] at ht; cases ht
  rw [k, sumC_one cut s _ h1, if_pos ⟨by omega, hs⟩]
theorem net_le {E : List Ed} {f : List Int} {cut : List Bool} (hf : fRng E f) : ∀ u, u ≤ E.length → netN E f cut u ≤ capN E cut u
  | 0, _ => Int.le_refl _
  | u + 1, h => by
    have ih := net_le hf u (by omega) (cut := cut)
    have := hf u (by omega)
    rw [netN, capN]
    cases gt cut (gt E u).a.toNat <;> cases gt cut (gt E u).b.toNat <;> simp <;> omega
theorem net_eq {E : List Ed} {f : List Int} {cut : List Bool} (h1 : ∀ i, i < E.length → gt cut (gt E i).a.toNat = true → gt cut (gt E i).b.toNat = false → gt f i = (gt E i).c) (h2 : ∀ i, i < E.length → gt cut (gt E i).a.toNat = false → gt cut (gt E i).b.toNat = true → gt f i = 0) :
    ∀ u, u ≤ E.length → netN E f cut u = capN E cut u
  | 0, _ => rfl
  | u + 1, h => by
    have ih := net_eq h1 h2 u (by omega)
    have a1 := h1 u (by omega)
    have a2 := h2 u (by omega)
    rw [netN, capN, ih]
    cases ha : gt cut (gt E u).a.toNat <;> cases hb : gt cut (gt E u).b.toNat <;> simp [ha, hb] at a1 a2 ⊢ <;> omega
theorem flow_of {n s t : Int} {E : List Ed} {f : List Int} (h : feasS n s t E f = 0) : FlowOK n s t E f := by
  obtain ⟨g, hl, hr, hb⟩ := feas_of h
  have ge4 : ∀ i, i < E.length → 0 ≤ (gt E i).a ∧ (gt E i).a < n ∧ 0 ≤ (gt E i).b ∧ (gt E i).b < n := fun i hi => by have := g.ed i hi; omega
  refine ⟨hl, hr, fun v h0 h1 h2 h3 => ?_⟩
  rw [← surp_exc ge4 h0 h1 _ (Nat.le_refl _)]
  refine Classical.byContradiction fun hn => hb ⟨v.toNat, ?_, hn, ?_, ?_⟩
  · rw [surp_len]; omega
  · omega
  · omega
theorem feas_flow {n s t : Int} {E : List Ed} {f : List Int} (h : gchkS n s t E = 0) (F : FlowOK n s t E f) : feasS n s t E f = 0 := by
  have g := gok_of h
  have ge4 : ∀ i, i < E.length → 0 ≤ (gt E i).a ∧ (gt E i).a < n ∧ 0 ≤ (gt E i).b ∧ (gt E i).b < n := fun i hi => by have := g.ed i hi; omega
  rw [feasS, if_neg (fun hh => hh h), if_neg (fun hh => hh F.len), if_neg (fun hh => hh F.rng), if_neg]
  rintro ⟨j, hj, h1, h2, h3⟩
  rw [surp_len] at hj
  have := surp_exc ge4 (v := (j : Int)) (f := f) (by omega) (by omega) E.length (Nat.le_refl _)
  rw [Int.toNat_natCast] at this
  rw [this, F.con j (by omega) (by omega) h2 h3] at h1
  exact h1 rfl
theorem value_exc {n s t : Int} {E : List Ed} {f : List Int} (h : feasS n s t E f = 0) : valueS n s t E f = (exc E f s E.length, 0) := by
  obtain ⟨g, hl, hr, hb⟩ := feas_of h
  have ge4 : ∀ i, i < E.length → 0 ≤ (gt E i).a ∧ (gt E i).a < n ∧ 0 ≤ (gt E i).b ∧ (gt E i).b < n := fun i hi => by have := g.ed i hi; omega
  rw [valueS, if_neg (fun hh => hh h), surp_exc ge4 g.s0 g.s1 _ (Nat.le_refl _)]
theorem value_feas {n s t : Int} {E : List Ed} {f : List Int} (h : (valueS n s t E f).2 = 0) : feasS n s t E f = 0 := by
  by_cases hf : feasS n s t E f = 0
  · exact hf
  · rw [valueS, if_pos hf] at h; exact h
theorem cap_of {n s t : Int} {E : List Ed} {cut : List Bool} (h : (capS n s t E cut).2 = 0) : gt cut s.toNat = true ∧ gt cut t.toNat = false ∧ (capS n s t E cut).1 = capN E cut E.length := by
  unfold capS at h ⊢
  split at h
  · rename_i h1; exact absurd h h1
  split at h
  · cases h
  rename_i h1 h2
  rw [if_neg h1, if_neg h2]
  refine ⟨?_, ?_, rfl⟩
  · cases hc : gt cut s.toNat with
    | true => rfl
    | false => exact absurd (.inr (.inl hc)) h2
  · cases hc : gt cut t.toNat with
    | false => rfl
    | true => exact absurd (.inr (.inr hc)) h2
theorem max_proves {n s t : Int} {E : List Ed} (h : gchkS n s t E = 0) (f : List Int) (cut : List Bool) :
    (valueS n s t E (maxF n s t E)).2 = 0 ∧ acceptS n s t E (maxF n s t E) (reachS n s E (maxF n s t E)).seen = 0 ∧ ((valueS n s t E f).2 = 0 → (valueS n s t E f).1 ≤ (valueS n s t E (maxF n s t E)).1) ∧
      ((capS n s t E cut).2 = 0 → (valueS n s t E (maxF n s t E)).1 ≤ (capS n s t E cut).1) := by
  have g := gok_of h
  have h1 := g.n2
  obtain ⟨F, ht⟩ := maxF_ok h
  obtain ⟨ord, so, R, hc⟩ := reach_inv (maxF n s t E) g
  have hv := value_exc (feas_flow h F)
  have hs : gt (reachS n s E (maxF n s t E)).seen s.toNat = true := (R.seen s g.s0 g.s1).2 ⟨0, R.pos, R.hd⟩
  have hcap : capS n s t E (reachS n s E (maxF n s t E)).seen = (capN E (reachS n s E (maxF n s t E)).seen E.length, 0) := by
    rw [capS, if_neg (fun hh => hh h), if_neg]
    rintro (hh | hh | hh)
    · rw [so.seen] at hh; omega
    · rw [hs] at hh; cases hh
    · rw [ht] at hh; cases hh
  have heq : exc E (maxF n s t E) s E.length = capN E (reachS n s E (maxF n s t E)).seen E.length := by
    rw [flow_net g F hs ht]
    refine net_eq (fun i hi ha hb => ?_) (fun i hi ha hb => ?_) _ (Nat.le_refl _)
    · have e := g.ed i hi
      obtain ⟨k, hk, hkv⟩ := (R.seen _ e.1 e.2.1).1 ha
      have r := F.rng i hi
      refine Classical.byContradiction fun hn => ?_
      have := (hc k hk i hi).1 hkv.symm (by omega)
      rw [hb] at this; cases this
    · have e := g.ed i hi
      obtain ⟨k, hk, hkv⟩ := (R.seen _ e.2.2.1 e.2.2.2.1).1 hb
      have r := F.rng i hi
      refine Classical.byContradiction fun hn => ?_
      have := (hc k hk i hi).2 hkv.symm (by omega)
      rw [ha] at this; cases this
  refine ⟨by rw [hv], ?_, fun hf => ?_, fun hq => ?_⟩
  · rw [acceptS, hv, hcap, if_neg (fun hh => hh rfl), if_neg (fun hh => hh rfl), if_neg (fun hh => hh heq)]
  · have hff := value_feas hf
    have FF := flow_of hff
    rw [hv, value_exc hff]
    show exc E f s E.length ≤ exc E (maxF n s t E) s E.length
    rw [heq, flow_net g FF hs ht]
    exact net_le FF.rng _ (Nat.le_refl _)
  · obtain ⟨q1, q2, q3⟩ := cap_of hq
    rw [hv, q3]
    show exc E (maxF n s t E) s E.length ≤ _
    rw [flow_net g F q1 q2]
    exact net_le F.rng _ (Nat.le_refl _)
theorem maxA_len0 {n s t : Int} {E : List Ed} (h : gchkS n s t E ≠ 0) : lenV (tyOf Try.prog 27) (maxA n s t E) = some (AV.i 0) := by
  rw [maxA_err h]; simp only [lenV, ty27, kOf, Option.map_some]; rfl
theorem maxB_len0 {n s t : Int} {E : List Ed} (h : gchkS n s t E ≠ 0) : lenV (tyOf Try.prog 28) (maxB n s t E) = some (AV.i 0) := by
  rw [maxB_err h]; simp only [lenV, ty28, kOf, Option.map_some]; rfl
end Go.Proofs.Ytdicnojnkbmdlaa
