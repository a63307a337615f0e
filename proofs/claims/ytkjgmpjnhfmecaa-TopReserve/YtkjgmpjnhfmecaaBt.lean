/-
  Bits of a number, one at a time; what the law of reserve days reckons. Plain lemmas.
-/
import Derived.Test.YtkjgmpjnhfmecaaNw
set_option linter.unusedVariables false
set_option linter.unusedSimpArgs false
namespace Go.Proofs.Ytkjgmpjnhfmecaa
open Go Go.Am
theorem and01 (s : Int) : ∃ x : Int, binV Try.prog .and 3 (AV.i s) (AV.i 1) = some (AV.i x) ∧ (x = 0 ∨ x = 1) := by
  refine ⟨_, rfl, ?_⟩
  show IntKind.i64.wrap _ = 0 ∨ IntKind.i64.wrap _ = 1
  have e : (BitVec.ofInt IntKind.i64.bits s &&& BitVec.ofInt IntKind.i64.bits 1).toNat < 2 := by
    rw [BitVec.toNat_and]
    have h1 : (BitVec.ofInt IntKind.i64.bits 1).toNat = 1 := by decide
    rw [h1, Nat.and_one_is_mod]
    omega
  obtain h | h : (BitVec.ofInt IntKind.i64.bits s &&& BitVec.ofInt IntKind.i64.bits 1).toNat = 0 ∨ (BitVec.ofInt IntKind.i64.bits s &&& BitVec.ofInt IntKind.i64.bits 1).toNat = 1 := by omega
  · rw [h]; left; decide
  · rw [h]; right; decide
theorem shr_ex (a b : Int) (h : 0 ≤ b) : ∃ x : Int, binV Try.prog .shr 3 (AV.i a) (AV.i b) = some (AV.i x) := by
  refine ⟨a.fdiv (2 ^ (min b.toNat IntKind.i64.bits)), ?_⟩
  simp only [binV, shiftBin]
  rw [if_neg (by omega)]
  rfl
theorem shl_ex (a : Int) : ∃ x : Int, binV Try.prog .shl 3 (AV.i a) (.v (.int .u64 8)) = some (AV.i x) := ⟨_, rfl⟩
theorem or_ex (a b : Int) : ∃ x : Int, binV Try.prog .or 3 (AV.i a) (AV.i b) = some (AV.i x) := ⟨_, rfl⟩
abbrev u8A (x : Int) : AV := .v (.int .u8 x)
theorem jb_step {J : List Jb} {first m : Int} {j : Jb} (h : ∀ i, i < J.length → first ≤ (gt J i).f ∧ (gt J i).f ≤ (gt J i).t ∧ (gt J i).t ≤ m) (hj : first ≤ j.f ∧ j.f ≤ j.t ∧ j.t ≤ m) : ∀ i, i < (J ++ [j]).length → first ≤ (gt (J ++ [j]) i).f ∧ (gt (J ++ [j]) i).f ≤ (gt (J ++ [j]) i).t ∧ (gt (J ++ [j]) i).t ≤ m := fun i hi => by
  rw [List.length_append, List.length_cons, List.length_nil] at hi
  rw [gt_snoc]
  by_cases h1 : i < J.length
  · rw [if_pos h1]; exact h i h1
  · rw [if_neg h1, if_pos (by omega)]; exact hj
theorem cap_step {D : List Int} {u : Nat} {x : Int} (h : ∀ i, i < u → gt D i = 0 ∨ gt D i = 1) (hu : u < D.length) (hx : x = 0 ∨ x = 1) : ∀ i, i < u + 1 → gt (D.set u x) i = 0 ∨ gt (D.set u x) i = 1 := fun i hi => by
  rw [gt_set _ _ _ _ hu]
  by_cases e : u = i
  · rw [if_pos e]; exact hx
  · rw [if_neg e]; exact h i (by omega)
/-- How often each day has been used by the first jobs. -/
def usd (D : List Int) (first : Int) (u : Nat) (c : Nat) : Int := ct (fun j => gt D j = first + c) u
theorem usd_step {D U : List Int} {first : Int} {u k : Nat} {n : Nat} (hU : U.length = n) (h : ∀ c, c < n → gt U c = usd D first u c) (hk : k < n) (hd : gt D u = first + k) : ∀ c, c < n → gt (U.set k (gt U k + 1)) c = usd D first (u + 1) c := fun c hc => by
  rw [gt_set _ _ _ _ (by omega), usd, ct]
  by_cases e : k = c
  · subst e
    rw [if_pos rfl, if_pos hd, h k hk]; rfl
  · rw [if_neg e, if_neg (by omega), h c hc, usd]; omega
theorem usd_0 {n : Nat} (D : List Int) (first : Int) : ∀ c, c < n → gt (List.replicate n (0 : Int)) c = usd D first 0 c := fun c hc => by
  rw [gt_eq _ _ (by simpa using hc), List.getElem_replicate]; rfl
theorem usd_box (D : List Int) (first : Int) (u c : Nat) : 0 ≤ usd D first u c ∧ usd D first u c ≤ u := ct_nn _ _
theorem iap25 (b o : Nat) (k : IntKind) (i : Int) (h0 : 0 ≤ i) (h1 : i < 4) : indexAddrV Try.prog 25 (.ptr b o) (.v (.int k i)) = some (.ptr b (o + i.toNat)) := by
  rw [ia_ptr _ 25 5 _ 4 tk25 ty5, if_pos ⟨h0, h1⟩]; rw [Nat.mul_one]
attribute [go_sem] iap25
theorem bld43 (a b : Int) : buildV Try.prog 43 [(0, AV.i a), (1, AV.i b)] = some (.agg [AV.i a, AV.i b]) := by kernel_rfl
theorem OutG.snocJ {lo b : Nat} {H : Heap} {J : List Jb} {j : Jb} (hb : lo ≤ b) (h : hget H b = some (flatJ J ++ jbC j)) : OutG 2 lo H (.own 2 b 0 (J.length + 1)) (J ++ [j]).length (flatJ (J ++ [j])) := by
  rw [flatJ_app, List.length_append]
  exact .inr ⟨by simp, b, rfl, hb, h⟩
theorem OutG.low {z lo n : Nat} {H : Heap} {o : AV} {fl : List AV} (h : OutG z lo H o n fl) : OutG z 0 H o n fl := by
  rcases h with h | ⟨h0, b, h1, h2, h3⟩
  · exact .inl h
  · exact .inr ⟨h0, b, h1, Nat.zero_le _, h3⟩
theorem OutG.lt {z lo n : Nat} {H : Heap} {o : AV} {fl : List AV} (h : OutG z lo H o n fl) {z' b n' : Nat} (ho : o = .own z' b 0 n') : b < H.length := by
  rcases h with ⟨_, h⟩ | ⟨_, b', h1, _, h3⟩
  · rw [h] at ho; cases ho
  · rw [h1] at ho; cases ho; exact hget_lt h3
theorem plan_case {r dd : AV} {Q : Prop} {V : Int → Int → Prop} (h : (r = .tup [dd, .agg [AV.i 0, AV.i 0], AV.i 0] ∧ Q) ∨ (∃ a b : Int, r = .tup [nilO, .agg [AV.i a, AV.i b], AV.i 13] ∧ V a b)) :
    ∃ (dz : AV) (a b e : Int), r = .tup [dz, .agg [AV.i a, AV.i b], AV.i e] ∧ ((e = 0 ∧ dz = dd ∧ Q) ∨ (e = 13 ∧ V a b)) := by
  rcases h with ⟨h1, h2⟩ | ⟨a, b, h1, h2⟩
  · exact ⟨_, _, _, _, h1, .inl ⟨rfl, rfl, h2⟩⟩
  · exact ⟨_, _, _, _, h1, .inr ⟨rfl, h2⟩⟩
end Go.Proofs.Ytkjgmpjnhfmecaa
