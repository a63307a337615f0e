/-
  Rows in memory of the call's own, of records of several kinds: what is laid, appended to and handed back. Plain lemmas.
-/
import Derived.Test.YtkjgmpjnhfmecaaQ
import Derived.Test.YtkjgmpjnhfmecaaPr
import Derived.KernelRfl
set_option linter.unusedVariables false
set_option linter.unusedSimpArgs false
namespace Go.Proofs.Ytkjgmpjnhfmecaa
open Go Go.Am
/-- A row of n elements of z cells each: nil, or in memory of the call's own from block lo on. -/
def OutG (z lo : Nat) (H : Heap) (o : AV) (n : Nat) (fl : List AV) : Prop := (n = 0 ∧ o = nilO) ∨ (0 < n ∧ ∃ b, o = .own z b 0 n ∧ lo ≤ b ∧ hget H b = some fl)
theorem OutG.mono {z lo n : Nat} {H H' : Heap} {o : AV} {fl : List AV} (h : OutG z lo H o n fl) (hh : ∀ b, lo ≤ b → ∀ k, hget H b = some k → hget H' b = some k) : OutG z lo H' o n fl := by
  rcases h with h | ⟨h0, b, h1, h2, h3⟩
  · exact .inl h
  · exact .inr ⟨h0, b, h1, h2, hh b h2 _ h3⟩
theorem OutG.new {z lo n : Nat} {H H' : Heap} {o : AV} {fl k : List AV} (h : OutG z lo H o n fl) (hn : MNew H H' k) : OutG z lo H' o n fl := h.mono fun b _ k hk => (hn.old b (hget_lt hk)).trans hk
theorem frz_ints (H : Heap) (b d : Nat) (l : List Int) : (l.map AV.i).map (frz H b (d + 1)) = l.map AV.i := by
  rw [List.map_map]; congr 1
theorem frz_rec {α : Type} {f : α → List AV} (hf : ∀ x, ∃ l : List Int, f x = l.map AV.i) (H : Heap) (b d : Nat) (l : List α) : ((l.map f).flatten).map (frz H b (d + 1)) = (l.map f).flatten := by
  rw [List.map_flatten, List.map_map]
  congr 1
  apply List.map_congr_left
  intro x _
  obtain ⟨l', h⟩ := hf x
  rw [Function.comp, h, frz_ints]
theorem frzF (H : Heap) (b d : Nat) (l : List Fx) : (flatF l).map (frz H b (d + 1)) = flatF l := frz_rec (f := fxC) (fun x => ⟨[x.r, x.h, x.a], rfl⟩) H b d l
theorem frzP (H : Heap) (b d : Nat) (l : List Pd) : (flatP l).map (frz H b (d + 1)) = flatP l := frz_rec (f := pdC) (fun x => ⟨[x.r, x.h, x.a, x.d, x.g], rfl⟩) H b d l
theorem frzJ (H : Heap) (b d : Nat) (l : List Jb) : (flatJ l).map (frz H b (d + 1)) = flatJ l := frz_rec (f := jbC) (fun x => ⟨[x.f, x.t], rfl⟩) H b d l
theorem frz_own' {H : Heap} {base d z b n : Nat} {k : Blk} (hb : ¬ b < base) (hk : hget H b = some k) : frz H base (d + 1) (.own z b 0 n) = .sl n (k.map (frz H base d)) := by
  simp [frz, hb, hk]
theorem rec_st {α : Type} {f : α → List AV} (hf : ∀ x, ∃ l : List Int, f x = l.map AV.i) (l : List α) : ((l.map f).flatten).all storable = true := by
  induction l with
  | nil => rfl
  | cons s l ih =>
    rw [List.map_cons, List.flatten_cons, List.all_append, ih, Bool.and_true]
    obtain ⟨l', h⟩ := hf s
    rw [h, List.all_map]
    simp [Function.comp_def, storable, Value.oneCell']
theorem stF (l : List Fx) : (flatF l).all storable = true := rec_st (f := fxC) (fun x => ⟨[x.r, x.h, x.a], rfl⟩) l
theorem stP (l : List Pd) : (flatP l).all storable = true := rec_st (f := pdC) (fun x => ⟨[x.r, x.h, x.a, x.d, x.g], rfl⟩) l
theorem stJ (l : List Jb) : (flatJ l).all storable = true := rec_st (f := jbC) (fun x => ⟨[x.f, x.t], rfl⟩) l
theorem flatF_app (l m : List Fx) : flatF (l ++ m) = flatF l ++ flatF m := by unfold flatF; rw [List.map_append, List.flatten_append]
theorem flatP_app (l m : List Pd) : flatP (l ++ m) = flatP l ++ flatP m := by unfold flatP; rw [List.map_append, List.flatten_append]
theorem flatJ_app (l m : List Jb) : flatJ (l ++ m) = flatJ l ++ flatJ m := by unfold flatJ; rw [List.map_append, List.flatten_append]
theorem flatJ0 (l : List Jb) (u : Nat) (h : u < l.length) : (flatJ l)[u * 2]? = some (AV.i (gt l u).f) := rec_get (f := jbC) (z := 2) (fun _ => rfl) l u 0 h (by omega)
theorem flatJ1 (l : List Jb) (u : Nat) (h : u < l.length) : (flatJ l)[u * 2 + 1]? = some (AV.i (gt l u).t) := rec_get (f := jbC) (z := 2) (fun _ => rfl) l u 1 h (by omega)
theorem flatP3 (l : List Pd) (u : Nat) (h : u < l.length) : (flatP l)[u * 5 + 3]? = some (AV.i (gt l u).d) := rec_get (f := pdC) (z := 5) (fun _ => rfl) l u 3 h (by omega)
theorem ints_at (l : List Int) (u : Nat) (h : u < l.length) : (l.map AV.i)[u]? = some (AV.i (gt l u)) := by
  rw [List.getElem?_map, List.getElem?_eq_getElem h, ← gt_eq _ _ h]; rfl
theorem ld_fx (H : Heap) (l : List Fx) (u : Nat) (h : u < l.length) : loadV Try.prog H 37 (.ele (flatF l) (u * 3)) = some (.agg (fxC (gt l u))) := by
  rw [load_ele _ H 37 _ ty37]
  unfold partL
  rw [if_pos rfl, if_pos (by rw [flatF_len]; show u * 3 + 3 ≤ _; omega)]
  exact congrArg (fun z => some (AV.agg z)) (rec_cut (f := fxC) (z := 3) (fun _ => rfl) l u h)
theorem ld_pd (H : Heap) (l : List Pd) (u : Nat) (h : u < l.length) : loadV Try.prog H 39 (.ele (flatP l) (u * 5)) = some (.agg (pdC (gt l u))) := by
  rw [load_ele _ H 39 _ ty39]
  unfold partL
  rw [if_pos rfl, if_pos (by rw [flatP_len]; show u * 5 + 5 ≤ _; omega)]
  exact congrArg (fun z => some (AV.agg z)) (rec_cut (f := pdC) (z := 5) (fun _ => rfl) l u h)
theorem ld_jb (H : Heap) (l : List Jb) (u : Nat) (h : u < l.length) : loadV Try.prog H 43 (.ele (flatJ l) (u * 2)) = some (.agg (jbC (gt l u))) := by
  rw [load_ele _ H 43 _ ty43]
  unfold partL
  rw [if_pos rfl, if_pos (by rw [flatJ_len]; show u * 2 + 2 ≤ _; omega)]
  exact congrArg (fun z => some (AV.agg z)) (rec_cut (f := jbC) (z := 2) (fun _ => rfl) l u h)
theorem lp_pd {H : Heap} {b : Nat} {l : List Pd} (hb : hget H b = some (flatP l)) (u : Nat) (h : u < l.length) : loadV Try.prog H 39 (.ptr b (u * 5)) = some (.agg (pdC (gt l u))) := by
  rw [load_ptr _ H 39 _ ty39, hb]
  show partL _ _ _ = _
  unfold partL
  rw [if_pos rfl, if_pos (by rw [flatP_len]; show u * 5 + 5 ≤ _; omega)]
  exact congrArg (fun z => some (AV.agg z)) (rec_cut (f := pdC) (z := 5) (fun _ => rfl) l u h)
theorem lp_jb {H : Heap} {b : Nat} {l : List Jb} (hb : hget H b = some (flatJ l)) (u : Nat) (h : u < l.length) : loadV Try.prog H 43 (.ptr b (u * 2)) = some (.agg (jbC (gt l u))) := by
  rw [load_ptr _ H 43 _ ty43, hb]
  show partL _ _ _ = _
  unfold partL
  rw [if_pos rfl, if_pos (by rw [flatJ_len]; show u * 2 + 2 ≤ _; omega)]
  exact congrArg (fun z => some (AV.agg z)) (rec_cut (f := jbC) (z := 2) (fun _ => rfl) l u h)
theorem setI (l : List Int) (o : Nat) (x : Int) : setL (l.map AV.i) o [AV.i x] = (l.set o x).map AV.i := by
  rw [setL_one]; exact (List.map_set ..).symm
/-- Data that is a row, or nil. -/
def AnyJ (x : AV) (J : List Jb) : Prop := x = jbsAV J ∨ (x = nilO ∧ J = [])
theorem AnyJ.sl {x : AV} {J : List Jb} (h : AnyJ x J) (h0 : 0 < J.length) : x = jbsAV J := by
  rcases h with h | ⟨_, h⟩
  · exact h
  · subst h; simp at h0
theorem AnyJ.len {x : AV} {J : List Jb} (h : AnyJ x J) : lenV (tyOf Try.prog 40) x = some (AV.i (J.length : Nat)) := by
  rcases h with rfl | ⟨rfl, rfl⟩
  · simp only [lenV, ty40, kOf, Option.map_some]
  · simp only [lenV, ty40, kOf, Option.map_some]; rfl
def AnyP (x : AV) (P : List Pd) : Prop := x = pdsAV P ∨ (x = nilO ∧ P = [])
theorem AnyP.sl {x : AV} {P : List Pd} (h : AnyP x P) (h0 : 0 < P.length) : x = pdsAV P := by
  rcases h with h | ⟨_, h⟩
  · exact h
  · subst h; simp at h0
theorem AnyP.len {x : AV} {P : List Pd} (h : AnyP x P) : lenV (tyOf Try.prog 33) x = some (AV.i (P.length : Nat)) := by
  rcases h with rfl | ⟨rfl, rfl⟩
  · simp only [lenV, ty33, kOf, Option.map_some]
  · simp only [lenV, ty33, kOf, Option.map_some]; rfl
theorem outP_any {lo : Nat} {H : Heap} {o : AV} {P : List Pd} (h : OutG 5 lo H o P.length (flatP P)) : ∃ x', frz H 0 8 o = x' ∧ AnyP x' P := by
  rcases h with ⟨h0, rfl⟩ | ⟨h0, b, rfl, h2, h3⟩
  · exact ⟨_, rfl, .inr ⟨rfl, List.eq_nil_of_length_eq_zero h0⟩⟩
  · exact ⟨_, rfl, .inl (by rw [frz_own' (by omega) h3, frzP])⟩
theorem outJ_any {lo : Nat} {H : Heap} {o : AV} {J : List Jb} (h : OutG 2 lo H o J.length (flatJ J)) : ∃ x', frz H 0 8 o = x' ∧ AnyJ x' J := by
  rcases h with ⟨h0, rfl⟩ | ⟨h0, b, rfl, h2, h3⟩
  · exact ⟨_, rfl, .inr ⟨rfl, List.eq_nil_of_length_eq_zero h0⟩⟩
  · exact ⟨_, rfl, .inl (by rw [frz_own' (by omega) h3, frzJ])⟩
theorem OutG.ownJ {lo : Nat} {H : Heap} {o : AV} {J : List Jb} (h : OutG 2 lo H o J.length (flatJ J)) (h0 : 0 < J.length) : ∃ b, o = .own 2 b 0 J.length ∧ lo ≤ b ∧ hget H b = some (flatJ J) := by
  rcases h with ⟨h1, _⟩ | ⟨_, h⟩
  · omega
  · exact h
theorem OutG.ownP {lo : Nat} {H : Heap} {o : AV} {P : List Pd} (h : OutG 5 lo H o P.length (flatP P)) (h0 : 0 < P.length) : ∃ b, o = .own 5 b 0 P.length ∧ lo ≤ b ∧ hget H b = some (flatP P) := by
  rcases h with ⟨h1, _⟩ | ⟨_, h⟩
  · omega
  · exact h
theorem OutG.len33 {z lo n : Nat} {H : Heap} {o : AV} {fl : List AV} (h : OutG z lo H o n fl) : lenV (tyOf Try.prog 33) o = some (AV.i (n : Nat)) := by
  rcases h with ⟨rfl, rfl⟩ | ⟨h0, b, rfl, _⟩
  · simp only [lenV, ty33, kOf, Option.map_some]
  · simp only [lenV, ty33, kOf, Option.map_some]
theorem OutG.len40 {z lo n : Nat} {H : Heap} {o : AV} {fl : List AV} (h : OutG z lo H o n fl) : lenV (tyOf Try.prog 40) o = some (AV.i (n : Nat)) := by
  rcases h with ⟨rfl, rfl⟩ | ⟨h0, b, rfl, _⟩
  · simp only [lenV, ty40, kOf, Option.map_some]
  · simp only [lenV, ty40, kOf, Option.map_some]
theorem app33 {lim lo n b' : Nat} {H : Heap} {o : AV} {fl c : List AV} (h : OutG 5 lo H o n fl) (hfl : fl.length = n * 5) (hc : hget H b' = some c) (hcl : c.length = 5) (hcs : c.all storable = true) (hl : lim ≤ lo) (hlo : lo ≤ H.length) (hn : n ≤ 100000) :
    ∃ b, lo ≤ b ∧ (b = H.length ∨ o = .own 5 b 0 n) ∧ ∃ H', appendV Try.prog lim H 33 o (.own 5 b' 0 1) = some (.own 5 H.length 0 (n + 1), H') ∧ MGrew H b H' (fl ++ c) := by
  rcases h with ⟨rfl, rfl⟩ | ⟨h0, b, rfl, h2, h3⟩
  · obtain rfl : fl = [] := List.eq_nil_of_length_eq_zero (by omega)
    refine ⟨H.length, hlo, .inl rfl, _, ?_, MGrew.ofNew _ (MNew.of _ _)⟩
    simp only [appendV, tk33, ty39, srcCells, hc]
    rw [if_pos (by omega)]
    simp only [List.length_cons, List.length_nil]
    rw [List.drop_zero, List.take_of_length_le (by omega), if_pos ⟨trivial, by decide, hcs⟩, if_pos ⟨by omega, by omega⟩]
    rfl
  · refine ⟨b, h2, .inr rfl, _, ?_, MGrew.of _ _ _⟩
    simp only [appendV, tk33, ty39, srcCells, h3, hc]
    rw [if_pos (by omega)]
    simp only [List.length_cons, List.length_nil]
    rw [List.drop_zero, List.take_of_length_le (show c.length ≤ 1 * 5 by omega), if_pos ⟨trivial, by decide, hcs⟩]
    rw [if_pos ⟨by omega, trivial, by omega, by omega, by omega⟩, List.drop_zero, List.take_of_length_le (by omega)]
theorem app40 {lim lo n b' : Nat} {H : Heap} {o : AV} {fl c : List AV} (h : OutG 2 lo H o n fl) (hfl : fl.length = n * 2) (hc : hget H b' = some c) (hcl : c.length = 2) (hcs : c.all storable = true) (hl : lim ≤ lo) (hlo : lo ≤ H.length) (hn : n ≤ 100000) :
    ∃ b, lo ≤ b ∧ (b = H.length ∨ o = .own 2 b 0 n) ∧ ∃ H', appendV Try.prog lim H 40 o (.own 2 b' 0 1) = some (.own 2 H.length 0 (n + 1), H') ∧ MGrew H b H' (fl ++ c) := by
  rcases h with ⟨rfl, rfl⟩ | ⟨h0, b, rfl, h2, h3⟩
  · obtain rfl : fl = [] := List.eq_nil_of_length_eq_zero (by omega)
    refine ⟨H.length, hlo, .inl rfl, _, ?_, MGrew.ofNew _ (MNew.of _ _)⟩
    simp only [appendV, tk40, ty43, srcCells, hc]
    rw [if_pos (by omega)]
    simp only [List.length_cons, List.length_nil]
    rw [List.drop_zero, List.take_of_length_le (by omega), if_pos ⟨trivial, by decide, hcs⟩, if_pos ⟨by omega, by omega⟩]
    rfl
  · refine ⟨b, h2, .inr rfl, _, ?_, MGrew.of _ _ _⟩
    simp only [appendV, tk40, ty43, srcCells, h3, hc]
    rw [if_pos (by omega)]
    simp only [List.length_cons, List.length_nil]
    rw [List.drop_zero, List.take_of_length_le (show c.length ≤ 1 * 2 by omega), if_pos ⟨trivial, by decide, hcs⟩]
    rw [if_pos ⟨by omega, trivial, by omega, by omega, by omega⟩, List.drop_zero, List.take_of_length_le (by omega)]
theorem app44 {lim lo n b' : Nat} {H : Heap} {o : AV} {fl c : List AV} (h : OutG 1 lo H o n fl) (hfl : fl.length = n * 1) (hc : hget H b' = some c) (hcl : c.length = 1) (hcs : c.all storable = true) (hl : lim ≤ lo) (hlo : lo ≤ H.length) (hn : n ≤ 100000) :
    ∃ b, lo ≤ b ∧ (b = H.length ∨ o = .own 1 b 0 n) ∧ ∃ H', appendV Try.prog lim H 44 o (.own 1 b' 0 1) = some (.own 1 H.length 0 (n + 1), H') ∧ MGrew H b H' (fl ++ c) := by
  rcases h with ⟨rfl, rfl⟩ | ⟨h0, b, rfl, h2, h3⟩
  · obtain rfl : fl = [] := List.eq_nil_of_length_eq_zero (by omega)
    refine ⟨H.length, hlo, .inl rfl, _, ?_, MGrew.ofNew _ (MNew.of _ _)⟩
    simp only [appendV, tk44, ty2, srcCells, hc]
    rw [if_pos (by omega)]
    simp only [List.length_cons, List.length_nil]
    rw [List.drop_zero, List.take_of_length_le (by omega), if_pos ⟨trivial, by decide, hcs⟩, if_pos ⟨by omega, by omega⟩]
    rfl
  · refine ⟨b, h2, .inr rfl, _, ?_, MGrew.of _ _ _⟩
    simp only [appendV, tk44, ty2, srcCells, h3, hc]
    rw [if_pos (by omega)]
    simp only [List.length_cons, List.length_nil]
    rw [List.drop_zero, List.take_of_length_le (show c.length ≤ 1 * 1 by omega), if_pos ⟨trivial, by decide, hcs⟩]
    rw [if_pos ⟨by omega, trivial, by omega, by omega, by omega⟩, List.drop_zero, List.take_of_length_le (by omega)]
theorem ms22 (lim : Nat) (H : Heap) (n : Nat) (a b : Operand) (ev : Operand → AV) (hn : n ≤ 100000) (h1 : ev a = AV.i (n : Nat)) (h2 : ev b = AV.i (n : Nat)) : effV Try.prog lim (.makeSlice 22 a b) ev H = some (.own 1 H.length 0 n, H ++ [some ((List.replicate n (0 : Int)).map AV.i)]) := by
  simp only [effV, tk22, ty3, h1, h2]
  rw [if_pos ⟨rfl, by decide, by omega, by omega, by omega, by omega⟩]
  rw [Int.toNat_natCast]
  have e : (List.replicate n (List.map AV.v [Value.int .i64 0])).flatten = (List.replicate n (0 : Int)).map AV.i := by
   clear hn h1 h2
   induction n with
   | zero => rfl
   | succ n ih => rw [List.replicate_succ, List.replicate_succ, List.flatten_cons, ih]; rfl
  rw [e]
theorem ms44 (lim : Nat) (H : Heap) (n : Nat) (a b : Operand) (ev : Operand → AV) (hn : n ≤ 100000) (h1 : ev a = AV.i (n : Nat)) (h2 : ev b = AV.i (n : Nat)) : effV Try.prog lim (.makeSlice 44 a b) ev H = some (.own 1 H.length 0 n, H ++ [some ((List.replicate n (0 : Int)).map AV.i)]) := by
  simp only [effV, tk44, ty2, h1, h2]
  rw [if_pos ⟨rfl, by decide, by omega, by omega, by omega, by omega⟩]
  rw [Int.toNat_natCast]
  have e : (List.replicate n (List.map AV.v [Value.int .i64 0])).flatten = (List.replicate n (0 : Int)).map AV.i := by
   clear hn h1 h2
   induction n with
   | zero => rfl
   | succ n ih => rw [List.replicate_succ, List.replicate_succ, List.flatten_cons, ih]; rfl
  rw [e]
theorem bs33 (lim : Nat) (H : Heap) (x : Operand) (ev : Operand → AV) (s : Pd) (h : ev x = .agg (pdC s)) : effV Try.prog lim (.buildSlice 33 1 #[(0, x)]) ev H = some (.own 5 H.length 0 1, H ++ [some (pdC s)]) := by
  simp only [effV, tk33, ty39]
  rw [if_pos ⟨rfl, by decide, by decide⟩]
  simp only [List.map_cons, List.map_nil, h]
  rfl
theorem bs40 (lim : Nat) (H : Heap) (x : Operand) (ev : Operand → AV) (s : Jb) (h : ev x = .agg (jbC s)) : effV Try.prog lim (.buildSlice 40 1 #[(0, x)]) ev H = some (.own 2 H.length 0 1, H ++ [some (jbC s)]) := by
  simp only [effV, tk40, ty43]
  rw [if_pos ⟨rfl, by decide, by decide⟩]
  simp only [List.map_cons, List.map_nil, h]
  rfl
theorem bs44 (lim : Nat) (H : Heap) (x : Operand) (ev : Operand → AV) (s : Int) (h : ev x = AV.i s) : effV Try.prog lim (.buildSlice 44 1 #[(0, x)]) ev H = some (.own 1 H.length 0 1, H ++ [some [AV.i s]]) := by
  simp only [effV, tk44, ty2]
  rw [if_pos ⟨rfl, by decide, by decide⟩]
  simp only [List.map_cons, List.map_nil, h]
  rfl
theorem pl_fx {k : TyK} {zz : Option (List Value)} (l : List Fx) (u : Nat) (h : u < l.length) : partL { size := 3, bytes := 24, agg := true, k := k, zero := zz } (flatF l) (u * 3) = some (.agg (fxC (gt l u))) := by
  unfold partL
  rw [if_pos rfl, if_pos (by rw [flatF_len]; show u * 3 + 3 ≤ _; omega)]
  exact congrArg (fun z => some (AV.agg z)) (rec_cut (f := fxC) (z := 3) (fun _ => rfl) l u h)
theorem pl_fx0 {k : TyK} {zz : Option (List Value)} (l : List Fx) (u : Nat) (h : u < l.length) : partL { size := 3, bytes := 24, agg := true, k := k, zero := zz } (flatF l) (0 + u * 3) = some (.agg (fxC (gt l u))) := by
  rw [Nat.zero_add]
  unfold partL
  rw [if_pos rfl, if_pos (by rw [flatF_len]; show u * 3 + 3 ≤ _; omega)]
  exact congrArg (fun z => some (AV.agg z)) (rec_cut (f := fxC) (z := 3) (fun _ => rfl) l u h)
theorem pl_pd {k : TyK} {zz : Option (List Value)} (l : List Pd) (u : Nat) (h : u < l.length) : partL { size := 5, bytes := 40, agg := true, k := k, zero := zz } (flatP l) (u * 5) = some (.agg (pdC (gt l u))) := by
  unfold partL
  rw [if_pos rfl, if_pos (by rw [flatP_len]; show u * 5 + 5 ≤ _; omega)]
  exact congrArg (fun z => some (AV.agg z)) (rec_cut (f := pdC) (z := 5) (fun _ => rfl) l u h)
theorem pl_pd0 {k : TyK} {zz : Option (List Value)} (l : List Pd) (u : Nat) (h : u < l.length) : partL { size := 5, bytes := 40, agg := true, k := k, zero := zz } (flatP l) (0 + u * 5) = some (.agg (pdC (gt l u))) := by
  rw [Nat.zero_add]
  unfold partL
  rw [if_pos rfl, if_pos (by rw [flatP_len]; show u * 5 + 5 ≤ _; omega)]
  exact congrArg (fun z => some (AV.agg z)) (rec_cut (f := pdC) (z := 5) (fun _ => rfl) l u h)
theorem pl_jb {k : TyK} {zz : Option (List Value)} (l : List Jb) (u : Nat) (h : u < l.length) : partL { size := 2, bytes := 16, agg := true, k := k, zero := zz } (flatJ l) (u * 2) = some (.agg (jbC (gt l u))) := by
  unfold partL
  rw [if_pos rfl, if_pos (by rw [flatJ_len]; show u * 2 + 2 ≤ _; omega)]
  exact congrArg (fun z => some (AV.agg z)) (rec_cut (f := jbC) (z := 2) (fun _ => rfl) l u h)
theorem pl_jb0 {k : TyK} {zz : Option (List Value)} (l : List Jb) (u : Nat) (h : u < l.length) : partL { size := 2, bytes := 16, agg := true, k := k, zero := zz } (flatJ l) (0 + u * 2) = some (.agg (jbC (gt l u))) := by
  rw [Nat.zero_add]
  unfold partL
  rw [if_pos rfl, if_pos (by rw [flatJ_len]; show u * 2 + 2 ≤ _; omega)]
  exact congrArg (fun z => some (AV.agg z)) (rec_cut (f := jbC) (z := 2) (fun _ => rfl) l u h)
attribute [go_sem] pl_fx pl_pd pl_jb pl_fx0 pl_pd0 pl_jb0
open Classical in
noncomputable def tkB (P : List Pd) (g d : Int) : Bool := decide (∃ i, i < P.length ∧ (gt P i).g = g ∧ (gt P i).d = d)
theorem tkB_T {P : List Pd} {g d : Int} {u : Nat} (hu : u < P.length) (h1 : (gt P u).g = g) (h2 : (gt P u).d = d) : tkB P g d = true := decide_eq_true ⟨u, hu, h1, h2⟩
theorem tkB_F {P : List Pd} {g d : Int} (h : ∀ i, i < P.length → ¬ ((gt P i).g = g ∧ (gt P i).d = d)) : tkB P g d = false := decide_eq_false fun ⟨i, h1, h2⟩ => h i h1 h2
abbrev inp (J : List Jb) (a b : Int) (j : Nat) : Prop := a ≤ (gt J j).f ∧ (gt J j).t ≤ b
theorem ct_T {p : Nat → Prop} [DecidablePred p] {n : Int} {u : Nat} (hn : n = ct p u) (h : p u) : n + 1 = ct p (u + 1) := by rw [ct, if_pos h, hn]
theorem ct_F {p : Nat → Prop} [DecidablePred p] {n : Int} {u : Nat} (hn : n = ct p u) (h : ¬ p u) : n = ct p (u + 1) := by rw [ct, if_neg h, hn]; omega
theorem rm_T {cs : List Int} {first a b n : Int} {u : Nat} (hn : n = rm cs first a b u) (h1 : a ≤ first + u) (h2 : first + u ≤ b) : n + gt cs u = rm cs first a b (u + 1) := by rw [rm, if_pos ⟨h1, h2⟩, hn]
theorem rm_F {cs : List Int} {first a b n : Int} {u : Nat} (hn : n = rm cs first a b u) (h : ¬ (a ≤ first + u ∧ first + u ≤ b)) : n = rm cs first a b (u + 1) := by rw [rm, if_neg h, hn]; omega
end Go.Proofs.Ytkjgmpjnhfmecaa
