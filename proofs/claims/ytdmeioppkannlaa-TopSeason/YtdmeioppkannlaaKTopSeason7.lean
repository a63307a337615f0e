/-
  Texts of TopSeason, part 8 of 16. TopSeason: chapters 49, 51 to 53 at this program. Turned by program from built texts (season.py).
-/
import Derived.Test.YtdmeioppkannlaaKTopSeason5
import Derived.Test.YtdmeioppkannlaaKTopSeason6
import Derived.KernelRfl
import Derived.Test.YtdmeioppkannlaaKTopSeason4
section
set_option linter.unusedVariables false
set_option linter.unusedSimpArgs false
namespace Go.Proofs.Ytdmeioppkannlaa
open Go Go.Am
abbrev z0 : St := ⟨0, 0, 0, 0, 0, 0, 0, 0, 0, 0⟩
theorem frz_Z (H : Heap) (b d : Nat) (l : List St) : (flatZ l).map (frz H b (d + 1)) = flatZ l := by
  induction l with
  | nil => rfl
  | cons s l ih => unfold flatZ at ih ⊢; rw [List.map_cons, List.flatten_cons, List.map_append, ih]; rfl
theorem frz_ownZ {H : Heap} {base d b n : Nat} {l : List St} (hb : ¬ b < base) (hk : hget H b = some (flatZ l)) (hn : n = l.length) : frz H base (d + 2) (.own 10 b 0 n) = stsAV l := by
  rw [frz_own _ _ _ _ _ _ _ hb, hk]
  show AV.sl n (((flatZ l).drop 0).map (frz H base (d + 1))) = _
  rw [List.drop_zero, frz_Z, hn]
theorem flatS_Z (ps : List SO) : flatS ps = flatZ (ps.map (·.1)) := by unfold flatS flatZ; rw [List.map_map]; rfl
theorem flatZ_app (l m : List St) : flatZ (l ++ m) = flatZ l ++ flatZ m := by simp [flatZ]
theorem flatZ_cons (z : St) (l : List St) : flatZ (z :: l) = stL z ++ flatZ l := rfl
theorem gz_get {l : List St} {h : Nat} (hh : h < l.length) : gz l h = l[h] := by simp [gz, List.getD, List.getElem?_eq_getElem hh]
theorem flatZ_cut {l : List St} {h : Nat} (hh : h < l.length) : flatZ l = flatZ (l.take h) ++ (stL (gz l h) ++ flatZ (l.drop (h + 1))) := by
  rw [← flatZ_cons, ← flatZ_app, gz_get hh, ← List.drop_eq_getElem_cons hh, List.take_append_drop]
theorem flatZ_put {l : List St} {h : Nat} (hh : h < l.length) (z : St) : flatZ (l.set h z) = flatZ (l.take h) ++ (stL z ++ flatZ (l.drop (h + 1))) := by
  rw [← flatZ_cons, ← flatZ_app, List.set_eq_take_append_cons_drop, if_pos hh]
theorem take_len {l : List St} {h : Nat} (hh : h < l.length) : (flatZ (l.take h)).length = h * 10 := by
  rw [flatZ_len, List.length_take, Nat.min_eq_left (by omega)]
theorem gz_set {l : List St} {h k : Nat} {z : St} (hh : h < l.length) : gz (l.set h z) k = if h = k then z else gz l k := by
  simp only [gz, List.getD, List.getElem?_set]
  by_cases e : h = k
  · subst e; simp [hh]
  · simp [e]
theorem zs_ext {l m : List St} (hl : l.length = m.length) (h : ∀ t, t < l.length → gz l t = gz m t) : l = m := by
  apply List.ext_getElem hl
  intro t h1 h2
  have := h t h1
  rwa [gz_get h1, gz_get h2] at this
theorem stds_get {n t : Nat} {l : List Pl} (h : t < n) : gz (stds n l) t = stdS l t := by
  rw [gz_get (by rw [stds_len]; exact h)]
  simp [stds]
theorem setz (l : List St) (i : Nat) (t : Int) (h : i < l.length) : setL (flatZ l) (i * 10) [AV.i t] = flatZ (l.set i { gz l i with tm := t }) := by
  rw [flatZ_put h, setL_one]
  conv => lhs; rw [flatZ_cut h, ← take_len h]
  rw [sAr0]
  rfl
theorem ms27 (lim : Nat) (H : Heap) (n : Int) (x y : Operand) (ev : Operand → AV) (h0 : 0 ≤ n) (h1 : n ≤ 1000000) (hx : ev x = AV.i n) (hy : ev y = AV.i n) :
    effV Try.prog lim (.makeSlice 47 x y) ev H = some (.own 10 H.length 0 n.toNat, H ++ [some (flatZ (List.replicate n.toNat z0))]) := by
  simp only [effV, tk47, ty51, hx, hy]
  rw [if_pos ⟨rfl, by decide, h0, Int.le_refl _, by omega, by omega⟩]
  have : ∀ k : Nat, (List.replicate k ([.int .i64 0, .int .i64 0, .int .i64 0, .int .i64 0, .int .i64 0, .int .i64 0, .int .i64 0, .int .i64 0, .int .i64 0, .int .i64 0].map AV.v)).flatten = flatZ (List.replicate k z0) := by
    intro k
    unfold flatZ
    rw [List.map_replicate]
    rfl
  rw [this]
def toO (l : List St) : List SO := l.filterMap fun z => if h : okS z then some ⟨z, h⟩ else none
theorem toO_val : ∀ (l : List St), (∀ z ∈ l, okS z) → (toO l).map (·.1) = l
  | [], _ => rfl
  | z :: l, h => by
    have ih := toO_val l fun y hy => h y (List.mem_cons_of_mem _ hy)
    unfold toO at ih ⊢
    rw [List.filterMap_cons, dif_pos (h z List.mem_cons_self)]
    simp only [List.map_cons]
    rw [ih]
/-- The table. -/
def tbS (l : List St) : List St := (sortL (toO l)).map (·.1)
def tabS (n : Int) (l : List Pl) : List St := if chS n l = 0 then tbS (stds n.toNat l) else []
theorem tbS_perm {l : List St} (h : ∀ z ∈ l, okS z) : (tbS l).Perm l := by
  have := (sortL_perm (toO l)).map (·.1)
  rwa [toO_val l h] at this
theorem tbS_len {l : List St} (h : ∀ z ∈ l, okS z) : (tbS l).length = l.length := (tbS_perm h).length_eq
theorem stds_ok {n : Int} {l : List Pl} (hl : ∀ i, i < l.length → plE n (gp l i) = 0) (h4 : l.length ≤ 400) (N u : Nat) (hu : u ≤ l.length) : ∀ z ∈ stds N (l.take u), okS z := by
  intro z hz
  obtain ⟨t, ht, rfl⟩ := List.mem_map.mp hz
  exact stI_ok (stdS_inv hl t u hu) (by omega)
theorem stds_tm {n : Int} {l : List Pl} (hl : ∀ i, i < l.length → plE n (gp l i) = 0) (N u : Nat) (hu : u ≤ l.length) : (stds N (l.take u)).map (·.tm) = (List.range N).map fun t : Nat => (t : Int) := by
  unfold stds
  rw [List.map_map]
  apply List.map_congr_left
  intro t _
  exact (stdS_inv hl t u hu).1
theorem range_nodup (N : Nat) : ((List.range N).map fun t : Nat => (t : Int)).Nodup := List.pairwise_map.mpr (List.pairwise_lt_range.imp fun h => by omega)
theorem stds_nodup {n : Int} {l : List Pl} (hl : ∀ i, i < l.length → plE n (gp l i) = 0) (h4 : l.length ≤ 400) (N u : Nat) (hu : u ≤ l.length) : ((toO (stds N (l.take u))).map (·.1.tm)).Nodup := by
  have e : (toO (stds N (l.take u))).map (·.1.tm) = (stds N (l.take u)).map (·.tm) := by
    conv => rhs; rw [← toO_val _ (stds_ok hl h4 N u hu), List.map_map]
    rfl
  rw [e, stds_tm hl N u hu]
  exact range_nodup N
theorem toO_len {l : List St} (h : ∀ z ∈ l, okS z) : (toO l).length = l.length := by
  have := congrArg List.length (toO_val l h)
  rwa [List.length_map] at this
theorem sort_eff {lim b n : Nat} {H : Heap} {zs : List St} (hb : hget H b = some (flatZ zs)) (hlim : lim ≤ b) (h1 : 1 ≤ n) (hn : zs.length = n) (h2 : n ≤ 1000) (hok : ∀ z ∈ zs, okS z) (hd : ((toO zs).map (·.1.tm)).Nodup) : sortV lim [.own 10 b 0 n, .clo 22 []] H = some (.tup [], hset H b (some (flatZ (tbS zs)))) := by
  have e : flatZ zs = flatS (toO zs) := by rw [flatS_Z, toO_val zs hok]
  simp only [sortV, hb, e, rdS_flat]
  rw [if_pos ⟨hlim, h1, (toO_len hok).trans hn, h2, hd⟩, flatS_Z]
  rfl
theorem stds_step {n : Int} {l : List Pl} {u N : Nat} (hN : n = N) (hu : u < l.length) (hz : plE n (gp l u) = 0) :
    ((stds N (l.take u)).set (gp l u).ho.toNat (cnS (gz (stds N (l.take u)) (gp l u).ho.toNat) (gp l u).wi (gp l u).hr (gp l u).hb (gp l u).ar (gp l u).ab 1)).set (gp l u).aw.toNat (cnS (gz (stds N (l.take u)) (gp l u).aw.toNat) (gp l u).wi (gp l u).ar (gp l u).ab (gp l u).hr (gp l u).hb 2) = stds N (l.take (u + 1)) := by
  have hp := plE_z hz
  apply zs_ext (by simp [stds_len])
  intro t ht
  have ht' : t < N := by simpa [stds_len] using ht
  rw [gz_set (by rw [List.length_set, stds_len]; omega), gz_set (by rw [stds_len]; omega), stds_get ht', stds_get ht', stds_get (by omega), stds_get (by omega), stdS_snoc l u hu]
  unfold upS
  by_cases h1 : (gp l u).aw = t
  · rw [if_pos (by omega), if_pos h1, show (((gp l u).aw.toNat : Nat) : Int) = t by omega]
  · rw [if_neg (by omega), if_neg h1]
    by_cases h2 : (gp l u).ho = t
    · rw [if_pos (by omega), if_pos h2, show (((gp l u).ho.toNat : Nat) : Int) = t by omega]
    · rw [if_neg (by omega), if_neg h2]
theorem stds_nil (N : Nat) (l : List Pl) {zs : List St} (hl : zs.length = N) (h : ∀ t, t < N → gz zs t = ⟨t, 0, 0, 0, 0, 0, 0, 0, 0, 0⟩) : zs = stds N (l.take 0) := by
  apply zs_ext (by rw [hl, stds_len])
  intro t ht
  rw [h t (by omega), stds_get (by omega), List.take_zero]
  rfl
theorem chS_z {n : Int} {l : List Pl} (h : chS n l = 0) : (2 ≤ n ∧ n ≤ 20) ∧ l.length ≤ 400 ∧ ∀ i, i < l.length → plE n (gp l i) = 0 := by
  unfold chS at h
  split at h
  · cases h
  split at h
  · cases h
  exact ⟨by omega, by omega, fun i hi => ferr_all h i hi⟩
theorem ini_step {zs : List St} {N i : Nat} (hz : zs.length = N) (hi : i < N) (hg : ∀ t, t < N → gz zs t = if t < i then ⟨t, 0, 0, 0, 0, 0, 0, 0, 0, 0⟩ else z0) : ∀ t, t < N → gz (zs.set i { gz zs i with tm := (i : Int) }) t = if t < i + 1 then ⟨t, 0, 0, 0, 0, 0, 0, 0, 0, 0⟩ else z0 := by
  intro t ht
  rw [gz_set (by omega)]
  by_cases e : i = t
  · subst e
    rw [if_pos rfl, hg i hi, if_neg (by omega), if_pos (by omega)]
  · rw [if_neg e, hg t ht]
    by_cases h : t < i
    · rw [if_pos h, if_pos (by omega)]
    · rw [if_neg h, if_neg (by omega)]
theorem ini_zero (N : Nat) : ∀ t, t < N → gz (List.replicate N z0) t = if t < 0 then ⟨t, 0, 0, 0, 0, 0, 0, 0, 0, 0⟩ else z0 := by
  intro t ht
  rw [gz_get (by simpa using ht), if_neg (by omega)]
  simp
theorem tab_ok {n : Int} {l : List Pl} (h : chS n l = 0) : (∀ z ∈ stds n.toNat l, okS z) ∧ ((toO (stds n.toNat l)).map (·.1.tm)).Nodup := by
  obtain ⟨_, h4, hpl⟩ := chS_z h
  have a := stds_ok hpl h4 n.toNat l.length (Nat.le_refl _)
  have b := stds_nodup hpl h4 n.toNat l.length (Nat.le_refl _)
  rw [List.take_length] at a b
  exact ⟨a, b⟩
theorem tab_len {n : Int} {l : List Pl} (h : chS n l = 0) : n.toNat = (tbS (stds n.toNat l)).length := by rw [tbS_len (tab_ok h).1, stds_len]
theorem tabS_y {n : Int} {l : List Pl} (h : chS n l = 0) : tabS n l = tbS (stds n.toNat l) := if_pos h
theorem tabS_n {n : Int} {l : List Pl} (h : ¬ chS n l = 0) : tabS n l = [] := if_neg h
abbrev nilZ : AV := .v (.slice none 0 0)
def tbAV (l : List St) : AV := if l = [] then nilZ else stsAV l
theorem tbAV_nil : tbAV [] = nilZ := if_pos rfl
theorem tbAV_ne {l : List St} (h : l ≠ []) : tbAV l = stsAV l := if_neg h
theorem tab_ne {n : Int} {l : List Pl} (h : chS n l = 0) : tbS (stds n.toNat l) ≠ [] := fun e => by
  have h1 := tab_len h
  have h2 := (chS_z h).1
  rw [e] at h1
  simp at h1
  omega
end Go.Proofs.Ytdmeioppkannlaa
end
section
set_option linter.unusedVariables false
set_option linter.unusedSimpArgs false
namespace Go.Proofs.Ytdmeioppkannlaa
open Go Go.Am
/-! ### Standings of results in another order -/
def adS (a b : St) : St := ⟨a.tm, a.pl + b.pl, a.wn + b.wn, a.sh + b.sh, a.ls + b.ls, a.pt + b.pt, a.rf + b.rf, a.bf + b.bf, a.ra + b.ra, a.ba + b.ba⟩
def dlS (t : Int) (p : Pl) : St := if p.aw = t then cnS z0 p.wi p.ar p.ab p.hr p.hb 2 else if p.ho = t then cnS z0 p.wi p.hr p.hb p.ar p.ab 1 else z0
theorem ferr_zero {f : Nat → Int} : ∀ n, (∀ i, i < n → f i = 0) → ferr f n = 0
  | 0, _ => rfl
  | n + 1, h => ferr_ok (ferr_zero n fun i hi => h i (by omega)) (h n (by omega))
theorem gp_get {l : List Pl} {i : Nat} (h : i < l.length) : gp l i = l[i] := by simp [gp, List.getD, List.getElem?_eq_getElem h]
theorem chS_all {n : Int} {l : List Pl} : chS n l = 0 ↔ (2 ≤ n ∧ n ≤ 20) ∧ l.length ≤ 400 ∧ ∀ p ∈ l, plE n p = 0 := by
  constructor
  · intro h
    obtain ⟨h1, h2, h3⟩ := chS_z h
    refine ⟨h1, h2, fun p hp => ?_⟩
    obtain ⟨i, hi, rfl⟩ := List.getElem_of_mem hp
    rw [← gp_get hi]
    exact h3 i hi
  · rintro ⟨h1, h2, h3⟩
    exact chS_d (by omega) (by omega) (ferr_zero _ fun i hi => by rw [gp_get hi]; exact h3 _ (List.getElem_mem hi))
def rtP (l : List Pl) (k i : Nat) : List Pl := (List.range i).map fun j => gp l ((j + k) % l.length)
def OutL (base : Nat) (H : Heap) (o : AV) (ls : List Pl) (n : Nat) : Prop := (n = 0 ∧ ls = [] ∧ o = nilZ) ∨ ∃ b, o = .own 8 b 0 n ∧ base ≤ b ∧ hget H b = some (flatP ls) ∧ n = ls.length ∧ 0 < n
theorem OutL.keep {base n : Nat} {H H' : Heap} {o : AV} {ls : List Pl} (h : OutL base H o ls n) (hk : ∀ b k, hget H b = some k → hget H' b = hget H b) : OutL base H' o ls n := by
  rcases h with h | ⟨b, h1, h2, h3, h4⟩
  · exact .inl h
  · exact .inr ⟨b, h1, h2, (hk b _ h3).trans h3, h4⟩
theorem OutL.new {base n : Nat} {H H' : Heap} {o : AV} {ls : List Pl} {k : Blk} (h : OutL base H o ls n) (m : MNew H H' k) : OutL base H' o ls n := h.keep fun b c hb => m.old b (hget_lt hb)
theorem OutL.len {base n : Nat} {H : Heap} {o : AV} {ls : List Pl} (h : OutL base H o ls n) : lenV (tyOf Try.prog 32) o = some (AV.i (n : Int)) := by
  rcases h with ⟨h1, _, h2⟩ | ⟨b, h1, _⟩
  · subst h1 h2; rw [lnn32] <;> rfl
  · subst h1; rw [lno32]
theorem OutL.own {base n : Nat} {H : Heap} {o : AV} {ls : List Pl} (h : OutL base H o ls n) (hz : 0 < n) : ∃ b, o = .own 8 b 0 n ∧ base ≤ b ∧ hget H b = some (flatP ls) ∧ n = ls.length := by
  rcases h with h | ⟨b, h1, h2, h3, h4, h5⟩
  · omega
  · exact ⟨b, h1, h2, h3, h4⟩
theorem flatP_app (l m : List Pl) : flatP (l ++ m) = flatP l ++ flatP m := by simp [flatP]
theorem bs32o {lim : Nat} {H : Heap} {a : Operand} {ev : Operand → AV} {p : Pl} (ha : ev a = .agg (plC p)) : effV Try.prog lim (.buildSlice 32 1 #[(0, a)]) ev H = some (.own 8 H.length 0 1, H ++ [some (plC p)]) := by
  simp only [effV, tk32, ty46]
  rw [if_pos ⟨rfl, by decide, by decide⟩]
  simp only [List.map_cons, List.map_nil, ha]
  rfl
theorem OutL.grown {base n : Nat} {H : Heap} {ls : List Pl} {b : Nat} (h : hget H b = some (flatP ls)) (hb : base ≤ b) (hn : n = ls.length) (h0 : 0 < n) : OutL base H (.own 8 b 0 n) ls n := .inr ⟨b, rfl, hb, h, hn, h0⟩
/-- Results that are handed on: none, or in memory that the call has made. -/
def SrcP (H : Heap) (x : AV) (l : List Pl) : Prop := (l = [] ∧ x = nilZ) ∨ ∃ b, x = .own 8 b 0 l.length ∧ hget H b = some (flatP l)
theorem OutL.src {base n : Nat} {H : Heap} {o : AV} {ls : List Pl} (h : OutL base H o ls n) : SrcP H o ls := by
  rcases h with ⟨_, h1, h2⟩ | ⟨b, h1, _, h3, h4, _⟩
  · exact .inl ⟨h1, h2⟩
  · exact .inr ⟨b, by rw [h1, h4], h3⟩
theorem SrcP.len {H : Heap} {x : AV} {l : List Pl} (h : SrcP H x l) : lenV (tyOf Try.prog 32) x = some (AV.i (l.length : Int)) := by
  rcases h with ⟨h1, h2⟩ | ⟨b, h1, _⟩
  · subst h1 h2; rw [lnn32]; rfl
  · subst h1; rw [lno32]
theorem SrcP.own {H : Heap} {x : AV} {l : List Pl} {i : Nat} (h : SrcP H x l) (hi : i < l.length) : ∃ b, x = .own 8 b 0 l.length ∧ hget H b = some (flatP l) := by
  rcases h with ⟨h1, _⟩ | h
  · subst h1; simp at hi
  · exact h
theorem SrcP.keep {H H' : Heap} {x : AV} {l : List Pl} (h : SrcP H x l) (hk : ∀ b, b < H.length → hget H' b = hget H b) : SrcP H' x l := by
  rcases h with h | ⟨b, h1, h2⟩
  · exact .inl h
  · exact .inr ⟨b, h1, (hk b (hget_lt h2)).trans h2⟩
theorem cv5_3 (n : Int) (h : 0 ≤ n ∧ n ≤ 255) : convV Try.prog 5 3 (.v (.int .u8 n)) = some (AV.i n) := by
  simp only [convV, ty5, tk3]
  rw [wrap_i64 n (by omega)]
theorem keep_app {H X : Heap} : ∀ b, b < H.length → hget (H ++ X) b = hget H b := fun b hb => hget_low _ _ _ hb
attribute [go_sem] cv5_3
end Go.Proofs.Ytdmeioppkannlaa
end
section
set_option linter.unusedSimpArgs false
set_option linter.unusedVariables false
namespace Go.Proofs.Ytdmeioppkannlaa
open Go Go.Am
noncomputable def fns : FuncId → Option FnA
  | 3 => some fa3
  | 4 => some fa4
  | 5 => some fa5
  | 6 => some fa6
  | 7 => some fa7
  | 8 => some fa8
  | 9 => some fa9
  | 10 => some fa10
  | 11 => some fa11
  | 13 => some fa13
  | 14 => some fa14
  | 15 => some fa15
  | 16 => some fa16
  | 17 => some fa17
  | 18 => some fa18
  | 19 => some fa19
  | 20 => some fa20
  | 22 => some fa22
  | 23 => some fa23
  | 24 => some fa24
  | 25 => some fa25
  | 26 => some fa26
  | 27 => some fa27
  | 28 => some fa28
  | 29 => some fa29
  | 30 => some fa30
  | 31 => some fa31
  | 34 => some fa34
  | 35 => some fa35
  | 36 => some fa36
  | 37 => some fa37
  | 38 => some fa38
  | 49 => some fa49
  | 50 => some fa50
  | 51 => some fa51
  | 57 => some fa57
  | 59 => some fa59
  | _ => none

noncomputable def sig : Sig := { P := Try.prog, fns := fns, prim := primF, own := fun f => f == 11 || f == 20 || f == 21, fz := fun f => f == 4 || f == 8 || f == 13 || f == 14 || f == 18, eff := effF }

theorem fnOK3 : FnOK Try.prog sig.pure 3 fa3 := ⟨Try.func3, by kernel_rfl, fun c hc => by cases hc; kernel_rfl⟩
theorem fnOK4 : FnOK Try.prog sig.pure 4 fa4 := ⟨Try.func4, by kernel_rfl, fun c hc => by cases hc; kernel_rfl⟩
theorem fnOK5 : FnOK Try.prog sig.pure 5 fa5 := ⟨Try.func5, by kernel_rfl, fun c hc => by cases hc; kernel_rfl⟩
theorem fnOK6 : FnOK Try.prog sig.pure 6 fa6 := ⟨Try.func6, by kernel_rfl, fun c hc => by cases hc; kernel_rfl⟩
theorem fnOK7 : FnOK Try.prog sig.pure 7 fa7 := ⟨Try.func7, by kernel_rfl, fun c hc => by cases hc; kernel_rfl⟩
theorem fnOK8 : FnOK Try.prog sig.pure 8 fa8 := ⟨Try.func8, by kernel_rfl, fun c hc => by cases hc; kernel_rfl⟩
theorem fnOK9 : FnOK Try.prog sig.pure 9 fa9 := ⟨Try.func9, by kernel_rfl, fun c hc => by cases hc; kernel_rfl⟩
theorem fnOK10 : FnOK Try.prog sig.pure 10 fa10 := ⟨Try.func10, by kernel_rfl, fun c hc => by cases hc; kernel_rfl⟩
theorem fnOK11 : FnOK Try.prog sig.pure 11 fa11 := ⟨Try.func11, by kernel_rfl, fun c hc => by cases hc; kernel_rfl⟩
theorem fnOK13 : FnOK Try.prog sig.pure 13 fa13 := ⟨Try.func13, by kernel_rfl, fun c hc => by cases hc; kernel_rfl⟩
theorem fnOK14 : FnOK Try.prog sig.pure 14 fa14 := ⟨Try.func14, by kernel_rfl, fun c hc => by cases hc; kernel_rfl⟩
theorem fnOK15 : FnOK Try.prog sig.pure 15 fa15 := ⟨Try.func15, by kernel_rfl, fun c hc => by cases hc; kernel_rfl⟩
theorem fnOK16 : FnOK Try.prog sig.pure 16 fa16 := ⟨Try.func16, by kernel_rfl, fun c hc => by cases hc; kernel_rfl⟩
theorem fnOK17 : FnOK Try.prog sig.pure 17 fa17 := ⟨Try.func17, by kernel_rfl, fun c hc => by cases hc; kernel_rfl⟩
theorem fnOK18 : FnOK Try.prog sig.pure 18 fa18 := ⟨Try.func18, by kernel_rfl, fun c hc => by cases hc; kernel_rfl⟩
theorem fnOK19 : FnOK Try.prog sig.pure 19 fa19 := ⟨Try.func19, by kernel_rfl, fun c hc => by cases hc; kernel_rfl⟩
theorem fnOK20 : FnOK Try.prog sig.pure 20 fa20 := ⟨Try.func20, by kernel_rfl, fun c hc => by cases hc; kernel_rfl⟩
theorem fnOK22 : FnOK Try.prog sig.pure 22 fa22 := ⟨Try.func22, by kernel_rfl, fun c hc => by cases hc; kernel_rfl⟩
theorem fnOK23 : FnOK Try.prog sig.pure 23 fa23 := ⟨Try.func23, by kernel_rfl, fun c hc => by cases hc; kernel_rfl⟩
theorem fnOK24 : FnOK Try.prog sig.pure 24 fa24 := ⟨Try.func24, by kernel_rfl, fun c hc => by cases hc; kernel_rfl⟩
theorem fnOK25 : FnOK Try.prog sig.pure 25 fa25 := ⟨Try.func25, by kernel_rfl, fun c hc => by cases hc; kernel_rfl⟩
theorem fnOK26 : FnOK Try.prog sig.pure 26 fa26 := ⟨Try.func26, by kernel_rfl, fun c hc => by cases hc; kernel_rfl⟩
theorem fnOK27 : FnOK Try.prog sig.pure 27 fa27 := ⟨Try.func27, by kernel_rfl, fun c hc => by cases hc; kernel_rfl⟩
theorem fnOK28 : FnOK Try.prog sig.pure 28 fa28 := ⟨Try.func28, by kernel_rfl, fun c hc => by cases hc; kernel_rfl⟩
theorem fnOK29 : FnOK Try.prog sig.pure 29 fa29 := ⟨Try.func29, by kernel_rfl, fun c hc => by cases hc; kernel_rfl⟩
theorem fnOK30 : FnOK Try.prog sig.pure 30 fa30 := ⟨Try.func30, by kernel_rfl, fun c hc => by cases hc; kernel_rfl⟩
theorem fnOK31 : FnOK Try.prog sig.pure 31 fa31 := ⟨Try.func31, by kernel_rfl, fun c hc => by cases hc; kernel_rfl⟩
theorem fnOK34 : FnOK Try.prog sig.pure 34 fa34 := ⟨Try.func34, by kernel_rfl, fun c hc => by cases hc; kernel_rfl⟩
theorem fnOK35 : FnOK Try.prog sig.pure 35 fa35 := ⟨Try.func35, by kernel_rfl, fun c hc => by cases hc; kernel_rfl⟩
theorem fnOK36 : FnOK Try.prog sig.pure 36 fa36 := ⟨Try.func36, by kernel_rfl, fun c hc => by cases hc; kernel_rfl⟩
theorem fnOK37 : FnOK Try.prog sig.pure 37 fa37 := ⟨Try.func37, by kernel_rfl, fun c hc => by cases hc; kernel_rfl⟩
theorem fnOK38 : FnOK Try.prog sig.pure 38 fa38 := ⟨Try.func38, by kernel_rfl, fun c hc => by cases hc; kernel_rfl⟩
theorem fnOK49 : FnOK Try.prog sig.pure 49 fa49 := ⟨Try.func49, by kernel_rfl, fun c hc => by cases hc; kernel_rfl⟩
theorem fnOK50 : FnOK Try.prog sig.pure 50 fa50 := ⟨Try.func50, by kernel_rfl, fun c hc => by cases hc; kernel_rfl⟩
theorem fnOK51 : FnOK Try.prog sig.pure 51 fa51 := ⟨Try.func51, by kernel_rfl, fun c hc => by cases hc; kernel_rfl⟩
theorem fnOK57 : FnOK Try.prog sig.pure 57 fa57 := ⟨Try.func57, by kernel_rfl, fun c hc => by cases hc; kernel_rfl⟩
theorem fnOK59 : FnOK Try.prog sig.pure 59 fa59 := ⟨Try.func59, by kernel_rfl, fun c hc => by cases hc; kernel_rfl⟩

theorem fns_ok : ∀ f fa, fns f = some fa → FnOK Try.prog sig.pure f fa := by
  intro f fa h
  unfold fns at h
  split at h <;> first | (cases h; done) | skip
  · cases h; exact fnOK3
  · cases h; exact fnOK4
  · cases h; exact fnOK5
  · cases h; exact fnOK6
  · cases h; exact fnOK7
  · cases h; exact fnOK8
  · cases h; exact fnOK9
  · cases h; exact fnOK10
  · cases h; exact fnOK11
  · cases h; exact fnOK13
  · cases h; exact fnOK14
  · cases h; exact fnOK15
  · cases h; exact fnOK16
  · cases h; exact fnOK17
  · cases h; exact fnOK18
  · cases h; exact fnOK19
  · cases h; exact fnOK20
  · cases h; exact fnOK22
  · cases h; exact fnOK23
  · cases h; exact fnOK24
  · cases h; exact fnOK25
  · cases h; exact fnOK26
  · cases h; exact fnOK27
  · cases h; exact fnOK28
  · cases h; exact fnOK29
  · cases h; exact fnOK30
  · cases h; exact fnOK31
  · cases h; exact fnOK34
  · cases h; exact fnOK35
  · cases h; exact fnOK36
  · cases h; exact fnOK37
  · cases h; exact fnOK38
  · cases h; exact fnOK49
  · cases h; exact fnOK50
  · cases h; exact fnOK51
  · cases h; exact fnOK57
  · cases h; exact fnOK59

theorem prim_own : ∀ f p, primF f = some p → sig.own f = false := by
  intro f p h
  unfold primF at h
  split at h <;> first | rfl | cases h
theorem eff_own : ∀ f p, effF f = some p → sig.own f = true := by
  intro f p h
  unfold effF at h
  split at h <;> first | rfl | cases h
theorem sig_ok : SigOK sig := ⟨by kernel_rfl, fns_ok, fun f h => by
  have h := (show (f == 4 || f == 8 || f == 13 || f == 14 || f == 18) = true from h)
  simp only [Bool.or_eq_true, beq_iff_eq] at h
  rcases h with ((((rfl | rfl) | rfl) | rfl) | rfl) <;> rfl, fun f p h => ⟨prim_own f p h, prim_ok f p h⟩, fun f p h => ⟨eff_own f p h, eff_ok f p h⟩⟩
theorem sigP : sig.P = Try.prog := rfl
attribute [go_sem] sigP
end Go.Proofs.Ytdmeioppkannlaa
end
section
set_option linter.unusedVariables false
set_option linter.unusedSimpArgs false
namespace Go.Proofs.Ytdmeioppkannlaa
open Go Go.Am
/-- The points of the teams, by the first rows of a table. -/
def ptsN (n : Nat) (zs : List St) : Nat → List Int
  | 0 => List.replicate n 0
  | u + 1 => (ptsN n zs u).set (gz zs u).tm.toNat (gz zs u).pt
theorem pts_len (n : Nat) (zs : List St) : ∀ u, (ptsN n zs u).length = n
  | 0 => by rw [ptsN, List.length_replicate]
  | u + 1 => by rw [ptsN, List.length_set, pts_len n zs u]
def ofP (n : Int) (l : List Pl) : List Int := ptsN n.toNat (tabS n l) (tabS n l).length
def ofE (n : Int) (l : List Pl) (L : List Pr) : Int := if chS n l ≠ 0 then chS n l else rchkS (ofP n l) L
def ofA (n : Int) (l : List Pl) (L : List Pr) : AV := if ofE n l L ≠ 0 then .agg [nilP, nilP] else .agg (raceC (ofP n l) L)
theorem of_1 {n : Int} {l : List Pl} (L : List Pr) (h : ¬ chS n l = 0) : ofE n l L = chS n l ∧ ofA n l L = .agg [nilP, nilP] := by
  have e : ofE n l L = chS n l := if_pos h
  exact ⟨e, by rw [ofA, e, if_pos h]⟩
theorem of_2 {n : Int} {l : List Pl} {L : List Pr} {zs : List St} (hz : zs = tabS n l) (h : chS n l = 0) (h2 : ¬ rchkS (ptsN n.toNat zs zs.length) L = 0) : ofE n l L = rchkS (ptsN n.toNat zs zs.length) L ∧ ofA n l L = .agg [nilP, nilP] := by
  subst hz
  have e : ofE n l L = rchkS (ptsN n.toNat (tabS n l) (tabS n l).length) L := if_neg (fun hh => hh h)
  exact ⟨e, by rw [ofA, e, if_pos h2]⟩
theorem of_3 {n : Int} {l : List Pl} {L : List Pr} {zs : List St} (hz : zs = tabS n l) (h : chS n l = 0) (h2 : rchkS (ptsN n.toNat zs zs.length) L = 0) : ofE n l L = 0 ∧ ofA n l L = .agg (raceC (ptsN n.toNat zs zs.length) L) := by
  subst hz
  have e : ofE n l L = rchkS (ptsN n.toNat (tabS n l) (tabS n l).length) L := if_neg (fun hh => hh h)
  exact ⟨e.trans h2, by rw [ofA, e, if_neg (fun hh => hh h2)]; rfl⟩
theorem tab_row {n : Int} {l : List Pl} {zs : List St} (hz : zs = tabS n l) (h : chS n l = 0) : zs ≠ [] ∧ zs.length = n.toNat ∧ ∀ u, u < zs.length → 0 ≤ (gz zs u).tm ∧ (gz zs u).tm < n := by
  rw [tabS_y h] at hz
  subst hz
  refine ⟨tab_ne h, (tab_len h).symm, fun u hu => ?_⟩
  obtain ⟨_, h4, hpl⟩ := chS_z h
  have hm : gz (tbS (stds n.toNat l)) u ∈ stds n.toNat l := (tbS_perm (tab_ok h).1).mem_iff.1 (by rw [gz_get hu]; exact List.getElem_mem _)
  have ht := stds_tm hpl n.toNat l.length (Nat.le_refl _)
  rw [List.take_length] at ht
  have hm2 : (gz (tbS (stds n.toNat l)) u).tm ∈ (List.range n.toNat).map fun t : Nat => (t : Int) := by
    rw [← ht]
    exact List.mem_map_of_mem hm
  obtain ⟨t, ht2, he⟩ := List.mem_map.1 hm2
  rw [List.mem_range] at ht2
  omega
theorem isI_ints (l : List Pr) : (flatQ l).all isI = true := by
  induction l with
  | nil => rfl
  | cons p l ih => unfold flatQ at ih ⊢; rw [List.map_cons, List.flatten_cons, List.all_append, ih]; rfl
theorem ints_ren (P : List Int) (f : Nat → Nat) : (P.map AV.i).map (ren f 8) = P.map AV.i := by rw [List.map_map]; rfl
theorem prs_ren (L : List Pr) (f : Nat → Nat) (d : Nat) : (flatQ L).map (ren f (d + 1)) = flatQ L := by
  unfold flatQ
  rw [List.map_flatten, List.map_map]
  congr 1
theorem ren_os (f : Nat → Nat) (b n : Nat) (L : List Pr) : ren f 8 (.agg [.own 1 b 0 n, prsAV L]) = .agg [.own 1 (f b) 0 n, prsAV L] := by
  show AV.agg [.own 1 (f b) 0 n, .sl _ ((flatQ L).map (ren f 6))] = _
  rw [prs_ren]
theorem ren_oo (f : Nat → Nat) (b n c m : Nat) : ren f 8 (.agg [.own 1 b 0 n, .own 2 c 0 m]) = .agg [.own 1 (f b) 0 n, .own 2 (f c) 0 m] := rfl
theorem ren_p8 (f : Nat → Nat) (b o : Nat) : ren f 8 (.ptr b o) = .ptr (f b) o := rfl
theorem rnB_add (h : Nat) (p : List Nat) (j : Nat) : rnB h p (h + j) = h + p.idxOf j := by
  unfold rnB
  rw [if_neg (by omega), Nat.add_sub_cancel_left]
theorem rnB_zero (h : Nat) (p : List Nat) : rnB h p h = h + p.idxOf 0 := rnB_add h p 0
theorem two_low {H : Heap} {A B : Option Blk} {b : Nat} (h : b < H.length) : hget (H ++ [A] ++ [B]) b = hget H b := by
  rw [hget_low _ _ _ (by simp; omega), hget_low _ _ _ h]
theorem two_0 (H : Heap) (A B : Option Blk) : hget (H ++ [A] ++ [B]) H.length = A := by simp [hget]
theorem two_1 (H : Heap) (A B : Option Blk) : hget (H ++ [A] ++ [B]) (H.length + 1) = B := by simp [hget]
theorem bld27 {x y : AV} (hx : cellsOf x = some [x]) (hy : cellsOf y = some [y]) : buildV Try.prog 36 [(0, x), (1, y)] = some (.agg [x, y]) := by
  have hp : places Try.prog [(0, 34), (1, 28)] = some [(0, 1), (1, 1)] := by kernel_rfl
  simp only [buildV, ty36, List.map_cons, List.map_nil, hp]
  simp [fillA, hx, hy]
theorem frz_of {H : Heap} {b n : Nat} {P : List Int} (L : List Pr) (hb : hget H b = some (P.map AV.i)) (hn : n = P.length) : frz H 0 8 (.agg [.own 1 b 0 n, prsAV L]) = .agg (raceC P L) := by
  subst hn; exact frz_raceO L hb
theorem frz_ofb {H : Heap} {base b n : Nat} {P : List Int} (L : List Pr) (hb : hget H b = some (P.map AV.i)) (hl : base ≤ b) (hn : n = P.length) : frz H base 7 (.agg [.own 1 b 0 n, prsAV L]) = .agg (raceC P L) := by
  show AV.agg [frz H base 6 (.own 1 b 0 n), AV.sl _ ((flatQ L).map (frz H base 5))] = _
  rw [frz_ownI (d := 4) (by omega) hb hn, frz_prs]
end Go.Proofs.Ytdmeioppkannlaa
end
section
set_option linter.unusedVariables false
namespace Go.Proofs.Ytdmeioppkannlaa
open Go Go.Am

structure Ed where
  a : Int
  b : Int
  c : Int
deriving DecidableEq
instance : Inhabited Ed := ⟨⟨0, 0, 0⟩⟩
abbrev edC (s : Ed) : List AV := [AV.i s.a, AV.i s.b, AV.i s.c]
def flatE (l : List Ed) : List AV := (l.map edC).flatten
abbrev edgesAV (l : List Ed) : AV := .sl l.length (flatE l)
abbrev graphC (n s t : Int) (E : List Ed) : List AV := [AV.i n, AV.i s, AV.i t, edgesAV E]
abbrev boolsAV (l : List Bool) : AV := .sl l.length (l.map AV.b)
theorem flat_get : ∀ (l : List Ed) (u k : Nat), u < l.length → k < 3 → (flatE l)[u * 3 + k]? = (edC (gt l u))[k]?
  | [], u, k, h, _ => by simp at h
  | s :: l, 0, k, _, hk => by
    unfold flatE
    rw [List.map_cons, List.flatten_cons, Nat.zero_mul, Nat.zero_add, List.getElem?_append_left (by simpa using hk)]
    rfl
  | s :: l, u + 1, k, h, hk => by
    have ih := flat_get l u k (by simpa using h) hk
    unfold flatE at ih ⊢
    rw [List.map_cons, List.flatten_cons, List.getElem?_append_right (by simp; omega)]
    rw [show (u + 1) * 3 + k - (edC s).length = u * 3 + k by simp; omega, ih]
    rfl
theorem flat_len (l : List Ed) : (flatE l).length = l.length * 3 := by
  induction l with
  | nil => rfl
  | cons s l ih => unfold flatE at ih ⊢; rw [List.map_cons, List.flatten_cons, List.length_append, ih]; simp; omega
theorem flat0 (l : List Ed) (u : Nat) (h : u < l.length) : (flatE l)[u * 3]? = some (AV.i (gt l u).a) := flat_get l u 0 h (by omega)
theorem flat1 (l : List Ed) (u : Nat) (h : u < l.length) : (flatE l)[u * 3 + 1]? = some (AV.i (gt l u).b) := flat_get l u 1 h (by omega)
theorem flat2 (l : List Ed) (u : Nat) (h : u < l.length) : (flatE l)[u * 3 + 2]? = some (AV.i (gt l u).c) := flat_get l u 2 h (by omega)
theorem ld_ed (l : List Ed) (u : Nat) (h : u < l.length) : partL { size := 3, bytes := 24, agg := true, k := TyK.struct [(0, 3), (1, 3), (2, 2)], zero := some [.int .i64 0, .int .i64 0, .int .i64 0] } (flatE l) (u * 3) = some (.agg (edC (gt l u))) := by
  rw [pl69 _ _ (by rw [flat_len]; omega)]
  congr 2
  apply List.ext_getElem?
  intro j
  rw [List.getElem?_take, List.getElem?_drop]
  by_cases hj : j < 3
  · rw [if_pos hj, flat_get l u j h hj]
  · rw [if_neg hj, List.getElem?_eq_none (by simp; omega)]
attribute [go_sem] flat0 flat1 flat2 ld_ed

def edErr (n : Int) (e : Ed) : Int := if e.a < 0 ∨ n ≤ e.a ∨ e.b < 0 ∨ n ≤ e.b ∨ e.a = e.b then 1 else if e.c < 0 ∨ 1073741824 < e.c then 2 else 0
def gchkS (n s t : Int) (E : List Ed) : Int :=
  if n < 2 ∨ 64 < n then 2 else if s < 0 ∨ n ≤ s ∨ t < 0 ∨ n ≤ t ∨ s = t then 1 else if 600 < E.length then 9 else ferr (fun i => edErr n (gt E i)) E.length
/-- What a graph without an error is. -/
structure GOK (n s t : Int) (E : List Ed) : Prop where
  n2 : 2 ≤ n
  n64 : n ≤ 64
  s0 : 0 ≤ s
  s1 : s < n
  t0 : 0 ≤ t
  t1 : t < n
  st : s ≠ t
  el : E.length ≤ 600
  ed : ∀ i, i < E.length → 0 ≤ (gt E i).a ∧ (gt E i).a < n ∧ 0 ≤ (gt E i).b ∧ (gt E i).b < n ∧ (gt E i).a ≠ (gt E i).b ∧ 0 ≤ (gt E i).c ∧ (gt E i).c ≤ 1073741824
theorem gok_of {n s t : Int} {E : List Ed} (h : gchkS n s t E = 0) : GOK n s t E := by
  unfold gchkS at h
  split at h
  · cases h
  split at h
  · cases h
  split at h
  · cases h
  rename_i h1 h2 h3
  refine ⟨by omega, by omega, by omega, by omega, by omega, by omega, by omega, by omega, fun i hi => ?_⟩
  have := ferr_all h i hi
  simp only [edErr] at this
  split at this
  · cases this
  split at this
  · cases this
  exact ⟨by omega, by omega, by omega, by omega, by omega, by omega, by omega⟩
theorem msR27 (lim : Nat) (H : Heap) (n : Int) (x y : Operand) (ev : Operand → AV) (h0 : 0 ≤ n) (hn : n ≤ 1000000) (h : ev x = AV.i n) (h' : ev y = AV.i n) :
    effV Try.prog lim (.makeSlice 65 x y) ev H = some (.own 1 H.length 0 n.toNat, H ++ [some ((List.replicate n.toNat (0 : Int)).map AV.i)]) := by
  simp only [effV, tk65, ty2, h, h']
  rw [if_pos ⟨rfl, by decide, by omega, by omega, by omega, by omega⟩]
  have key : ∀ k, (List.replicate k ([Value.int .i64 0].map AV.v)).flatten = (List.replicate k (0 : Int)).map AV.i := by
    intro k
    induction k with
    | zero => rfl
    | succ k ih => rw [List.replicate_succ, List.flatten_cons, ih, List.replicate_succ]; rfl
  rw [key]
theorem frz_bools (H : Heap) (b d : Nat) (l : List Bool) : (l.map AV.b).map (frz H b (d + 1)) = l.map AV.b := by
  rw [List.map_map]; rfl

theorem frz_ownBo {H : Heap} {base d b n : Nat} {l : List Bool} (hb : ¬ b < base) (hk : hget H b = some (l.map AV.b)) (hn : n = l.length) : frz H base (d + 2) (.own 1 b 0 n) = boolsAV l := by
  rw [frz_ownB hb hk, List.drop_zero, frz_bools, hn]

/-- What begins at each node less what ends there, over the first edges. -/
def surp1 (E : List Ed) (f : List Int) (u : Nat) (o : List Int) : List Int := o.set (gt E u).a.toNat (gt o (gt E u).a.toNat + gt f u)
def surp2 (E : List Ed) (f : List Int) (u : Nat) (o : List Int) : List Int := o.set (gt E u).b.toNat (gt o (gt E u).b.toNat - gt f u)
def surpN (N : Nat) (E : List Ed) (f : List Int) : Nat → List Int
  | 0 => List.replicate N 0
  | u + 1 => surp2 E f u (surp1 E f u (surpN N E f u))
theorem gt_rep (N j : Nat) : gt (List.replicate N (0 : Int)) j = 0 := by
  unfold gt
  rw [List.getD_eq_getElem?_getD, List.getElem?_replicate]
  split <;> rfl
def fRng (E : List Ed) (f : List Int) : Prop := ∀ i, i < E.length → 0 ≤ gt f i ∧ gt f i ≤ (gt E i).c
def sumBad (s t : Int) (o : List Int) : Prop := ∃ j, j < o.length ∧ gt o j ≠ 0 ∧ (j : Int) ≠ s ∧ (j : Int) ≠ t
abbrev surpS (n : Int) (E : List Ed) (f : List Int) : List Int := surpN n.toNat E f E.length
open Classical in
noncomputable def feasS (n s t : Int) (E : List Ed) (f : List Int) : Int :=
  if gchkS n s t E ≠ 0 then gchkS n s t E else if f.length ≠ E.length then 1 else if ¬ fRng E f then 2 else if sumBad s t (surpS n E f) then 12 else 0
theorem fRng_cap {n s t : Int} {E : List Ed} {f : List Int} (g : GOK n s t E) (h : fRng E f) : ∀ i, i < E.length → 0 ≤ gt f i ∧ gt f i ≤ 1073741824 := fun i hi => by
  have h1 := h i hi
  have h2 := g.ed i hi
  omega
noncomputable def valueS (n s t : Int) (E : List Ed) (f : List Int) : Int × Int := if feasS n s t E f ≠ 0 then (0, feasS n s t E f) else (gt (surpS n E f) s.toNat, 0)
/-- The capacity of the first edges that a cut severs. -/
def capN (E : List Ed) (cut : List Bool) : Nat → Int
  | 0 => 0
  | u + 1 => capN E cut u + if gt cut (gt E u).a.toNat = true ∧ gt cut (gt E u).b.toNat = false then (gt E u).c else 0
noncomputable def capS (n s t : Int) (E : List Ed) (cut : List Bool) : Int × Int :=
  if gchkS n s t E ≠ 0 then (0, gchkS n s t E) else if (cut.length : Int) ≠ n ∨ gt cut s.toNat = false ∨ gt cut t.toNat = true then (0, 1) else (capN E cut E.length, 0)
noncomputable def acceptS (n s t : Int) (E : List Ed) (f : List Int) (cut : List Bool) : Int :=
  if (valueS n s t E f).2 ≠ 0 then (valueS n s t E f).2 else if (capS n s t E cut).2 ≠ 0 then (capS n s t E cut).2 else if (valueS n s t E f).1 ≠ (capS n s t E cut).1 then 13 else 0
end Go.Proofs.Ytdmeioppkannlaa
end
section
set_option linter.unusedVariables false
namespace Go.Proofs.Ytdmeioppkannlaa
open Go Go.Am

instance : Inhabited Pr := ⟨⟨0, 0⟩⟩
attribute [go_sem] ld_pr bld58 eq58 take2

/-- The most points of a team over the first matches. -/
def mostN (P : List Int) (L : List Pr) (t : Int) : Nat → Int
  | 0 => gt P t.toNat
  | u + 1 => if (gt L u).a = t ∨ (gt L u).b = t then mostN P L t u + 2 else mostN P L t u
theorem most_rng {P : List Int} {L : List Pr} {t : Int} (h0 : 0 ≤ gt P t.toNat) (h1 : gt P t.toNat ≤ 800) : ∀ u, 0 ≤ mostN P L t u ∧ mostN P L t u ≤ 800 + 2 * u
  | 0 => ⟨h0, by rw [mostN]; omega⟩
  | u + 1 => by
    have := most_rng h0 h1 u (L := L)
    rw [mostN]
    split <;> omega
def mostS (P : List Int) (L : List Pr) (t : Int) : Int × Int :=
  if rchkS P L ≠ 0 then (0, rchkS P L) else if t < 0 ∨ (P.length : Int) ≤ t then (0, 6) else (mostN P L t L.length, 0)
/-- The points after results. -/
def play1 (L : List Pr) (R : List Int) (u : Nat) (o : List Int) : List Int := o.set (gt L u).a.toNat (gt o (gt L u).a.toNat + gt R u)
def play2 (L : List Pr) (R : List Int) (u : Nat) (o : List Int) : List Int := o.set (gt L u).b.toNat (gt o (gt L u).b.toNat + (2 - gt R u))
def playN (P : List Int) (L : List Pr) (R : List Int) : Nat → List Int
  | 0 => P
  | u + 1 => play2 L R u (play1 L R u (playN P L R u))
theorem play1_len {L : List Pr} {R : List Int} {u : Nat} {o : List Int} : (play1 L R u o).length = o.length := by rw [play1, List.length_set]
theorem play2_len {L : List Pr} {R : List Int} {u : Nat} {o : List Int} : (play2 L R u o).length = o.length := by rw [play2, List.length_set]
theorem play_len (P : List Int) (L : List Pr) (R : List Int) (u : Nat) : (playN P L R u).length = P.length := by
  induction u with
  | zero => rfl
  | succ u ih => rw [playN, play2_len, play1_len, ih]
def resOK (R : List Int) : Prop := ∀ i, i < R.length → 0 ≤ gt R i ∧ gt R i ≤ 2
open Classical in
noncomputable def playA (P : List Int) (L : List Pr) (R : List Int) : AV :=
  if rchkS P L ≠ 0 ∨ R.length ≠ L.length ∨ ¬ resOK R then nilP else intsAV (playN P L R L.length)
open Classical in
noncomputable def playE (P : List Int) (L : List Pr) (R : List Int) : Int :=
  if rchkS P L ≠ 0 then rchkS P L else if R.length ≠ L.length then 1 else if ¬ resOK R then 2 else 0
/-- The first team that can pass one. -/
def passN (P : List Int) (L : List Pr) (t : Int) : Nat → Int
  | 0 => -1
  | u + 1 => if passN P L t u ≠ -1 then passN P L t u else if (u : Int) ≠ t ∧ gt P t.toNat < mostN P L u L.length then u else -1
theorem pass_at {P : List Int} {L : List Pr} {t : Int} {u : Nat} (h : passN P L t u = -1) (h1 : (u : Int) ≠ t) (h2 : gt P t.toNat < mostN P L u L.length) : ∀ k, u < k → passN P L t k = u
  | 0, hk => by omega
  | k + 1, hk => by
    rw [passN]
    by_cases hu : u = k
    · subst hu; rw [if_neg (fun hh => hh h), if_pos ⟨h1, h2⟩]
    · rw [pass_at h h1 h2 k (by omega), if_pos (by omega)]
theorem pass_on {P : List Int} {L : List Pr} {t : Int} {u : Nat} (h : passN P L t u = -1) (h1 : ¬ ((u : Int) ≠ t ∧ gt P t.toNat < mostN P L u L.length)) : passN P L t (u + 1) = -1 := by
  rw [passN, if_neg (fun hh => hh h), if_neg h1]
def thruS (P : List Int) (L : List Pr) (t : Int) : Bool × Int × Int :=
  if (mostS P L t).2 ≠ 0 then (false, 0, (mostS P L t).2) else (decide (passN P L t P.length = -1), passN P L t P.length, 0)
end Go.Proofs.Ytdmeioppkannlaa
end
section
set_option linter.unusedVariables false
namespace Go.Proofs.Ytdmeioppkannlaa
open Go Go.Am

def sumN (f : Nat → Int) : Nat → Int
  | 0 => 0
  | n + 1 => sumN f n + f n
theorem sumN_congr {f g : Nat → Int} : ∀ n, (∀ i, i < n → f i = g i) → sumN f n = sumN g n
  | 0, _ => rfl
  | n + 1, h => by rw [sumN, sumN, sumN_congr n fun i hi => h i (by omega), h n (by omega)]
theorem sumN_le {f g : Nat → Int} : ∀ n, (∀ i, i < n → f i ≤ g i) → sumN f n ≤ sumN g n
  | 0, _ => Int.le_refl _
  | n + 1, h => by
    have := sumN_le n fun i hi => h i (by omega)
    have := h n (by omega)
    rw [sumN, sumN]; omega
theorem sumN_lt {f g : Nat → Int} {j : Nat} : ∀ n, (∀ i, i < n → f i ≤ g i) → j < n → f j < g j → sumN f n < sumN g n
  | 0, _, hj, _ => by omega
  | n + 1, h, hj, hl => by
    rw [sumN, sumN]
    by_cases hn : j = n
    · have := sumN_le n fun i hi => h i (by omega)
      subst hn; omega
    · have := sumN_lt n (fun i hi => h i (by omega)) (by omega) hl
      have := h n (by omega)
      omega
theorem sumN_add (f g : Nat → Int) : ∀ n, sumN (fun i => f i + g i) n = sumN f n + sumN g n
  | 0 => rfl
  | n + 1 => by rw [sumN, sumN, sumN, sumN_add f g n]; omega
theorem sumN_zero : ∀ n, sumN (fun _ => 0) n = 0
  | 0 => rfl
  | n + 1 => by rw [sumN, sumN_zero n]; rfl
theorem sumN_swap (f : Nat → Nat → Int) (m : Nat) : ∀ n, sumN (fun k => sumN (fun i => f k i) m) n = sumN (fun i => sumN (fun k => f k i) n) m
  | 0 => by rw [sumN]; exact (sumN_zero m).symm
  | n + 1 => by
    rw [sumN, sumN_swap f m n, ← sumN_add]
    rfl
theorem sumN_one (a : Nat) (x : Int) : ∀ n, sumN (fun k => if k = a then x else 0) n = if a < n then x else 0
  | 0 => by rw [if_neg (by omega)]; rfl
  | n + 1 => by
    rw [sumN, sumN_one a x n]
    by_cases h : n = a
    · rw [if_neg (by omega), if_pos h, if_pos (by omega)]; omega
    · rw [if_neg h]
      by_cases h2 : a < n
      · rw [if_pos h2, if_pos (by omega)]; omega
      · rw [if_neg h2, if_neg (by omega)]; rfl
theorem sumN_upd {f g : Nat → Int} {j : Nat} (n : Nat) (h : ∀ i, i < n → i ≠ j → g i = f i) (hj : j < n) : sumN g n = sumN f n + (g j - f j) := by
  have e : sumN g n = sumN (fun i => f i + if i = j then g j - f j else 0) n := sumN_congr n fun i hi => by
    by_cases hij : i = j
    · subst hij; rw [if_pos rfl]; omega
    · rw [if_neg hij, h i hi hij]; omega
  rw [e, sumN_add f (fun i => if i = j then g j - f j else 0), sumN_one, if_pos hj]
theorem sumN_nn {f : Nat → Int} (n : Nat) (h : ∀ i, i < n → 0 ≤ f i) : 0 ≤ sumN f n := by
  have := sumN_le (f := fun _ => 0) n h
  rwa [sumN_zero] at this

/-- A flow from pairs to teams: what comes to a pair, what goes on to its two teams, what goes on from a team; and what can be reached. -/
structure BF (N q : Nat) (Q : List Pr) (c : Nat → Int) (P : List Int) (goal t : Int) (x y z e : Nat → Int) (T V : Nat → Bool) : Prop where
  qa : ∀ i, i < q → 0 ≤ (gt Q i).a ∧ (gt Q i).a < N ∧ 0 ≤ (gt Q i).b ∧ (gt Q i).b < N ∧ (gt Q i).a ≠ (gt Q i).b ∧ (gt Q i).a ≠ t ∧ (gt Q i).b ≠ t
  x0 : ∀ i, i < q → 0 ≤ x i ∧ x i ≤ c i
  y0 : ∀ i, i < q → 0 ≤ y i ∧ y i ≤ c i
  z0 : ∀ i, i < q → 0 ≤ z i ∧ z i ≤ c i
  e0 : ∀ k : Nat, k < N → (k : Int) ≠ t → 0 ≤ e k ∧ e k ≤ goal - gt P k
  pc : ∀ i, i < q → x i = y i + z i
  tc : ∀ k : Nat, k < N → (k : Int) ≠ t → e k = sumN (fun i => (if (gt Q i).a = k then y i else 0) + (if (gt Q i).b = k then z i else 0)) q
  r1 : ∀ i, i < q → x i < c i → V i = true
  r2 : ∀ i, i < q → V i = true → y i < c i → T (gt Q i).a.toNat = true
  r3 : ∀ i, i < q → V i = true → z i < c i → T (gt Q i).b.toNat = true
  r4 : ∀ i, i < q → T (gt Q i).a.toNat = true → 0 < y i → V i = true
  r5 : ∀ i, i < q → T (gt Q i).b.toNat = true → 0 < z i → V i = true
  r6 : ∀ k : Nat, k < N → (k : Int) ≠ t → T k = true → e k = goal - gt P k
  r7 : ∀ k : Nat, k < N → T k = true → (k : Int) ≠ t

section
variable {N q : Nat} {Q : List Pr} {c : Nat → Int} {P : List Int} {goal t : Int} {x y z e : Nat → Int} {T V : Nat → Bool}
def inside (T : Nat → Bool) (p : Pr) : Bool := T p.a.toNat && T p.b.toNat
/-- What goes on from some teams is what comes to them. -/
theorem BF.sum (B : BF N q Q c P goal t x y z e T V) (S : Nat → Bool) (hS : ∀ k : Nat, k < N → S k = true → (k : Int) ≠ t) :
    sumN (fun k => if S k = true then e k else 0) N = sumN (fun i => (if S (gt Q i).a.toNat = true then y i else 0) + (if S (gt Q i).b.toNat = true then z i else 0)) q := by
  have e1 : sumN (fun k => if S k = true then e k else 0) N = sumN (fun k => sumN (fun i => (if k = (gt Q i).a.toNat then (if S (gt Q i).a.toNat = true then y i else 0) else 0) + (if k = (gt Q i).b.toNat then (if S (gt Q i).b.toNat = true then z i else 0) else 0)) q) N := sumN_congr N fun k hk => by
    by_cases hs : S k = true
    · rw [if_pos hs, B.tc k hk (hS k hk hs)]
      refine sumN_congr q fun i hi => ?_
      have h := B.qa i hi
      by_cases ha : (gt Q i).a = k <;> by_cases hb : (gt Q i).b = k
      · omega
      · have ka : k = (gt Q i).a.toNat := by omega
        rw [if_pos ha, if_neg hb, if_pos ka, if_neg (show ¬ k = (gt Q i).b.toNat by omega), ← ka, if_pos hs]
      · have kb : k = (gt Q i).b.toNat := by omega
        rw [if_neg ha, if_pos hb, if_neg (show ¬ k = (gt Q i).a.toNat by omega), if_pos kb, ← kb, if_pos hs]
      · rw [if_neg ha, if_neg hb, if_neg (show ¬ k = (gt Q i).a.toNat by omega), if_neg (show ¬ k = (gt Q i).b.toNat by omega)]
    · rw [if_neg hs]
      refine (Eq.trans (sumN_congr q fun i hi => ?_) (sumN_zero q)).symm
      by_cases ha : k = (gt Q i).a.toNat <;> by_cases hb : k = (gt Q i).b.toNat
      · rw [if_pos ha, if_pos hb, if_neg (by rw [← ha]; exact hs), if_neg (by rw [← hb]; exact hs)]; rfl
      · rw [if_pos ha, if_neg hb, if_neg (by rw [← ha]; exact hs)]; rfl
      · rw [if_neg ha, if_pos hb, if_neg (by rw [← hb]; exact hs)]; rfl
      · rw [if_neg ha, if_neg hb]; rfl
  rw [e1, sumN_swap]
  refine sumN_congr q fun i hi => ?_
  have h := B.qa i hi
  rw [sumN_add (fun k => if k = (gt Q i).a.toNat then (if S (gt Q i).a.toNat = true then y i else 0) else 0), sumN_one, sumN_one, if_pos (show (gt Q i).a.toNat < N by omega), if_pos (show (gt Q i).b.toNat < N by omega)]
/-- Into the teams that can be reached nothing comes but from pairs that are among them. -/
theorem BF.into (B : BF N q Q c P goal t x y z e T V) (i : Nat) (hi : i < q) :
    (if T (gt Q i).a.toNat = true then y i else 0) + (if T (gt Q i).b.toNat = true then z i else 0) = if inside T (gt Q i) = true then x i else 0 := by
  have h1 := B.x0 i hi
  have h2 := B.y0 i hi
  have h3 := B.z0 i hi
  have h4 := B.pc i hi
  have h5 := B.r2 i hi
  have h6 := B.r3 i hi
  have h7 := B.r4 i hi
  have h8 := B.r5 i hi
  unfold inside
  cases ha : T (gt Q i).a.toNat <;> cases hb : T (gt Q i).b.toNat <;> simp only [Bool.and_true, Bool.and_false, Bool.false_eq_true, if_true, if_false]
  · rfl
  · by_cases hz : 0 < z i
    · have hv := h8 hb hz
      by_cases hy : y i < c i
      · have := h5 hv hy; rw [ha] at this; cases this
      · omega
    · omega
  · by_cases hy : 0 < y i
    · have hv := h7 ha hy
      by_cases hz : z i < c i
      · have := h6 hv hz; rw [hb] at this; cases this
      · omega
    · omega
  · omega
theorem BF.unsat (B : BF N q Q c P goal t x y z e T V) (i : Nat) (hi : i < q) (h : x i < c i) : inside T (gt Q i) = true := by
  have h1 := B.x0 i hi
  have h2 := B.y0 i hi
  have h3 := B.z0 i hi
  have h4 := B.pc i hi
  have hv := B.r1 i hi h
  unfold inside
  rw [B.r2 i hi hv (by omega), B.r3 i hi hv (by omega)]
  rfl
theorem BF.tight (B : BF N q Q c P goal t x y z e T V) : sumN (fun k => if T k = true then goal - gt P k else 0) N = sumN (fun i => if inside T (gt Q i) = true then x i else 0) q := by
  rw [← sumN_congr q fun i hi => B.into i hi, ← B.sum T B.r7]
  refine sumN_congr N fun k hk => ?_
  by_cases h : T k = true
  · rw [if_pos h, if_pos h, B.r6 k hk (B.r7 k hk h) h]
  · rw [if_neg h, if_neg h]
/-- Where not all that could come to the pairs comes, the teams that can be reached have too many points among them. -/
theorem BF.elim (B : BF N q Q c P goal t x y z e T V) {j : Nat} (hj : j < q) (h : x j < c j) :
    sumN (fun k => if T k = true then goal - gt P k else 0) N < sumN (fun i => if inside T (gt Q i) = true then c i else 0) q ∧ ∃ k, k < N ∧ T k = true := by
  refine ⟨?_, ?_⟩
  · rw [B.tight]
    refine sumN_lt (j := j) q (fun i hi => ?_) hj ?_
    · have := B.x0 i hi
      split <;> omega
    · rw [if_pos (B.unsat j hj h), if_pos (B.unsat j hj h)]; exact h
  · have h1 := B.unsat j hj h
    have h2 := B.qa j hj
    unfold inside at h1
    exact ⟨(gt Q j).a.toNat, by omega, by revert h1; cases T (gt Q j).a.toNat <;> simp⟩
end

/-! Points after results. -/
theorem gt_play1 {L : List Pr} {R : List Int} {u : Nat} {o : List Int} (h0 : 0 ≤ (gt L u).a) (h1 : (gt L u).a < o.length) (k : Nat) : gt (play1 L R u o) k = gt o k + if (gt L u).a = k then gt R u else 0 := by
  rw [play1, gt_set _ _ _ _ (by omega)]
  by_cases h : (gt L u).a = k
  · rw [if_pos h, if_pos (by omega), show (gt L u).a.toNat = k by omega]
  · rw [if_neg h, if_neg (by omega)]; omega
theorem gt_play2 {L : List Pr} {R : List Int} {u : Nat} {o : List Int} (h0 : 0 ≤ (gt L u).b) (h1 : (gt L u).b < o.length) (k : Nat) : gt (play2 L R u o) k = gt o k + if (gt L u).b = k then 2 - gt R u else 0 := by
  rw [play2, gt_set _ _ _ _ (by omega)]
  by_cases h : (gt L u).b = k
  · rw [if_pos h, if_pos (by omega), show (gt L u).b.toNat = k by omega]
  · rw [if_neg h, if_neg (by omega)]; omega
theorem play_step {P : List Int} {L : List Pr} (g : ROK P L) (R : List Int) {u : Nat} (hu : u < L.length) (k : Nat) :
    gt (playN P L R (u + 1)) k = gt (playN P L R u) k + ((if (gt L u).a = k then gt R u else 0) + (if (gt L u).b = k then 2 - gt R u else 0)) := by
  have e := g.ed u hu
  rw [playN, gt_play2 e.2.2.1 (by rw [play1_len, play_len]; exact e.2.2.2.1), gt_play1 e.1 (by rw [play_len]; exact e.2.1)]
  omega
theorem play_goal {P : List Int} {L : List Pr} (g : ROK P L) {R : List Int} (hl : R.length = L.length) (hr : resOK R) {t : Int} (t0 : 0 ≤ t) : ∀ u, u ≤ L.length → gt (playN P L R u) t.toNat ≤ mostN P L t u
  | 0, _ => Int.le_refl _
  | u + 1, h => by
    have ih := play_goal g hl hr t0 u (by omega)
    have e := g.ed u (by omega)
    have r := hr u (by omega)
    rw [play_step g R (by omega), mostN]
    by_cases ha : (gt L u).a = t <;> by_cases hb : (gt L u).b = t
    · omega
    · rw [if_pos (by omega), if_neg (by omega), if_pos (.inl ha)]; omega
    · rw [if_neg (by omega), if_pos (by omega), if_pos (.inr hb)]; omega
    · rw [if_neg (by omega), if_neg (by omega), if_neg (by omega)]; omega
theorem play_up {P : List Int} {L : List Pr} (g : ROK P L) {R : List Int} (hl : R.length = L.length) (hr : resOK R) (k : Nat) : ∀ u, u ≤ L.length → gt P k ≤ gt (playN P L R u) k
  | 0, _ => Int.le_refl _
  | u + 1, h => by
    have ih := play_up g hl hr k u (by omega)
    have r := hr u (by omega)
    rw [play_step g R (by omega)]
    split <;> split <;> omega
/-- Twice the number of matches among some teams. -/
def inN (T : Nat → Bool) (L : List Pr) : Nat → Int
  | 0 => 0
  | u + 1 => inN T L u + if inside T (gt L u) = true then 2 else 0
theorem play_in {P : List Int} {L : List Pr} (g : ROK P L) {R : List Int} (hl : R.length = L.length) (hr : resOK R) (T : Nat → Bool) : ∀ u, u ≤ L.length →
    sumN (fun k => if T k = true then gt P k else 0) P.length + inN T L u ≤ sumN (fun k => if T k = true then gt (playN P L R u) k else 0) P.length
  | 0, _ => by rw [inN]; show _ + 0 ≤ sumN (fun k => if T k = true then gt P k else 0) P.length; omega
  | u + 1, h => by
    have ih := play_in g hl hr T u (by omega)
    have e := g.ed u (by omega)
    have r := hr u (by omega)
    have k1 : sumN (fun k => if T k = true then gt (playN P L R (u + 1)) k else 0) P.length = sumN (fun k => (if T k = true then gt (playN P L R u) k else 0) + ((if k = (gt L u).a.toNat then (if T (gt L u).a.toNat = true then gt R u else 0) else 0) + (if k = (gt L u).b.toNat then (if T (gt L u).b.toNat = true then 2 - gt R u else 0) else 0))) P.length := sumN_congr _ fun k hk => by
      rw [play_step g R (by omega)]
      by_cases ha : (gt L u).a = k <;> by_cases hb : (gt L u).b = k
      · omega
      · rw [if_pos ha, if_neg hb, if_pos (show k = (gt L u).a.toNat by omega), if_neg (show ¬ k = (gt L u).b.toNat by omega), show (gt L u).a.toNat = k by omega]
        by_cases ht : T k = true
        · rw [if_pos ht, if_pos ht, if_pos ht]
        · rw [if_neg ht, if_neg ht, if_neg ht]; rfl
      · rw [if_neg ha, if_pos hb, if_neg (show ¬ k = (gt L u).a.toNat by omega), if_pos (show k = (gt L u).b.toNat by omega), show (gt L u).b.toNat = k by omega]
        by_cases ht : T k = true
        · rw [if_pos ht, if_pos ht, if_pos ht]
        · rw [if_neg ht, if_neg ht, if_neg ht]; rfl
      · rw [if_neg ha, if_neg hb, if_neg (show ¬ k = (gt L u).a.toNat by omega), if_neg (show ¬ k = (gt L u).b.toNat by omega)]
        by_cases ht : T k = true
        · rw [if_pos ht, if_pos ht]
        · rw [if_neg ht, if_neg ht]; rfl
    rw [k1, sumN_add, sumN_add (fun k => if k = (gt L u).a.toNat then (if T (gt L u).a.toNat = true then gt R u else 0) else 0), sumN_one, sumN_one, if_pos (show (gt L u).a.toNat < P.length by omega), if_pos (show (gt L u).b.toNat < P.length by omega), inN]
    unfold inside
    cases T (gt L u).a.toNat <;> cases T (gt L u).b.toNat <;> simp <;> omega
/-- Teams that have too many points among them prove that a team cannot be first. -/
theorem elim_no {P : List Int} {L : List Pr} (g : ROK P L) {t goal : Int} (t0 : 0 ≤ t) (hg : goal = mostN P L t L.length) (T : Nat → Bool) (hT : sumN (fun k => if T k = true then goal else 0) P.length < sumN (fun k => if T k = true then gt P k else 0) P.length + inN T L L.length)
    {R : List Int} (hl : R.length = L.length) (hr : resOK R) : ∃ k, k < P.length ∧ gt (playN P L R L.length) t.toNat < gt (playN P L R L.length) k := by
  refine Classical.byContradiction fun hn => ?_
  have h1 := play_in g hl hr T L.length (Nat.le_refl _)
  have h2 := play_goal g hl hr t0 L.length (Nat.le_refl _)
  have h3 : sumN (fun k => if T k = true then gt (playN P L R L.length) k else 0) P.length ≤ sumN (fun k => if T k = true then goal else 0) P.length := sumN_le _ fun k hk => by
    have : ¬ gt (playN P L R L.length) t.toNat < gt (playN P L R L.length) k := fun hh => hn ⟨k, hk, hh⟩
    split <;> omega
  omega
end Go.Proofs.Ytdmeioppkannlaa
end
section
set_option linter.unusedVariables false
namespace Go.Proofs.Ytdmeioppkannlaa
open Go Go.Am

/-! How an edge is gone: its number + 1, or below 0 if against its direction; 0: none. -/
def ixE (c : Int) : Nat := if 0 < c then (c - 1).toNat else (-c - 1).toNat
def decE (c : Int) : Int := if 0 < c then c - 1 else if c < 0 then -c - 1 else 0
abbrev arcC (c : Int) : List AV := [AV.i (decE c), .v (.bool (decide (c < 0)))]
theorem arc_fwd (u : Nat) : arcC ((u : Int) + 1) = [AV.i u, .v (.bool false)] := by
  simp only [arcC, decE, List.cons.injEq, and_true]
  rw [if_pos (by omega), decide_eq_false (by omega)]
  exact ⟨by congr 2; omega, rfl⟩
theorem arc_back (u : Nat) : arcC (-(u : Int) - 1) = [AV.i u, .v (.bool true)] := by
  simp only [arcC, decE, List.cons.injEq, and_true]
  rw [if_neg (by omega), if_pos (by omega), decide_eq_true (by omega)]
  exact ⟨by congr 2; omega, rfl⟩
def flatA (l : List Int) : List AV := (l.map arcC).flatten
abbrev arcsAV (l : List Int) : AV := .sl l.length (flatA l)
theorem flatA_len (l : List Int) : (flatA l).length = l.length * 2 := by
  induction l with
  | nil => rfl
  | cons s l ih => unfold flatA at ih ⊢; rw [List.map_cons, List.flatten_cons, List.length_append, ih]; simp; omega
theorem flatA_get : ∀ (l : List Int) (u k : Nat), u < l.length → k < 2 → (flatA l)[u * 2 + k]? = (arcC (gt l u))[k]?
  | [], u, k, h, _ => by simp at h
  | s :: l, 0, k, _, hk => by
    unfold flatA
    rw [List.map_cons, List.flatten_cons, Nat.zero_mul, Nat.zero_add, List.getElem?_append_left (by simpa using hk)]
    rfl
  | s :: l, u + 1, k, h, hk => by
    have ih := flatA_get l u k (by simpa using h) hk
    unfold flatA at ih ⊢
    rw [List.map_cons, List.flatten_cons, List.getElem?_append_right (by simp; omega)]
    rw [show (u + 1) * 2 + k - (arcC s).length = u * 2 + k by simp; omega, ih]
    rfl
theorem ld_arc (l : List Int) (u : Nat) (h : u < l.length) : partL { size := 2, bytes := 16, agg := true, k := TyK.struct [(0, 3), (1, 4)], zero := some [.int .i64 0, .bool false] } (flatA l) (u * 2) = some (.agg (arcC (gt l u))) := by
  rw [pl85 _ _ (by rw [flatA_len]; omega)]
  congr 2
  apply List.ext_getElem?
  intro j
  rw [List.getElem?_take, List.getElem?_drop]
  by_cases hj : j < 2
  · rw [if_pos hj, flatA_get l u j h hj]
  · rw [if_neg hj, List.getElem?_eq_none (by simp; omega)]
theorem flatA_set : ∀ (l : List Int) (u : Nat) (c : Int), u < l.length → setL (flatA l) (u * 2) (arcC c) = flatA (l.set u c)
  | [], u, c, h => by simp at h
  | s :: l, 0, c, _ => rfl
  | s :: l, u + 1, c, h => by
    have ih := flatA_set l u c (by simpa using h)
    have e : flatA (s :: l) = AV.i (decE s) :: .v (.bool (decide (s < 0))) :: flatA l := rfl
    have e2 : flatA ((s :: l).set (u + 1) c) = AV.i (decE s) :: .v (.bool (decide (s < 0))) :: flatA (l.set u c) := rfl
    rw [e, e2, ← ih, show (u + 1) * 2 = u * 2 + 1 + 1 by omega]
    rfl
attribute [go_sem] ld_arc

theorem flatA_ren (g : Nat → Nat) (N : Nat) : (flatA (List.replicate N 0)).map (ren g 8) = flatA (List.replicate N 0) := by
  induction N with
  | zero => rfl
  | succ N ih =>
    have e : flatA (List.replicate (N + 1) 0) = arcC 0 ++ flatA (List.replicate N 0) := rfl
    rw [e, List.map_append, ih]
    rfl
structure BS where
  seen : List Bool
  way : List Int
  q : List Int
def pushS (st : BS) (x c : Int) : BS := ⟨st.seen.set x.toNat true, st.way.set x.toNat c, st.q ++ [x]⟩
/-- One edge, from the node v. -/
def stepE (E : List Ed) (f : List Int) (v : Int) (i : Nat) (st : BS) : BS :=
  if (gt E i).b = v then (if gt st.seen (gt E i).a.toNat = false ∧ 0 < gt f i then pushS st (gt E i).a (-(i : Int) - 1) else st)
  else if (gt E i).a = v then (if gt st.seen (gt E i).b.toNat = false ∧ gt f i < (gt E i).c then pushS st (gt E i).b ((i : Int) + 1) else st)
  else st
def scanN (E : List Ed) (f : List Int) (v : Int) (st : BS) : Nat → BS
  | 0 => st
  | u + 1 => stepE E f v u (scanN E f v st u)
def bfs (E : List Ed) (f : List Int) : Nat → BS → BS
  | 0, st => st
  | k + 1, st => match st.q with | [] => st | v :: r => bfs E f k (scanN E f v ⟨st.seen, st.way, r⟩ E.length)
def st0 (n s : Int) : BS := ⟨(List.replicate n.toNat false).set s.toNat true, List.replicate n.toNat 0, [s]⟩
def reachS (n s : Int) (E : List Ed) (f : List Int) : BS := bfs E f n.toNat (st0 n s)
def meas (st : BS) : Nat := st.seen.countP (fun b => !b) + st.q.length
structure SOK (n : Int) (st : BS) : Prop where
  seen : st.seen.length = n.toNat
  way : st.way.length = n.toNat
  q : ∀ x, x ∈ st.q → 0 ≤ x ∧ x < n
theorem push_ok {n : Int} {st : BS} {x c : Int} (so : SOK n st) (h0 : 0 ≤ x) (h1 : x < n) (hs : gt st.seen x.toNat = false) : SOK n (pushS st x c) ∧ meas (pushS st x c) = meas st := by
  refine ⟨⟨by simp [pushS, so.seen], by simp [pushS, so.way], fun y hy => ?_⟩, ?_⟩
  · simp only [pushS, List.mem_append, List.mem_singleton] at hy
    rcases hy with hy | rfl
    · exact so.q y hy
    · exact ⟨h0, h1⟩
  · have hl : x.toNat < st.seen.length := by rw [so.seen]; omega
    have hg : st.seen[x.toNat] = false := by rw [← gt_eq _ _ hl]; exact hs
    have hp : 0 < st.seen.countP (fun b => !b) := List.countP_pos_iff.2 ⟨false, by rw [← hg]; exact List.getElem_mem _, rfl⟩
    simp only [meas, pushS, List.length_append, List.length_cons, List.length_nil]
    rw [List.countP_set hl, hg]
    simp
    omega
theorem step_ok {n s t : Int} {E : List Ed} {f : List Int} (g : GOK n s t E) {v : Int} {u : Nat} (hu : u < E.length) {st : BS} (so : SOK n st) : SOK n (stepE E f v u st) ∧ meas (stepE E f v u st) = meas st := by
  have he := g.ed u hu
  unfold stepE
  split
  · split
    · rename_i h; exact push_ok so (by omega) (by omega) h.1
    · exact ⟨so, rfl⟩
  · split
    · split
      · rename_i h; exact push_ok so (by omega) (by omega) h.1
      · exact ⟨so, rfl⟩
    · exact ⟨so, rfl⟩
theorem scan_ok' {n s t : Int} {E : List Ed} {f : List Int} (g : GOK n s t E) {v : Int} {st : BS} (so : SOK n st) : ∀ u, u ≤ E.length → SOK n (scanN E f v st u) ∧ meas (scanN E f v st u) = meas st
  | 0, _ => ⟨so, rfl⟩
  | u + 1, h => by
    have ih := scan_ok' g so u (by omega) (f := f) (v := v)
    have := step_ok g (f := f) (v := v) (show u < E.length by omega) ih.1
    exact ⟨this.1, this.2.trans ih.2⟩
theorem rep_false (N : Nat) : (List.replicate N false).countP (fun b => !b) = N := by
  induction N with
  | zero => rfl
  | succ N ih => rw [List.replicate_succ, List.countP_cons, ih]; rfl
theorem st0_ok {n s t : Int} {E : List Ed} (g : GOK n s t E) : SOK n (st0 n s) ∧ meas (st0 n s) = n.toNat := by
  have h1 := g.s0
  have h2 := g.s1
  refine ⟨⟨by simp [st0], by simp [st0], fun x hx => ?_⟩, ?_⟩
  · simp only [st0, List.mem_singleton] at hx
    omega
  · have hl : s.toNat < (List.replicate n.toNat false).length := by simp; omega
    simp only [meas, st0]
    rw [List.countP_set hl, rep_false]
    simp
    omega
theorem pop_ok {n : Int} {seen : List Bool} {way : List Int} {v : Int} {r : List Int} (so : SOK n ⟨seen, way, v :: r⟩) : SOK n ⟨seen, way, r⟩ ∧ 0 ≤ v ∧ v < n ∧ meas ⟨seen, way, v :: r⟩ = meas ⟨seen, way, r⟩ + 1 :=
  ⟨⟨so.seen, so.way, fun x hx => so.q x (List.mem_cons_of_mem _ hx)⟩, (so.q v (List.mem_cons_self ..)).1, (so.q v (List.mem_cons_self ..)).2, by simp [meas]; omega⟩
/-- The queue, as a part of a block. -/
theorem q_pop {st : BS} {Q : List Int} {o : Nat} (hd : Q.drop o = st.q) (hl : o + st.q.length = Q.length) (hp : 0 < st.q.length) : st = ⟨st.seen, st.way, gt Q o :: Q.drop (o + 1)⟩ ∧ o < Q.length ∧ (Q.drop (o + 1)).length = Q.length - (o + 1) := by
  have h : o < Q.length := by omega
  refine ⟨?_, h, by simp⟩
  rw [← drop_gt Q o h, hd]
theorem bfs_pop {E : List Ed} {f : List Int} {k : Nat} {seen : List Bool} {way : List Int} {v : Int} {r : List Int} : bfs E f (k + 1) ⟨seen, way, v :: r⟩ = bfs E f k (scanN E f v ⟨seen, way, r⟩ E.length) := rfl
theorem bfs_end {E : List Ed} {f : List Int} {st : BS} (h : st.q.length = 0) : ∀ k, bfs E f k st = st
  | 0 => rfl
  | k + 1 => by
    have : st.q = [] := List.length_eq_zero_iff.1 h
    unfold bfs
    rw [this]
/-- How much more may go. -/
def roomV (E : List Ed) (f : List Int) (e : Int) (back : Bool) : Int := if back then gt f e.toNat else (gt E e.toNat).c - gt f e.toNat
theorem setL_b (l : List Bool) (w : Nat) (x : Bool) : setL (l.map AV.b) w [.v (.bool x)] = (l.set w x).map AV.b := by
  rw [setL_one, List.map_set]
theorem ms28 (lim : Nat) (H : Heap) (n : Int) (x y : Operand) (ev : Operand → AV) (h0 : 0 ≤ n) (hn : n ≤ 1000000) (h : ev x = AV.i n) (h' : ev y = AV.i n) :
    effV Try.prog lim (.makeSlice 33 x y) ev H = some (.own 1 H.length 0 n.toNat, H ++ [some ((List.replicate n.toNat false).map AV.b)]) := by
  simp only [effV, tk33, ty4, h, h']
  rw [if_pos ⟨rfl, by decide, by omega, by omega, by omega, by omega⟩]
  have key : ∀ k, (List.replicate k ([Value.bool false].map AV.v)).flatten = (List.replicate k false).map AV.b := by
    intro k
    induction k with
    | zero => rfl
    | succ k ih => rw [List.replicate_succ, List.flatten_cons, ih, List.replicate_succ]; rfl
  rw [key]
theorem ms40 (lim : Nat) (H : Heap) (n : Int) (x y : Operand) (ev : Operand → AV) (h0 : 0 ≤ n) (hn : n ≤ 1000000) (h : ev x = AV.i n) (h' : ev y = AV.i n) :
    effV Try.prog lim (.makeSlice 34 x y) ev H = some (.own 1 H.length 0 n.toNat, H ++ [some ((List.replicate n.toNat (0 : Int)).map AV.i)]) := by
  simp only [effV, tk34, ty3, h, h']
  rw [if_pos ⟨rfl, by decide, by omega, by omega, by omega, by omega⟩]
  have key : ∀ k, (List.replicate k ([Value.int .i64 0].map AV.v)).flatten = (List.replicate k (0 : Int)).map AV.i := by
    intro k
    induction k with
    | zero => rfl
    | succ k ih => rw [List.replicate_succ, List.flatten_cons, ih, List.replicate_succ]; rfl
  rw [key]
theorem ms67 (lim : Nat) (H : Heap) (n : Int) (x y : Operand) (ev : Operand → AV) (h0 : 0 ≤ n) (hn : n ≤ 1000000) (h : ev x = AV.i n) (h' : ev y = AV.i n) :
    effV Try.prog lim (.makeSlice 81 x y) ev H = some (.own 2 H.length 0 n.toNat, H ++ [some (flatA (List.replicate n.toNat 0))]) := by
  simp only [effV, tk81, ty85, h, h']
  rw [if_pos ⟨rfl, by decide, by omega, by omega, by omega, by omega⟩]
  have key : ∀ k, (List.replicate k ([Value.int .i64 0, Value.bool false].map AV.v)).flatten = flatA (List.replicate k 0) := by
    intro k
    induction k with
    | zero => rfl
    | succ k ih => rw [List.replicate_succ, List.flatten_cons, ih, List.replicate_succ]; rfl
  rw [key]
theorem bs40 (lim : Nat) (H : Heap) (x : Operand) (ev : Operand → AV) (v : Int) (h : ev x = AV.i v) :
    effV Try.prog lim (.buildSlice 34 1 #[(0, x)]) ev H = some (.own 1 H.length 0 1, H ++ [some [AV.i v]]) := by
  simp only [effV, tk34, ty3]
  rw [if_pos ⟨rfl, by decide, by decide⟩]
  simp only [List.map_cons, List.map_nil, h]
  rfl
theorem sl40 (b o m m' : Nat) (h : m = m' + 1) : sliceV Try.prog 34 (.own 1 b o m) (some (AV.i 1)) none = some (.own 1 b (o + 1) m') := by
  simp only [sliceV, tk34, ty3, bound]
  rw [if_pos ⟨trivial, by omega, by omega, by omega⟩]
  simp
  omega
theorem bld71 (u : Int) (b : Bool) : buildV Try.prog 85 [(0, AV.i u), (1, .v (.bool b))] = some (.agg [AV.i u, .v (.bool b)]) := by
  simp only [buildV, ty85, places, ty3, ty4]
  rfl
attribute [go_sem] bld71
theorem frz_ownA {H : Heap} {base d b n : Nat} {l : List Int} (hb : ¬ b < base) (hk : hget H b = some (flatA l)) (hn : n = l.length) : frz H base (d + 2) (.own 2 b 0 n) = arcsAV l := by
  rw [frz_ownB hb hk, List.drop_zero, hn]
  have : (flatA l).map (frz H base (d + 1)) = flatA l := by
    induction l with
    | nil => rfl
    | cons x l ih =>
      have e : flatA (x :: l) = arcC x ++ flatA l := rfl
      rw [e, List.map_append]
      congr 1
      induction l with
      | nil => rfl
      | cons y r ih2 =>
        have e2 : flatA (y :: r) = arcC y ++ flatA r := rfl
        rw [e2, List.map_append]
        congr 1
        clear ih ih2 e e2 hk hn
        induction r with
        | nil => rfl
        | cons z r ih => exact congrArg (arcC z ++ ·) ih
  rw [this]
/-- What a queue that is not empty gives. -/
theorem q_pop' {n : Int} {k o : Nat} {E : List Ed} {f : List Int} {st R : BS} {Q : List Int} (so : SOK n st) (hk : meas st ≤ k) (hb : bfs E f k st = R) (hd : Q.drop o = st.q) (hl : o + st.q.length = Q.length) (hp : 0 < st.q.length) :
    ∃ k', k = k' + 1 ∧ o < Q.length ∧ st.q.length = (Q.drop (o + 1)).length + 1 ∧ SOK n ⟨st.seen, st.way, Q.drop (o + 1)⟩ ∧ meas ⟨st.seen, st.way, Q.drop (o + 1)⟩ ≤ k' ∧ 0 ≤ gt Q o ∧ gt Q o < n ∧
      bfs E f k' (scanN E f (gt Q o) ⟨st.seen, st.way, Q.drop (o + 1)⟩ E.length) = R := by
  obtain ⟨h1, h2, h3⟩ := q_pop hd hl hp
  obtain ⟨seen, way, q⟩ := st
  simp only at h1 hl hp hd
  injection h1 with _ _ h1
  subst h1
  have p := pop_ok so
  rw [p.2.2.2] at hk
  cases k with
  | zero => omega
  | succ k => exact ⟨k, rfl, h2, rfl, p.1, Nat.le_of_succ_le_succ hk, p.2.1, p.2.2.1, hb⟩
theorem app40 {lim : Nat} {H : Heap} {b o m c : Nat} {Q : List Int} {v : Int} (hq : hget H b = some (Q.map AV.i)) (hc : hget H c = some [AV.i v]) (hl : lim ≤ b) (ho : o + m = Q.length) (hm : m ≤ 1000000) :
    ∃ H', appendV Try.prog lim H 34 (.own 1 b o m) (.own 1 c 0 1) = some (.own 1 H.length 0 (m + 1), H') ∧ MGrew H b H' ((Q.drop o ++ [v]).map AV.i) := by
  refine ⟨_, ?_, MGrew.of _ _ _⟩
  simp only [appendV, tk34, ty3, srcCells, hq, hc]
  rw [if_pos (by simp)]
  simp only [List.length_cons, List.length_nil]
  rw [if_pos ⟨trivial, by decide, rfl⟩]
  simp only [List.drop_zero, Nat.mul_one, List.length_map]
  rw [if_pos ⟨hl, trivial, by omega, by omega, by omega⟩]
  congr 3
  rw [List.take_of_length_le (by simp; omega)]
  simp [List.map_drop]
end Go.Proofs.Ytdmeioppkannlaa
end
section
set_option linter.unusedVariables false
namespace Go.Proofs.Ytdmeioppkannlaa
open Go Go.Am

def tailE (E : List Ed) (c : Int) : Int := if 0 < c then (gt E (ixE c)).a else (gt E (ixE c)).b
def headE (E : List Ed) (c : Int) : Int := if 0 < c then (gt E (ixE c)).b else (gt E (ixE c)).a
def roomI (E : List Ed) (f : List Int) (c : Int) : Int := if 0 < c then (gt E (ixE c)).c - gt f (ixE c) else gt f (ixE c)
structure ArcOK (E : List Ed) (f : List Int) (c : Int) : Prop where
  nz : c ≠ 0
  ix : ixE c < E.length
  room : 0 < roomI E f c
theorem ix_fwd (u : Nat) : ixE ((u : Int) + 1) = u := by rw [ixE, if_pos (by omega)]; omega
theorem ix_back (u : Nat) : ixE (-(u : Int) - 1) = u := by rw [ixE, if_neg (by omega)]; omega
theorem gt_app {α : Type} [Inhabited α] (l m : List α) (k : Nat) (h : k < l.length) : gt (l ++ m) k = gt l k := by
  simp [gt, List.getD_eq_getElem?_getD, List.getElem?_append_left h]
theorem gt_last {α : Type} [Inhabited α] (l : List α) (x : α) : gt (l ++ [x]) l.length = x := by
  simp [gt, List.getD_eq_getElem?_getD]
structure RInv (n s : Int) (E : List Ed) (f : List Int) (st : BS) (ord : List Int) : Prop where
  hd : gt ord 0 = s
  pos : 0 < ord.length
  rng : ∀ k, k < ord.length → 0 ≤ gt ord k ∧ gt ord k < n
  seen : ∀ v, 0 ≤ v → v < n → (gt st.seen v.toNat = true ↔ ∃ k, k < ord.length ∧ gt ord k = v)
  inj : ∀ j k, j < ord.length → k < ord.length → gt ord j = gt ord k → j = k
  arc : ∀ k, 0 < k → k < ord.length → ArcOK E f (gt st.way (gt ord k).toNat) ∧ headE E (gt st.way (gt ord k).toNat) = gt ord k ∧ ∃ j, j < k ∧ tailE E (gt st.way (gt ord k).toNat) = gt ord j
theorem push_inv {n s : Int} {E : List Ed} {f : List Int} {st : BS} {ord : List Int} {x c : Int} (so : SOK n st) (R : RInv n s E f st ord) (h0 : 0 ≤ x) (h1 : x < n) (hs : gt st.seen x.toNat = false)
    (ha : ArcOK E f c) (hh : headE E c = x) {j : Nat} (hj : j < ord.length) (ht : tailE E c = gt ord j) : RInv n s E f (pushS st x c) (ord ++ [x]) := by
  have new : ∀ k, k < ord.length → gt ord k ≠ x := fun k hk hx => by
    have := (R.seen x h0 h1).2 ⟨k, hk, hx⟩
    rw [hs] at this; cases this
  have hl : (ord ++ [x]).length = ord.length + 1 := by simp
  have cas : ∀ k, k < ord.length + 1 → k < ord.length ∧ gt (ord ++ [x]) k = gt ord k ∨ k = ord.length ∧ gt (ord ++ [x]) k = x := fun k hk => by
    by_cases h : k < ord.length
    · exact .inl ⟨h, gt_app _ _ _ h⟩
    · have : k = ord.length := by omega
      subst this
      exact .inr ⟨rfl, gt_last _ _⟩
  have hw : ∀ y, 0 ≤ y → y < n → gt (pushS st x c).way y.toNat = if x = y then c else gt st.way y.toNat := fun y hy0 hy1 => by
    rw [pushS, gt_set _ _ _ _ (by rw [so.way]; omega)]
    by_cases hxy : x = y
    · rw [if_pos hxy, if_pos (by rw [hxy])]
    · rw [if_neg hxy, if_neg (by omega)]
  have hsn : ∀ y, 0 ≤ y → y < n → gt (pushS st x c).seen y.toNat = if x = y then true else gt st.seen y.toNat := fun y hy0 hy1 => by
    rw [pushS, gt_set _ _ _ _ (by rw [so.seen]; omega)]
    by_cases hxy : x = y
    · rw [if_pos hxy, if_pos (by rw [hxy])]
    · rw [if_neg hxy, if_neg (by omega)]
  refine ⟨by rw [gt_app _ _ _ R.pos]; exact R.hd, by omega, fun k hk => ?_, fun v hv0 hv1 => ?_, fun i k hi hk h => ?_, fun k hk0 hk => ?_⟩
  · rcases cas k (by omega) with ⟨h2, h3⟩ | ⟨h2, h3⟩ <;> rw [h3]
    · exact R.rng k h2
    · exact ⟨h0, h1⟩
  · rw [hsn v hv0 hv1]
    by_cases hxv : x = v
    · rw [if_pos hxv]
      exact ⟨fun _ => ⟨ord.length, by omega, by rw [gt_last, hxv]⟩, fun _ => rfl⟩
    · rw [if_neg hxv, R.seen v hv0 hv1]
      constructor
      · rintro ⟨k, hk, hkv⟩
        exact ⟨k, by omega, by rw [gt_app _ _ _ hk, hkv]⟩
      · rintro ⟨k, hk, hkv⟩
        rcases cas k (by omega) with ⟨h2, h3⟩ | ⟨h2, h3⟩
        · exact ⟨k, h2, by rw [← h3, hkv]⟩
        · exact absurd (h3.symm.trans hkv) hxv
  · rcases cas i (by omega) with ⟨h2, h3⟩ | ⟨h2, h3⟩ <;> rcases cas k (by omega) with ⟨h4, h5⟩ | ⟨h4, h5⟩ <;> rw [h3, h5] at h
    · exact R.inj i k h2 h4 h
    · exact absurd h (new i h2)
    · exact absurd h.symm (new k h4)
    · omega
  · rcases cas k (by omega) with ⟨h2, h3⟩ | ⟨h2, h3⟩ <;> rw [h3]
    · have hr := R.rng k h2
      rw [hw _ hr.1 hr.2, if_neg (fun h => new k h2 h.symm)]
      obtain ⟨a1, a2, i, a3, a4⟩ := R.arc k hk0 h2
      exact ⟨a1, a2, i, a3, by rw [gt_app _ _ _ (by omega)]; exact a4⟩
    · rw [hw x h0 h1, if_pos rfl]
      exact ⟨ha, hh, j, by omega, by rw [gt_app _ _ _ hj]; exact ht⟩
/-- What is reached from a node is seen, as far as one edge goes. -/
def clos1 (E : List Ed) (f : List Int) (seen : List Bool) (v : Int) (i : Nat) : Prop :=
  ((gt E i).a = v → gt f i < (gt E i).c → gt seen (gt E i).b.toNat = true) ∧ ((gt E i).b = v → 0 < gt f i → gt seen (gt E i).a.toNat = true)
theorem seen_mono {st : BS} {x c : Int} {w : Nat} (h : gt st.seen w = true) : gt (pushS st x c).seen w = true := by
  unfold pushS
  by_cases hx : x.toNat < st.seen.length
  · rw [gt_set _ _ _ _ hx]
    split
    · rfl
    · exact h
  · rw [List.set_eq_of_length_le (by omega)]; exact h
theorem step_inv {n s t : Int} {E : List Ed} {f : List Int} (g : GOK n s t E) {v : Int} {u : Nat} (hu : u < E.length) {st : BS} {ord : List Int} {p : Nat} (so : SOK n st) (R : RInv n s E f st ord) (hq : st.q = ord.drop (p + 1)) (hp : p < ord.length) (hv : gt ord p = v) :
    ∃ e, RInv n s E f (stepE E f v u st) (ord ++ e) ∧ (stepE E f v u st).q = (ord ++ e).drop (p + 1) ∧ (∀ w, gt st.seen w = true → gt (stepE E f v u st).seen w = true) ∧ clos1 E f (stepE E f v u st).seen v u := by
  have he := g.ed u hu
  have none : ∀ {st' : BS}, st' = st → clos1 E f st.seen v u → ∃ e, RInv n s E f st' (ord ++ e) ∧ st'.q = (ord ++ e).drop (p + 1) ∧ (∀ w, gt st.seen w = true → gt st'.seen w = true) ∧ clos1 E f st'.seen v u := by
    rintro _ rfl hc
    exact ⟨[], by rw [List.append_nil]; exact R, by rw [List.append_nil]; exact hq, fun _ h => h, hc⟩
  have app : ∀ x, (ord ++ [x]).drop (p + 1) = ord.drop (p + 1) ++ [x] := fun x => by rw [List.drop_append_of_le_length (by omega)]
  unfold stepE
  by_cases hb : (gt E u).b = v
  · rw [if_pos hb]
    by_cases hc : gt st.seen (gt E u).a.toNat = false ∧ 0 < gt f u
    · rw [if_pos hc]
      have hset : gt (pushS st (gt E u).a (-(u : Int) - 1)).seen (gt E u).a.toNat = true := by rw [pushS, gt_set _ _ _ _ (by rw [so.seen]; omega), if_pos rfl]
      refine ⟨[(gt E u).a], push_inv so R (by omega) (by omega) hc.1 ⟨by omega, by rw [ix_back]; exact hu, by rw [roomI, if_neg (by omega), ix_back]; exact hc.2⟩ (by rw [headE, if_neg (by omega), ix_back]) hp (by rw [tailE, if_neg (by omega), ix_back, hb, hv]), by rw [app]; simp only [pushS, hq], fun w hw => seen_mono hw, ?_, fun _ _ => hset⟩
      intro h
      exact absurd (h.trans hb.symm) he.2.2.2.2.1
    · rw [if_neg hc]
      refine none rfl ⟨fun h => absurd (h.trans hb.symm) he.2.2.2.2.1, fun _ h0 => ?_⟩
      cases hx : gt st.seen (gt E u).a.toNat with
      | true => rfl
      | false => exact absurd ⟨hx, h0⟩ hc
  · rw [if_neg hb]
    by_cases ha : (gt E u).a = v
    · rw [if_pos ha]
      by_cases hc : gt st.seen (gt E u).b.toNat = false ∧ gt f u < (gt E u).c
      · rw [if_pos hc]
        have hset : gt (pushS st (gt E u).b ((u : Int) + 1)).seen (gt E u).b.toNat = true := by rw [pushS, gt_set _ _ _ _ (by rw [so.seen]; omega), if_pos rfl]
        exact ⟨[(gt E u).b], push_inv so R (by omega) (by omega) hc.1 ⟨by omega, by rw [ix_fwd]; exact hu, by rw [roomI, if_pos (by omega), ix_fwd]; omega⟩ (by rw [headE, if_pos (by omega), ix_fwd]) hp (by rw [tailE, if_pos (by omega), ix_fwd, ha, hv]), by rw [app]; simp only [pushS, hq], fun w hw => seen_mono hw, fun _ _ => hset, fun h => absurd h hb⟩
      · rw [if_neg hc]
        refine none rfl ⟨fun _ h0 => ?_, fun h => absurd h hb⟩
        cases hx : gt st.seen (gt E u).b.toNat with
        | true => rfl
        | false => exact absurd ⟨hx, h0⟩ hc
    · rw [if_neg ha]
      exact none rfl ⟨fun h => absurd h ha, fun h => absurd h hb⟩
theorem clos_mono {E : List Ed} {f : List Int} {a b : List Bool} {v : Int} {i : Nat} (h : clos1 E f a v i) (hm : ∀ w, gt a w = true → gt b w = true) : clos1 E f b v i :=
  ⟨fun h1 h2 => hm _ (h.1 h1 h2), fun h1 h2 => hm _ (h.2 h1 h2)⟩
theorem scan_inv {n s t : Int} {E : List Ed} {f : List Int} (g : GOK n s t E) {v : Int} {st : BS} {ord : List Int} {p : Nat} (so : SOK n st) (R : RInv n s E f st ord) (hq : st.q = ord.drop (p + 1)) (hp : p < ord.length) (hv : gt ord p = v) :
    ∀ u, u ≤ E.length → ∃ e, RInv n s E f (scanN E f v st u) (ord ++ e) ∧ (scanN E f v st u).q = (ord ++ e).drop (p + 1) ∧ (∀ w, gt st.seen w = true → gt (scanN E f v st u).seen w = true) ∧ ∀ i, i < u → clos1 E f (scanN E f v st u).seen v i
  | 0, _ => ⟨[], by rw [List.append_nil]; exact R, by rw [List.append_nil]; exact hq, fun _ h => h, fun i hi => by omega⟩
  | u + 1, h => by
    obtain ⟨e, r1, r2, r3, r4⟩ := scan_inv g so R hq hp hv u (by omega)
    obtain ⟨e', s1, s2, s3, s4⟩ := step_inv (v := v) g (show u < E.length by omega) (scan_ok' g so u (by omega)).1 r1 r2 (by rw [List.length_append]; omega) (by rw [gt_app _ _ _ hp]; exact hv)
    refine ⟨e ++ e', by rw [← List.append_assoc]; exact s1, by rw [← List.append_assoc]; exact s2, fun w hw => s3 w (r3 w hw), fun i hi => ?_⟩
    by_cases hiu : i < u
    · exact clos_mono (r4 i hiu) s3
    · have : i = u := by omega
      subst this
      exact s4
theorem bfs_inv {n s t : Int} {E : List Ed} {f : List Int} (g : GOK n s t E) : ∀ (k : Nat) (st : BS) (ord : List Int) (p : Nat), SOK n st → RInv n s E f st ord → st.q = ord.drop p → p ≤ ord.length → meas st ≤ k → (∀ j, j < p → ∀ i, i < E.length → clos1 E f st.seen (gt ord j) i) →
    ∃ ord', SOK n (bfs E f k st) ∧ RInv n s E f (bfs E f k st) ord' ∧ ∀ j, j < ord'.length → ∀ i, i < E.length → clos1 E f (bfs E f k st).seen (gt ord' j) i := by
  have stop : ∀ (k : Nat) (st : BS) (ord : List Int) (p : Nat), SOK n st → RInv n s E f st ord → st.q = ord.drop p → p ≤ ord.length → st.q.length = 0 → (∀ j, j < p → ∀ i, i < E.length → clos1 E f st.seen (gt ord j) i) →
      ∃ ord', SOK n (bfs E f k st) ∧ RInv n s E f (bfs E f k st) ord' ∧ ∀ j, j < ord'.length → ∀ i, i < E.length → clos1 E f (bfs E f k st).seen (gt ord' j) i := by
    intro k st ord p so R hq hp h0 hc
    rw [bfs_end h0]
    rw [hq, List.length_drop] at h0
    exact ⟨ord, so, R, fun j hj => hc j (by omega)⟩
  intro k
  induction k with
  | zero =>
    intro st ord p so R hq hp hm hc
    exact stop 0 st ord p so R hq hp (by unfold meas at hm; omega) hc
  | succ k ih =>
    intro st ord p so R hq hp hm hc
    by_cases h0 : st.q.length = 0
    · exact stop _ st ord p so R hq hp h0 hc
    · have hpl : p < ord.length := by rw [hq, List.length_drop] at h0; omega
      obtain ⟨seen, way, q⟩ := st
      simp only at hq
      rw [drop_gt ord p hpl] at hq
      subst hq
      have pp := pop_ok so
      rw [pp.2.2.2] at hm
      rw [bfs_pop]
      have R1 : RInv n s E f ⟨seen, way, ord.drop (p + 1)⟩ ord := ⟨R.hd, R.pos, R.rng, R.seen, R.inj, R.arc⟩
      obtain ⟨e, r1, r2, r3, r4⟩ := scan_inv g pp.1 R1 rfl hpl rfl E.length (Nat.le_refl _)
      have sk := scan_ok' g (f := f) (v := gt ord p) pp.1 E.length (Nat.le_refl _)
      refine ih _ (ord ++ e) (p + 1) sk.1 r1 r2 (by simp; omega) (by rw [sk.2]; exact Nat.le_of_succ_le_succ hm) fun j hj i hi => ?_
      rw [gt_app _ _ _ (by omega)]
      by_cases hjp : j < p
      · exact clos_mono (hc j hjp i hi) r3
      · have : j = p := by omega
        subst this
        exact r4 i hi
theorem rep_gt (N j : Nat) : gt (List.replicate N false) j = false := by
  unfold gt
  rw [List.getD_eq_getElem?_getD, List.getElem?_replicate]
  split <;> rfl
theorem reach_inv {n s t : Int} {E : List Ed} (f : List Int) (g : GOK n s t E) : ∃ ord, SOK n (reachS n s E f) ∧ RInv n s E f (reachS n s E f) ord ∧ ∀ j, j < ord.length → ∀ i, i < E.length → clos1 E f (reachS n s E f).seen (gt ord j) i := by
  have h0 := st0_ok g
  have h1 := g.s0
  have h2 := g.s1
  refine bfs_inv g _ _ [s] 0 h0.1 ⟨rfl, by simp, fun k hk => ?_, fun v hv0 hv1 => ?_, fun j k hj hk _ => ?_, fun k hk0 hk => ?_⟩ rfl (by simp) (Nat.le_of_eq h0.2) (fun j hj => by omega)
  · have : k = 0 := by simp at hk; omega
    subst this
    exact ⟨h1, h2⟩
  · rw [st0, gt_set _ _ _ _ (by simp; omega), rep_gt]
    by_cases hsv : s = v
    · rw [if_pos (by rw [hsv])]
      exact ⟨fun _ => ⟨0, by simp, hsv⟩, fun _ => rfl⟩
    · rw [if_neg (by omega)]
      refine ⟨fun h => by simp at h, ?_⟩
      rintro ⟨k, hk, hkv⟩
      have : k = 0 := by simp at hk; omega
      subst this
      exact absurd hkv hsv
  · simp at hj hk; omega
  · simp at hk; omega
end Go.Proofs.Ytdmeioppkannlaa
end
section
set_option linter.unusedVariables false
namespace Go.Proofs.Ytdmeioppkannlaa
open Go Go.Am

def TreeN (n s : Int) (E : List Ed) (f : List Int) (way : List Int) : Nat → Int → Prop
  | 0, v => v = s
  | k + 1, v => v ≠ s ∧ 0 ≤ v ∧ v < n ∧ ArcOK E f (gt way v.toNat) ∧ headE E (gt way v.toNat) = v ∧ TreeN n s E f way k (tailE E (gt way v.toNat))
def wayN (E : List Ed) (way : List Int) : Nat → Int → List Int
  | 0, _ => []
  | k + 1, v => gt way v.toNat :: wayN E way k (tailE E (gt way v.toNat))
theorem wayN_len {E : List Ed} {way : List Int} : ∀ (k : Nat) (v : Int), (wayN E way k v).length = k
  | 0, _ => rfl
  | k + 1, v => by rw [wayN, List.length_cons, wayN_len k]
theorem tree_uni {n s : Int} {E : List Ed} {f way : List Int} : ∀ {k m : Nat} {v : Int}, TreeN n s E f way k v → TreeN n s E f way m v → k = m
  | 0, 0, _, _, _ => rfl
  | 0, m + 1, v, h1, h2 => absurd h1 h2.1
  | k + 1, 0, v, h1, h2 => absurd h2 h1.1
  | k + 1, m + 1, v, h1, h2 => by rw [tree_uni h1.2.2.2.2.2 h2.2.2.2.2.2]
def posArc (E : List Ed) (ord : List Int) (k : Nat) (c : Int) : Prop := ∃ j i, i < j ∧ j ≤ k ∧ j < ord.length ∧ headE E c = gt ord j ∧ tailE E c = gt ord i
theorem tree_of {n s : Int} {E : List Ed} {f : List Int} {st : BS} {ord : List Int} (R : RInv n s E f st ord) : ∀ (k : Nat), k < ord.length →
    ∃ m, TreeN n s E f st.way m (gt ord k) ∧ ((wayN E st.way m (gt ord k)).map ixE).Nodup ∧ ∀ c, c ∈ wayN E st.way m (gt ord k) → posArc E ord k c ∧ ArcOK E f c := by
  intro k
  induction k using Nat.strongRecOn with
  | ind k ih =>
    intro hk
    by_cases h0 : k = 0
    · subst h0
      exact ⟨0, R.hd, by simp [wayN], fun c hc => by simp [wayN] at hc⟩
    · obtain ⟨a1, a2, i, a3, a4⟩ := R.arc k (by omega) hk
      obtain ⟨m, b1, b2, b3⟩ := ih i a3 (by omega)
      have hr := R.rng k hk
      have hs : gt ord k ≠ s := fun h => by
        have := R.inj k 0 hk R.pos (h.trans R.hd.symm)
        omega
      refine ⟨m + 1, ⟨hs, hr.1, hr.2, a1, a2, by rw [a4]; exact b1⟩, ?_, fun c hc => ?_⟩
      · rw [wayN, List.map_cons, List.nodup_cons, a4]
        refine ⟨fun hm => ?_, b2⟩
        obtain ⟨c, hc, hi⟩ := List.mem_map.1 hm
        obtain ⟨⟨j, l, q1, q2, q3, q4, q5⟩, _⟩ := b3 c hc
        generalize gt st.way (gt ord k).toNat = c0 at hi a1 a2 a4
        by_cases hp : 0 < c <;> by_cases hp0 : 0 < c0
        · have e : headE E c = headE E c0 := by rw [headE, headE, if_pos hp, if_pos hp0, hi]
          have := R.inj j k q3 hk (by rw [← q4, e, a2])
          omega
        · have e : headE E c = tailE E c0 := by rw [headE, tailE, if_pos hp, if_neg hp0, hi]
          have e2 : tailE E c = headE E c0 := by rw [headE, tailE, if_pos hp, if_neg hp0, hi]
          have := R.inj l k (by omega) hk (by rw [← q5, e2, a2])
          omega
        · have e : headE E c = tailE E c0 := by rw [headE, tailE, if_neg hp, if_pos hp0, hi]
          have e2 : tailE E c = headE E c0 := by rw [headE, tailE, if_neg hp, if_pos hp0, hi]
          have := R.inj l k (by omega) hk (by rw [← q5, e2, a2])
          omega
        · have e : headE E c = headE E c0 := by rw [headE, headE, if_neg hp, if_neg hp0, hi]
          have := R.inj j k q3 hk (by rw [← q4, e, a2])
          omega
      · rw [wayN, List.mem_cons, a4] at hc
        rcases hc with rfl | hc
        · exact ⟨⟨k, i, a3, Nat.le_refl _, hk, a2, a4⟩, a1⟩
        · obtain ⟨⟨j, l, q1, q2, q3, q4, q5⟩, q6⟩ := b3 c hc
          exact ⟨⟨j, l, q1, by omega, q3, q4, q5⟩, q6⟩
/-- The way along which a flow is raised. -/
structure WayOK (E : List Ed) (f : List Int) (w : List Int) : Prop where
  nd : (w.map ixE).Nodup
  arc : ∀ c, c ∈ w → ArcOK E f c
theorem tree_sink {n s t : Int} {E : List Ed} {f : List Int} (g : GOK n s t E) (h : gt (reachS n s E f).seen t.toNat = true) :
    ∃ m, TreeN n s E f (reachS n s E f).way m t ∧ WayOK E f (wayN E (reachS n s E f).way m t) := by
  obtain ⟨ord, so, R, _⟩ := reach_inv f g
  obtain ⟨k, hk, hkt⟩ := (R.seen t g.t0 g.t1).1 h
  obtain ⟨m, h1, h2, h3⟩ := tree_of R k hk
  rw [hkt] at h1 h2 h3
  exact ⟨m, h1, h2, fun c hc => (h3 c hc).2⟩
/-- The least room along a way. -/
def leastW (E : List Ed) (f : List Int) : Int → List Int → Int
  | m, [] => m
  | m, c :: r => leastW E f (min m (roomI E f c)) r
theorem least_le {E : List Ed} {f : List Int} : ∀ (w : List Int) (m : Int), leastW E f m w ≤ m ∧ ∀ c, c ∈ w → leastW E f m w ≤ roomI E f c
  | [], m => ⟨Int.le_refl _, fun c hc => by simp at hc⟩
  | c :: r, m => by
    have ih := least_le r (min m (roomI E f c)) (E := E) (f := f)
    unfold leastW
    refine ⟨?_, fun x hx => ?_⟩
    · have := ih.1
      omega
    · rcases List.mem_cons.1 hx with rfl | hx
      · have := ih.1
        omega
      · exact ih.2 x hx
theorem least_pos {E : List Ed} {f : List Int} : ∀ (w : List Int) (m : Int), 0 < m → (∀ c, c ∈ w → 0 < roomI E f c) → 0 < leastW E f m w
  | [], m, h, _ => h
  | c :: r, m, h, hr => by
    unfold leastW
    refine least_pos r _ ?_ fun x hx => hr x (List.mem_cons_of_mem _ hx)
    have := hr c (List.mem_cons_self ..)
    omega
theorem least_app {E : List Ed} {f : List Int} : ∀ (w : List Int) (m c : Int), leastW E f m (w ++ [c]) = min (leastW E f m w) (roomI E f c)
  | [], m, c => rfl
  | x :: r, m, c => by rw [List.cons_append]; unfold leastW; exact least_app r _ c
def addV (d : Int) (f : List Int) (c : Int) : Int := if 0 < c then gt f (ixE c) + d else gt f (ixE c) - d
def addEd (d : Int) (f : List Int) (c : Int) : List Int := f.set (ixE c) (addV d f c)
def applyW (d : Int) : List Int → List Int → List Int
  | f, [] => f
  | f, c :: r => applyW d (addEd d f c) r
theorem apply_app {d : Int} : ∀ (w : List Int) (f : List Int) (c : Int), applyW d f (w ++ [c]) = addEd d (applyW d f w) c
  | [], f, c => rfl
  | x :: r, f, c => by rw [List.cons_append, applyW, applyW]; exact apply_app r _ c
theorem apply_len {d : Int} : ∀ (w : List Int) (f : List Int), (applyW d f w).length = f.length
  | [], f => rfl
  | x :: r, f => by rw [applyW, apply_len r, addEd, List.length_set]
theorem addE_gt {d : Int} {f : List Int} {c : Int} (h : ixE c < f.length) (j : Nat) : gt (addEd d f c) j = if ixE c = j then addV d f c else gt f j := by
  rw [addEd, gt_set _ _ _ _ h]
theorem apply_rng {E : List Ed} {d : Int} (hd : 0 ≤ d) : ∀ (w : List Int) (f : List Int), f.length = E.length → fRng E f → (w.map ixE).Nodup → (∀ c, c ∈ w → ixE c < E.length ∧ d ≤ roomI E f c) → fRng E (applyW d f w)
  | [], f, _, hf, _, _ => hf
  | c :: r, f, hl, hf, hn, hw => by
    rw [List.map_cons, List.nodup_cons] at hn
    have hc := hw c (List.mem_cons_self ..)
    have hg := addE_gt (d := d) (f := f) (c := c) (by omega)
    unfold applyW
    refine apply_rng hd r _ (by rw [addEd, List.length_set]; exact hl) (fun i hi => ?_) hn.2 fun x hx => ?_
    · rw [hg]
      have h1 := hf i hi
      by_cases hi2 : ixE c = i
      · rw [if_pos hi2]
        have h2 := hc.2
        unfold roomI at h2
        unfold addV
        split
        · rw [if_pos (by assumption)] at h2
          rw [hi2] at h2 ⊢
          omega
        · rw [if_neg (by assumption)] at h2
          rw [hi2] at h2 ⊢
          omega
      · rw [if_neg hi2]; exact h1
    · have hx2 := hw x (List.mem_cons_of_mem _ hx)
      have hne : ixE c ≠ ixE x := fun h => hn.1 (List.mem_map.2 ⟨x, hx, h.symm⟩)
      refine ⟨hx2.1, ?_⟩
      have : roomI E (addEd d f c) x = roomI E f x := by
        unfold roomI
        rw [hg, if_neg hne]
      rw [this]
      exact hx2.2
theorem apply_take {E : List Ed} {d : Int} (hd : 0 ≤ d) {w f : List Int} (hl : f.length = E.length) (hf : fRng E f) (W : WayOK E f w) (hw : ∀ c, c ∈ w → d ≤ roomI E f c) (j : Nat) : fRng E (applyW d f (w.take j)) :=
  apply_rng hd _ f hl hf (List.Nodup.sublist (List.Sublist.map _ (List.take_sublist j w)) W.nd) fun c hc => ⟨(W.arc c (List.mem_of_mem_take hc)).ix, hw c (List.mem_of_mem_take hc)⟩

/-- What begins at a node less what ends there. -/
def exc (E : List Ed) (f : List Int) (v : Int) : Nat → Int
  | 0 => 0
  | u + 1 => exc E f v u + ((if (gt E u).a = v then gt f u else 0) - (if (gt E u).b = v then gt f u else 0))
theorem exc_set {E : List Ed} {f : List Int} {v x : Int} {i : Nat} (hi : i < f.length) : ∀ u, exc E (f.set i x) v u = exc E f v u + if i < u then ((if (gt E i).a = v then x - gt f i else 0) - (if (gt E i).b = v then x - gt f i else 0)) else 0
  | 0 => by rw [if_neg (by omega)]; rfl
  | u + 1 => by
    have ih := exc_set hi u (E := E) (v := v) (x := x)
    rw [exc, exc, ih, gt_set _ _ _ _ hi]
    by_cases hu : i = u
    · subst hu
      simp only [if_true, if_neg (Nat.lt_irrefl i), if_pos (Nat.lt_succ_self i)]
      split <;> split <;> omega
    · simp only [if_neg hu]
      by_cases h2 : i < u
      · simp only [if_pos h2, if_pos (show i < u + 1 by omega)]; omega
      · simp only [if_neg h2, if_neg (show ¬ i < u + 1 by omega)]; omega
theorem exc_add {E : List Ed} {f : List Int} {d c : Int} (hl : f.length = E.length) (hi : ixE c < E.length) (x : Int) :
    exc E (addEd d f c) x E.length = exc E f x E.length + ((if tailE E c = x then d else 0) - (if headE E c = x then d else 0)) := by
  rw [addEd, exc_set (by omega), if_pos hi]
  unfold addV tailE headE
  by_cases hc : 0 < c
  · simp only [if_pos hc]
    split <;> split <;> omega
  · simp only [if_neg hc]
    split <;> split <;> omega
theorem exc_way {n s : Int} {E : List Ed} {f0 way : List Int} {d : Int} : ∀ (k : Nat) (v : Int) (f : List Int), TreeN n s E f0 way k v → f.length = E.length → ∀ x,
    exc E (applyW d f (wayN E way k v)) x E.length = exc E f x E.length + ((if s = x then d else 0) - (if v = x then d else 0))
  | 0, v, f, h, _, x => by
    have : v = s := h
    subst this
    rw [wayN, applyW]
    omega
  | k + 1, v, f, h, hl, x => by
    rw [wayN, applyW, exc_way k _ _ h.2.2.2.2.2 (by rw [addEd, List.length_set]; exact hl) x, exc_add hl h.2.2.2.1.ix, h.2.2.2.2.1]
    omega
theorem exc_rng {E : List Ed} {f : List Int} (hf : ∀ i, i < E.length → 0 ≤ gt f i ∧ gt f i ≤ 1073741824) (v : Int) : ∀ u, u ≤ E.length → -(1073741824 * (u : Int)) ≤ exc E f v u ∧ exc E f v u ≤ 1073741824 * (u : Int)
  | 0, _ => by simp [exc]
  | u + 1, h => by
    have ih := exc_rng hf v u (by omega)
    have := hf u (by omega)
    rw [exc]
    split <;> split <;> omega
structure FlowOK (n s t : Int) (E : List Ed) (f : List Int) : Prop where
  len : f.length = E.length
  rng : fRng E f
  con : ∀ v, 0 ≤ v → v < n → v ≠ s → v ≠ t → exc E f v E.length = 0
/-- What one search and one raise make of a flow. -/
def augW (n s t : Int) (E : List Ed) (f : List Int) (m : Nat) : List Int := applyW (leastW E f 1073741824 (wayN E (reachS n s E f).way m t)) f (wayN E (reachS n s E f).way m t)
theorem aug_ok {n s t : Int} {E : List Ed} {f : List Int} (g : GOK n s t E) (F : FlowOK n s t E f) {m : Nat} (T : TreeN n s E f (reachS n s E f).way m t) (W : WayOK E f (wayN E (reachS n s E f).way m t)) :
    FlowOK n s t E (augW n s t E f m) ∧ exc E f s E.length < exc E (augW n s t E f m) s E.length := by
  have hp := least_pos (E := E) (f := f) (wayN E (reachS n s E f).way m t) 1073741824 (by decide) fun c hc => (W.arc c hc).room
  have hl := least_le (E := E) (f := f) (wayN E (reachS n s E f).way m t) 1073741824
  have hx := exc_way (d := leastW E f 1073741824 (wayN E (reachS n s E f).way m t)) m t f T F.len
  refine ⟨⟨by rw [augW, apply_len, F.len], ?_, fun v h0 h1 h2 h3 => ?_⟩, ?_⟩
  · exact apply_rng (Int.le_of_lt hp) _ f F.len F.rng W.nd fun c hc => ⟨(W.arc c hc).ix, hl.2 c hc⟩
  · rw [augW, hx v, F.con v h0 h1 h2 h3, if_neg (Ne.symm h2), if_neg (Ne.symm h3)]; rfl
  · rw [augW, hx s, if_pos rfl, if_neg (Ne.symm g.st)]; omega
inductive Runs (n s t : Int) (E : List Ed) : List Int → List Int → Prop
  | stop (f : List Int) (h : gt (reachS n s E f).seen t.toNat = false) : Runs n s t E f f
  | step (f f' : List Int) (m : Nat) (h : gt (reachS n s E f).seen t.toNat = true) (T : TreeN n s E f (reachS n s E f).way m t) (r : Runs n s t E (augW n s t E f m) f') : Runs n s t E f f'
theorem runs_det {n s t : Int} {E : List Ed} {f a b : List Int} (h1 : Runs n s t E f a) (h2 : Runs n s t E f b) : a = b := by
  induction h1 with
  | stop f h =>
    cases h2 with
    | stop => rfl
    | step _ _ m h' => rw [h] at h'; cases h'
  | step f f' m h T r ih =>
    cases h2 with
    | stop _ h' => rw [h] at h'; cases h'
    | step _ _ m' h' T' r' =>
      have := tree_uni T T'
      subst this
      exact ih r'
theorem runs_ok {n s t : Int} {E : List Ed} {f a : List Int} (g : GOK n s t E) (h : Runs n s t E f a) (F : FlowOK n s t E f) : FlowOK n s t E a ∧ gt (reachS n s E a).seen t.toNat = false := by
  induction h with
  | stop f h => exact ⟨F, h⟩
  | step f f' m h T r ih =>
    obtain ⟨m', T', W'⟩ := tree_sink g h
    have := tree_uni T T'
    subst this
    exact ih (aug_ok g F T W').1
theorem zero_ok {n s t : Int} {E : List Ed} (g : GOK n s t E) : FlowOK n s t E (List.replicate E.length 0) := by
  refine ⟨by simp, fun i hi => ?_, fun v _ _ _ _ => ?_⟩
  · have := g.ed i hi
    rw [gt_rep]; omega
  · have : ∀ u, exc E (List.replicate E.length 0) v u = 0 := by
      intro u
      induction u with
      | zero => rfl
      | succ u ih => rw [exc, ih, gt_rep]; split <;> split <;> rfl
    exact this _
end Go.Proofs.Ytdmeioppkannlaa
end
section
set_option linter.unusedVariables false
namespace Go.Proofs.Ytdmeioppkannlaa
open Go Go.Am

theorem tree_step {n s : Int} {E : List Ed} {f way : List Int} {k : Nat} {v : Int} (T : TreeN n s E f way k v) (h : v ≠ s) :
    ∃ k' c, k = k' + 1 ∧ gt way v.toNat = c ∧ 0 ≤ v ∧ v < n ∧ ArcOK E f c ∧ TreeN n s E f way k' (tailE E c) ∧ wayN E way k v = c :: wayN E way k' (tailE E c) := by
  cases k with
  | zero => exact absurd T h
  | succ k => exact ⟨k, _, rfl, rfl, T.2.1, T.2.2.1, T.2.2.2.1, T.2.2.2.2.2, rfl⟩
theorem tree_end {n s : Int} {E : List Ed} {f way : List Int} {k : Nat} {v : Int} (T : TreeN n s E f way k v) (h : v = s) : wayN E way k v = [] := by
  cases k with
  | zero => rfl
  | succ k => exact absurd h T.1
/-- The same of the number of the edge and its direction. -/
theorem arc_dec {E : List Ed} {f : List Int} {c : Int} (A : ArcOK E f c) : 0 ≤ decE c ∧ decE c < E.length ∧ (decE c).toNat = ixE c ∧ roomV E f (decE c) (decide (c < 0)) = roomI E f c := by
  have hn := A.nz
  have hx := A.ix
  have e : 0 ≤ decE c ∧ (decE c).toNat = ixE c := by
    unfold decE ixE
    by_cases h : 0 < c
    · rw [if_pos h, if_pos h]; omega
    · rw [if_neg h, if_neg h, if_pos (by omega)]; omega
  refine ⟨e.1, by omega, e.2, ?_⟩
  unfold roomV roomI
  rw [e.2]
  by_cases h : 0 < c
  · rw [if_neg (by simp; omega), if_pos h]
  · rw [if_pos (by simp; omega), if_neg h]
theorem aug_step {E : List Ed} {f w W r : List Int} {d c : Int} (hd : 0 ≤ d) (hl : f.length = E.length) (hf : fRng E f) (WO : WayOK E f W) (hw : ∀ x, x ∈ W → d ≤ roomI E f x) (hW : w ++ c :: r = W) :
    (0 ≤ gt (applyW d f w) (ixE c) ∧ gt (applyW d f w) (ixE c) ≤ (gt E (ixE c)).c) ∧ (0 ≤ addV d (applyW d f w) c ∧ addV d (applyW d f w) c ≤ (gt E (ixE c)).c) ∧ (applyW d f w).length = E.length ∧
      applyW d f (w ++ [c]) = (applyW d f w).set (ixE c) (addV d (applyW d f w) c) ∧ ArcOK E f c := by
  have hm : c ∈ W := by rw [← hW]; simp
  have A := WO.arc c hm
  have h1 := apply_take hd hl hf WO hw w.length
  have h2 := apply_take hd hl hf WO hw (w.length + 1)
  rw [← hW, List.take_left] at h1
  rw [← hW, show w ++ c :: r = (w ++ [c]) ++ r by simp, show w.length + 1 = (w ++ [c]).length by simp, List.take_left, apply_app] at h2
  have hlen : (applyW d f w).length = E.length := by rw [apply_len, hl]
  have h3 := h2 (ixE c) A.ix
  rw [addE_gt (by rw [hlen]; exact A.ix), if_pos rfl] at h3
  exact ⟨h1 _ A.ix, h3, hlen, apply_app _ _ _, A⟩
theorem bs67 (lim : Nat) (H : Heap) (x : Operand) (ev : Operand → AV) (c : Int) (h : ev x = .agg (arcC c)) :
    effV Try.prog lim (.buildSlice 81 1 #[(0, x)]) ev H = some (.own 2 H.length 0 1, H ++ [some (arcC c)]) := by
  simp only [effV, tk81, ty85]
  rw [if_pos ⟨rfl, by decide, by decide⟩]
  simp only [List.map_cons, List.map_nil, h]
  rfl
/-- The way as it is gathered: nothing yet, or a block. -/
def OutA (lo : Nat) (H : Heap) (o : AV) (w : List Int) : Prop := (w = [] ∧ o = .v (.slice none 0 0)) ∨ ∃ b, o = .own 2 b 0 w.length ∧ lo ≤ b ∧ hget H b = some (flatA w)
theorem OutA.mono {lo : Nat} {H H' : Heap} {o : AV} {w : List Int} (h : OutA lo H o w) (hh : ∀ b, lo ≤ b → ∀ k, hget H b = some k → hget H' b = some k) : OutA lo H' o w := by
  rcases h with h | ⟨b, h1, h2, h3⟩
  · exact .inl h
  · exact .inr ⟨b, h1, h2, hh b h2 _ h3⟩
theorem OutA.lt {lo b : Nat} {H : Heap} {o : AV} {w : List Int} (h : OutA lo H o w) (ho : o = .own 2 b 0 w.length) : b < H.length := by
  rcases h with ⟨_, h⟩ | ⟨b', h1, _, h3⟩
  · rw [h] at ho; cases ho
  · rw [h1] at ho; cases ho; exact hget_lt h3
theorem flatA_app (w : List Int) (c : Int) : flatA (w ++ [c]) = flatA w ++ arcC c := by
  unfold flatA
  rw [List.map_append, List.flatten_append]
  simp
theorem outA_append {lim lo hi : Nat} {H : Heap} {o : AV} {w : List Int} {c : Int} {b' : Nat} (h : OutA lo H o w) (hob : ∀ b, o = .own 2 b 0 w.length → b < hi) (hc : hget H b' = some (arcC c)) (hl : lim ≤ lo) (hlo : lo ≤ H.length) (hw : w.length ≤ 100000) :
    ∃ b, lo ≤ b ∧ (b < hi ∨ b = H.length) ∧ ∃ H', appendV Try.prog lim H 81 o (.own 2 b' 0 1) = some (.own 2 H.length 0 (w.length + 1), H') ∧ MGrew H b H' (flatA (w ++ [c])) := by
  rcases h with ⟨rfl, rfl⟩ | ⟨b, rfl, h2, h3⟩
  · refine ⟨H.length, hlo, .inr rfl, _, ?_, MGrew.ofNew _ (MNew.of _ _)⟩
    simp only [appendV, tk81, ty85, srcCells, hc]
    rw [if_pos (by simp)]
    simp only [List.length_cons, List.length_nil]
    rw [if_pos ⟨trivial, by decide, rfl⟩]
    rw [if_pos ⟨by omega, by omega⟩]
    rfl
  · refine ⟨b, h2, .inl (hob b rfl), _, ?_, MGrew.of _ _ _⟩
    simp only [appendV, tk81, ty85, srcCells, hc, h3]
    rw [if_pos (by simp)]
    simp only [List.length_cons, List.length_nil]
    rw [if_pos ⟨trivial, by decide, rfl⟩]
    simp only [List.drop_zero, flatA_len]
    rw [if_pos ⟨by omega, trivial, by omega, by omega, by omega⟩]
    rw [List.take_of_length_le (by rw [flatA_len]; omega), flatA_app]
    rfl
theorem OutA.new {lo : Nat} {H H' : Heap} {b : Nat} {w : List Int} (g : MGrew H b H' (flatA w)) (hlo : lo ≤ H.length) {m : Nat} (hm : m = w.length) : OutA lo H' (.own 2 H.length 0 m) w := by
  subst hm
  exact .inr ⟨H.length, rfl, hlo, g.new⟩
end Go.Proofs.Ytdmeioppkannlaa
end
section
set_option linter.unusedVariables false
namespace Go.Proofs.Ytdmeioppkannlaa
open Go Go.Am

theorem ms27n (lim : Nat) (H : Heap) (n : Nat) (x y : Operand) (ev : Operand → AV) (hn : n ≤ 1000000) (h : ev x = AV.i n) (h' : ev y = AV.i n) :
    effV Try.prog lim (.makeSlice 65 x y) ev H = some (.own 1 H.length 0 n, H ++ [some ((List.replicate n (0 : Int)).map AV.i)]) := by
  have := msR27 lim H n x y ev (by omega) (by omega) h h'
  rwa [Int.toNat_natCast] at this
abbrev nilA : AV := .v (.slice none 0 0)
open Classical in
noncomputable def maxF (n s t : Int) (E : List Ed) : List Int := if h : ∃ a, Runs n s t E (List.replicate E.length 0) a then h.choose else []
open Classical in
noncomputable def maxA (n s t : Int) (E : List Ed) : AV := if gchkS n s t E ≠ 0 then nilA else intsAV (maxF n s t E)
open Classical in
noncomputable def maxB (n s t : Int) (E : List Ed) : AV := if gchkS n s t E ≠ 0 then nilA else boolsAV (reachS n s E (maxF n s t E)).seen
theorem maxF_eq {n s t : Int} {E : List Ed} {f : List Int} (h : Runs n s t E (List.replicate E.length 0) f) : maxF n s t E = f := by
  have hx : ∃ a, Runs n s t E (List.replicate E.length 0) a := ⟨f, h⟩
  unfold maxF
  rw [dif_pos hx]
  exact runs_det hx.choose_spec h
theorem maxA_err {n s t : Int} {E : List Ed} (h : gchkS n s t E ≠ 0) : maxA n s t E = nilA := by rw [maxA, if_pos h]
theorem maxB_err {n s t : Int} {E : List Ed} (h : gchkS n s t E ≠ 0) : maxB n s t E = nilA := by rw [maxB, if_pos h]
theorem maxA_ok {n s t : Int} {E : List Ed} {f : List Int} (h : gchkS n s t E = 0) (hr : Runs n s t E (List.replicate E.length 0) f) : maxA n s t E = intsAV f := by rw [maxA, if_neg (fun hh => hh h), maxF_eq hr]
theorem maxB_ok {n s t : Int} {E : List Ed} {f : List Int} (h : gchkS n s t E = 0) (hr : Runs n s t E (List.replicate E.length 0) f) : maxB n s t E = boolsAV (reachS n s E f).seen := by rw [maxB, if_neg (fun hh => hh h), maxF_eq hr]
theorem tree_pos {n s t : Int} {E : List Ed} {f way : List Int} {m : Nat} (g : GOK n s t E) (T : TreeN n s E f way m t) : 0 < m := by
  cases m with
  | zero => exact absurd T.symm g.st
  | succ m => omega
/-- A way is no longer than there are edges. -/
theorem way_short {n s t : Int} {E : List Ed} {f : List Int} {m : Nat} (g : GOK n s t E) (h : gt (reachS n s E f).seen t.toNat = true) (T : TreeN n s E f (reachS n s E f).way m t) : m ≤ E.length := by
  obtain ⟨m', T', W⟩ := tree_sink g h
  have := tree_uni T T'
  subst this
  have key : ∀ (N : Nat) (l : List Nat), l.Nodup → (∀ x, x ∈ l → x < N) → l.length ≤ N := by
    intro N
    induction N with
    | zero =>
      intro l hn hl
      cases l with
      | nil => exact Nat.le_refl _
      | cons x r => exact absurd (hl x (List.mem_cons_self ..)) (by omega)
    | succ N ih =>
      intro l hn hl
      by_cases hm : N ∈ l
      · have h1 := ih (l.erase N) (hn.erase N) fun x hx => by
          have h2 := (List.Nodup.mem_erase_iff hn).1 hx
          have := hl x h2.2
          omega
        rw [List.length_erase_of_mem hm] at h1
        omega
      · have := ih l hn fun x hx => by
          have h2 := hl x hx
          have : x ≠ N := fun h => hm (h ▸ hx)
          omega
        omega
  have := key E.length _ W.nd fun x hx => by
    obtain ⟨c, hc, rfl⟩ := List.mem_map.1 hx
    exact (W.arc c hc).ix
  rwa [List.length_map, wayN_len] at this
end Go.Proofs.Ytdmeioppkannlaa
end
section
set_option linter.unusedVariables false
namespace Go.Proofs.Ytdmeioppkannlaa
open Go Go.Am

theorem runs_all {n s t : Int} {E : List Ed} (g : GOK n s t E) : ∀ (k : Nat) (f : List Int), FlowOK n s t E f → (644245094400 - exc E f s E.length).toNat ≤ k → ∃ a, Runs n s t E f a
  | k, f, F, hk => by
    cases h : gt (reachS n s E f).seen t.toNat with
    | false => exact ⟨f, .stop f h⟩
    | true =>
      obtain ⟨m, T, W⟩ := tree_sink g h
      have AO := aug_ok g F T W
      have AO2 := AO.2
      have x0 := exc_rng (fRng_cap g AO.1.rng) s E.length (Nat.le_refl _)
      have g8 := g.el
      cases k with
      | zero => omega
      | succ k =>
        obtain ⟨a, ha⟩ := runs_all g k _ AO.1 (by omega)
        exact ⟨a, .step f a m h T ha⟩
theorem maxF_runs {n s t : Int} {E : List Ed} (h : gchkS n s t E = 0) : Runs n s t E (List.replicate E.length 0) (maxF n s t E) := by
  have g := gok_of h
  obtain ⟨a, ha⟩ := runs_all g _ _ (zero_ok g) (Nat.le_refl _)
  rw [maxF_eq ha]; exact ha
theorem maxA_is {n s t : Int} {E : List Ed} (h : gchkS n s t E = 0) : maxA n s t E = intsAV (maxF n s t E) := maxA_ok h (maxF_runs h)
theorem maxB_is {n s t : Int} {E : List Ed} (h : gchkS n s t E = 0) : maxB n s t E = boolsAV (reachS n s E (maxF n s t E)).seen := maxB_ok h (maxF_runs h)
theorem maxF_ok {n s t : Int} {E : List Ed} (h : gchkS n s t E = 0) : FlowOK n s t E (maxF n s t E) ∧ gt (reachS n s E (maxF n s t E)).seen t.toNat = false := runs_ok (gok_of h) (maxF_runs h) (zero_ok (gok_of h))
end Go.Proofs.Ytdmeioppkannlaa
end
