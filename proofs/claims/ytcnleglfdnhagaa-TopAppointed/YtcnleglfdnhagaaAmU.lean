/-
  Steps after which the memory is known by what its blocks hold, not by its text.
-/
import Derived.Test.YtcnleglfdnhagaaAmT
namespace Go.Am
open Go
/-- One block was made, the others are as they were. -/
structure MNew (H H' : Heap) (k : Blk) : Prop where
  len : H'.length = H.length + 1
  new : hget H' H.length = some k
  old : ∀ b, b < H.length → hget H' b = hget H b
/-- One block was written. -/
structure MWrote (H : Heap) (b : Nat) (H' : Heap) (k : Blk) : Prop where
  len : H'.length = H.length
  new : hget H' b = some k
  old : ∀ c, c ≠ b → hget H' c = hget H c
/-- One block was made in place of another one. -/
structure MGrew (H : Heap) (b : Nat) (H' : Heap) (k : Blk) : Prop where
  len : H'.length = H.length + 1
  new : hget H' H.length = some k
  old : ∀ c, c ≠ b → c < H.length → hget H' c = hget H c
theorem MNew.of (H : Heap) (k : Blk) : MNew H (H ++ [some k]) k := ⟨by simp, by simp [hget], fun b hb => hget_low _ _ _ hb⟩
theorem MWrote.of (H : Heap) {b : Nat} (k : Blk) (hb : b < H.length) : MWrote H b (hset H b (some k)) k :=
  ⟨by simp [hset], by simp [hget, hset, hb], fun c hc => by simp [hget, hset, Ne.symm hc]⟩
theorem MGrew.of (H : Heap) (b : Nat) (k : Blk) : MGrew H b (hset H b none ++ [some k]) k :=
  ⟨by simp [hset], by simp [hget, hset], fun c hc hl => by
    rw [hget_low _ _ _ (by simpa [hset] using hl)]
    simp [hget, hset, Ne.symm hc]⟩
theorem MGrew.ofNew {H H' : Heap} {k : Blk} (b : Nat) (h : MNew H H' k) : MGrew H b H' k := ⟨h.len, h.new, fun c _ hl => h.old c hl⟩
section
variable {S : Sig} {lim : Nat} {ops : Array Oper} {l : List Oper} {e : Env} {H : Heap} {K : Env → Heap → Prop} {d : Option Tmp} {ty : TypeId} {pos : String} {af : Array Edge}
theorem A_alloc {t : TypeId} {z : List Value} (hz : (tyOf S.P t).bind (fun ty => ty.zero) = some z) (hk : ∀ H', MNew H H' (z.map .v) → Rp S lim ops l (e.put d (.ptr H.length 0)) H' K) : Rp S lim ops (⟨d, .alloc t, ty, pos, af, none⟩ :: l) e H K :=
  R_alloc hz rfl rfl (hk _ (MNew.of _ _))
theorem A_box {t : TypeId} {x : Operand} {c : List AV} (ht : (tyOf S.P t).isSome = true) (hc : cellsOf (evO e x) = some c) (hk : ∀ H', MNew H H' c → Rp S lim ops l (e.put d (.ptr H.length 0)) H' K) : Rp S lim ops (⟨d, .box t x, ty, pos, af, none⟩ :: l) e H K :=
  R_box ht hc rfl rfl (hk _ (MNew.of _ _))
theorem A_store {t : TypeId} {tyy : Ty} {a x : Operand} {b o : Nat} {c : List AV} {k : Blk} (ht : tyOf S.P t = some tyy) (ha : evO e a = .ptr b o) (hc : cellsOf (evO e x) = some c) (hb : hget H b = some k) (hl : lim ≤ b ∧ c.length = tyy.size ∧ o + tyy.size ≤ k.length) {k' : Blk} (hk' : setL k o c = k')
    (hk : ∀ H', MWrote H b H' k' → Rp S lim ops l (e.put d (.v undef)) H' K) : Rp S lim ops (⟨d, .store t a x, ty, pos, af, none⟩ :: l) e H K :=
  R_store ht ha hc hb hl hk' rfl (hk _ (MWrote.of _ _ (hget_lt hb)))
theorem A_append {x y : Operand} {t : TypeId} {r : AV} {b : Nat} {k : Blk} (h : ∃ H', appendV S.P lim H t (evO e x) (evO e y) = some (r, H') ∧ MGrew H b H' k) (hk : ∀ H', MGrew H b H' k → Rp S lim ops l (e.put d r) H' K) :
    Rp S lim ops (⟨d, .call ⟨.builtin .append, #[x, y], #[t, t]⟩, ty, pos, af, none⟩ :: l) e H K := by
  obtain ⟨H', h1, h2⟩ := h
  exact R_append h1 (hk _ h2)
theorem A_buildSlice {t : TypeId} {n : Nat} {parts : Array (Nat × Operand)} {r : AV} {k : Blk} (h : effV S.P lim (.buildSlice t n parts) (evO e) H = some (r, H ++ [some k])) (hk : ∀ H', MNew H H' k → Rp S lim ops l (e.put d r) H' K) : Rp S lim ops (⟨d, .buildSlice t n parts, ty, pos, af, none⟩ :: l) e H K :=
  R_buildSlice h (hk _ (MNew.of _ _))
theorem A_makeSlice {t : TypeId} {n c : Operand} {r : AV} {k : Blk} (h : effV S.P lim (.makeSlice t n c) (evO e) H = some (r, H ++ [some k])) (hk : ∀ H', MNew H H' k → Rp S lim ops l (e.put d r) H' K) : Rp S lim ops (⟨d, .makeSlice t n c, ty, pos, af, none⟩ :: l) e H K :=
  R_makeSlice h (hk _ (MNew.of _ _))
theorem Rp_env {e' : Env} (h : e = e') (hk : Rp S lim ops l e' H K) : Rp S lim ops l e H K := h ▸ hk
end
theorem wrC_store {R : List Nat} {d : Option Tmp} {ty : TypeId} {pos : String} {af : Array Edge} {g : Option (Nat × Bool)} {t : TypeId} {a x : Operand} {e : Env} {b o : Nat} (h : evO e a = .ptr b o) (hb : b ∉ R) : wrC R ⟨d, .store t a x, ty, pos, af, g⟩ e = true := by
  simp only [wrC, wrV, h]
  simpa using hb
theorem rls2 {S : Sig} {lim : Nat} {dr : List (Nat × Draw)} {loc : Env} {H : Heap} {Q : Ex → St → Prop} {c : Code} {p : List Nat} {id : Nat} {ops : Array Oper} {lead m m2 fin live keep : List Nat} {ms : List (List Nat)} (h : at' c p = .region id ops true) (hd : dr.lookup id = some (.led lead (m :: m2 :: ms) fin live keep))
    (hw : Lp S ops H (fun e _ => Rp S H.length ops (pick ops m) e H (fun e1 H1 => Alts S ops live keep H.length e H e1 H1 (m2 :: ms) ∧
      Rp S lim ops (pick ops fin) (cutE ops live loc e1) (keepOnly keep H.length H1) fun e' H' => Q .normal ⟨trim e' loc, H'⟩)) (pick ops lead) loc []) : W S lim dr (at' c p) ⟨loc, H⟩ Q := by
  rw [h]
  obtain ⟨e, R, h1, hw⟩ := runLead_of_Lp _ _ _ hw
  obtain ⟨n1, e1', H1', h2, ha, hf⟩ := runOps_of_Rp _ _ _ _ hw
  obtain ⟨n2, h3⟩ := altsOK_of _ ha
  obtain ⟨n3, e3, H3, h4, hw⟩ := runOps_of_Rp _ _ _ _ hf
  refine ⟨max n1 (max n2 n3) + 1, .normal, ⟨trim e3 loc, H3⟩, ?_, hw⟩
  simp only [exec, region, if_true, hd, led, h1, runOps_mono (acall_mono S n1 (max n1 (max n2 n3) + 1) (by omega)) _ _ _ _ h2, altsOK_mono (acall_mono S n2 (max n1 (max n2 n3) + 1) (by omega)) _ h3, runOps_mono (acall_mono S n3 (max n1 (max n2 n3) + 1) (by omega)) _ _ _ _ h4, Option.map_some]
def AltsL (S : Sig) (lim : Nat) (ops : Array Oper) (R live keep : List Nat) (n0 : Nat) (e : Env) (H : Heap) (e0 : Env) (H0 : Heap) : List (List Nat) → Prop
  | [] => True
  | m :: ms => Mp S lim ops R (fun e1 H1 => SameUp n0 live keep e0 H0 e1 H1 ∧ lowEq n0 H0 H1) (pick ops m) e H ∧ AltsL S lim ops R live keep n0 e H e0 H0 ms
theorem altsL_of {S : Sig} {lim : Nat} {ops : Array Oper} {R live keep : List Nat} {n0 : Nat} {e : Env} {H : Heap} {e0 : Env} {H0 : Heap} : ∀ (ms : List (List Nat)), AltsL S lim ops R live keep n0 e H e0 H0 ms → ∃ n, altsL S.P (acall S n) lim ops R live keep n0 e H e0 H0 ms = true
  | [], _ => ⟨0, rfl⟩
  | m :: ms, h => by
    obtain ⟨n1, e1, H1, h1, h2⟩ := runMid_of_Mp _ _ _ h.1
    obtain ⟨n2, h3⟩ := altsL_of ms h.2
    refine ⟨max n1 n2, ?_⟩
    simp only [altsL, runMid_mono (acall_mono S n1 (max n1 n2) (by omega)) _ _ _ _ h1, altsL_mono (acall_mono S n2 (max n1 n2) (by omega)) _ h3, Bool.and_true, decide_eq_true_eq]
    exact h2
theorem rlsL {S : Sig} {lim : Nat} {dr : List (Nat × Draw)} {loc : Env} {H : Heap} {Q : Ex → St → Prop} {c : Code} {p : List Nat} {id : Nat} {ops : Array Oper} {lead m fin live keep : List Nat} {ms : List (List Nat)} (h : at' c p = .region id ops true) (hd : dr.lookup id = some (.ledL lead (m :: ms) fin live keep))
    (hw : Lp S ops H (fun e R => Mp S lim ops R (fun e1 H1 => AltsL S lim ops R live keep H.length e H e1 H1 ms ∧
      Rp S lim ops (pick ops fin) (cutE ops live loc e1) (keepP keep H.length H1) fun e' H' => Q .normal ⟨trim e' loc, H'⟩) (pick ops m) e H) (pick ops lead) loc []) : W S lim dr (at' c p) ⟨loc, H⟩ Q := by
  rw [h]
  obtain ⟨e, R, h1, hw⟩ := runLead_of_Lp _ _ _ hw
  obtain ⟨n1, e1', H1', h2, ha, hf⟩ := runMid_of_Mp _ _ _ hw
  obtain ⟨n2, h3⟩ := altsL_of _ ha
  obtain ⟨n3, e3, H3, h4, hw⟩ := runOps_of_Rp _ _ _ _ hf
  refine ⟨max n1 (max n2 n3) + 1, .normal, ⟨trim e3 loc, H3⟩, ?_, hw⟩
  simp only [exec, region, if_true, hd, ledL, h1, runMid_mono (acall_mono S n1 (max n1 (max n2 n3) + 1) (by omega)) _ _ _ _ h2]
  rw [if_pos (altsL_mono (acall_mono S n2 (max n1 (max n2 n3) + 1) (by omega)) _ h3)]
  simp only [runOps_mono (acall_mono S n3 (max n1 (max n2 n3) + 1) (by omega)) _ _ _ _ h4, Option.map_some]
theorem rls3 {S : Sig} {lim : Nat} {dr : List (Nat × Draw)} {loc : Env} {H : Heap} {Q : Ex → St → Prop} {c : Code} {p : List Nat} {id : Nat} {ops : Array Oper} {lead mid lead2 m m2 fin live keep : List Nat} {ms : List (List Nat)} (h : at' c p = .region id ops true) (hd : dr.lookup id = some (.led2 lead mid lead2 (m :: m2 :: ms) fin live keep))
    (hw : Lp S ops H (fun e R => Rp S H.length ops (pick ops mid) e H (fun e1 H1 => H1 = H ∧ Lp S ops H (fun e2 _ => Rp S H.length ops (pick ops m) e2 H (fun e3 H3 => Alts S ops live keep H.length e2 H e3 H3 (m2 :: ms) ∧
      Rp S lim ops (pick ops fin) (cutE ops live loc e3) (keepOnly keep H.length H3) fun e' H' => Q .normal ⟨trim e' loc, H'⟩)) (pick ops lead2) e1 R)) (pick ops lead) loc []) : W S lim dr (at' c p) ⟨loc, H⟩ Q := by
  rw [h]
  obtain ⟨e, R, h1, hw⟩ := runLead_of_Lp _ _ _ hw
  obtain ⟨n0, e1, H1, h2, rfl, hw⟩ := runOps_of_Rp _ _ _ _ hw
  obtain ⟨e2, R2, h3, hw⟩ := runLead_of_Lp _ _ _ hw
  obtain ⟨n1, e3, H3, h4, ha, hf⟩ := runOps_of_Rp _ _ _ _ hw
  obtain ⟨n2, h5⟩ := altsOK_of _ ha
  obtain ⟨n3, e4, H4, h6, hw⟩ := runOps_of_Rp _ _ _ _ hf
  refine ⟨max (max n0 n1) (max n2 n3) + 1, .normal, ⟨trim e4 loc, H4⟩, ?_, hw⟩
  simp only [exec, region, if_true, hd, led23, led2, h1, runOps_mono (acall_mono S n0 (max (max n0 n1) (max n2 n3) + 1) (by omega)) _ _ _ _ h2, h3, runOps_mono (acall_mono S n1 (max (max n0 n1) (max n2 n3) + 1) (by omega)) _ _ _ _ h4, altsOK_mono (acall_mono S n2 (max (max n0 n1) (max n2 n3) + 1) (by omega)) _ h5, runOps_mono (acall_mono S n3 (max (max n0 n1) (max n2 n3) + 1) (by omega)) _ _ _ _ h6, Option.map_some]
theorem rl3 {S : Sig} {lim : Nat} {dr : List (Nat × Draw)} {loc : Env} {H : Heap} {Q : Ex → St → Prop} {c : Code} {p : List Nat} {id : Nat} {ops : Array Oper} {lead mid lead2 m fin live keep : List Nat} (h : at' c p = .region id ops true) (hd : dr.lookup id = some (.led2 lead mid lead2 [m] fin live keep)) (hm0 : ¬ mid = [])
    (hw : Lp S ops H (fun e R => Mp S lim ops R (fun e1 H1 => Lp S ops H1 (fun e2 R2 => Mp S lim ops R2 (fun e3 H3 => Rp S lim ops (pick ops fin) e3 H3 fun e' H' => Q .normal ⟨trim e' loc, H'⟩) (pick ops m) e2 H1) (pick ops lead2) e1 []) (pick ops mid) e H) (pick ops lead) loc []) : W S lim dr (at' c p) ⟨loc, H⟩ Q := by
  rw [h]
  obtain ⟨e, R, h1, hw⟩ := runLead_of_Lp _ _ _ hw
  obtain ⟨n0, e1, H1, h2, hw⟩ := runMid_of_Mp _ _ _ hw
  obtain ⟨e2, R2, h3, hw⟩ := runLead_of_Lp _ _ _ hw
  obtain ⟨n2, e3, H3, h5, hf⟩ := runMid_of_Mp _ _ _ hw
  obtain ⟨n3, e4, H4, h6, hw⟩ := runOps_of_Rp _ _ _ _ hf
  refine ⟨max n0 (max n2 n3) + 1, .normal, ⟨trim e4 loc, H4⟩, ?_, hw⟩
  simp only [exec, region, if_true, hd, led23, if_neg hm0, led3, h1, runMid_mono (acall_mono S n0 (max n0 (max n2 n3) + 1) (by omega)) _ _ _ _ h2, h3, runMid_mono (acall_mono S n2 (max n0 (max n2 n3) + 1) (by omega)) _ _ _ _ h5, runOps_mono (acall_mono S n3 (max n0 (max n2 n3) + 1) (by omega)) _ _ _ _ h6, Option.map_some]
theorem rl4 {S : Sig} {lim : Nat} {dr : List (Nat × Draw)} {loc : Env} {H : Heap} {Q : Ex → St → Prop} {c : Code} {p : List Nat} {id : Nat} {ops : Array Oper} {lead lead2 m fin live keep : List Nat} (h : at' c p = .region id ops true) (hd : dr.lookup id = some (.led2 lead [] lead2 [m] fin live keep))
    (hw : Lp S ops H (fun e R => Lp S ops H (fun e2 _ => Mp S lim ops R (fun e3 H3 => Rp S lim ops (pick ops fin) e3 H3 fun e' H' => Q .normal ⟨trim e' loc, H'⟩) (pick ops m) e2 H) (pick ops lead2) e R) (pick ops lead) loc []) : W S lim dr (at' c p) ⟨loc, H⟩ Q := by
  rw [h]
  obtain ⟨e, R, h1, hw⟩ := runLead_of_Lp _ _ _ hw
  obtain ⟨e2, R2, h3, hw⟩ := runLead_of_Lp _ _ _ hw
  obtain ⟨n2, e3, H3, h5, hf⟩ := runMid_of_Mp _ _ _ hw
  obtain ⟨n3, e4, H4, h6, hw⟩ := runOps_of_Rp _ _ _ _ hf
  refine ⟨max n2 n3 + 1, .normal, ⟨trim e4 loc, H4⟩, ?_, hw⟩
  simp only [exec, region, if_true, hd, led23, led4, h1, h3, runMid_mono (acall_mono S n2 (max n2 n3 + 1) (by omega)) _ _ _ _ h5, runOps_mono (acall_mono S n3 (max n2 n3 + 1) (by omega)) _ _ _ _ h6, Option.map_some]
/-- Two blocks that are made in either order. -/
theorem two_same {H : Heap} {live : List Nat} {e0 e1 : Env} {A B : Blk} (hA : ∀ f, A.map (ren f 8) = A) (hB : ∀ f, B.map (ren f 8) = B)
    (hl : ∀ t ∈ live, (ren (rnB H.length [1, 0]) 8 (e1.get t)) = e0.get t) : SameUp H.length live [0, 1] e0 (H ++ [some A] ++ [some B]) e1 (H ++ [some B] ++ [some A]) := by
  refine ⟨[1, 0], by simp, by simp, by simp, by decide, by decide, by decide, hl, ?_⟩
  intro k hk
  simp only [List.mem_cons, List.not_mem_nil, or_false] at hk
  rcases hk with rfl | rfl
  · simp [hget, hA]
  · simp [hget, hB]
theorem two_id {H : Heap} {live : List Nat} {e0 e1 : Env} {A B : Blk} (hA : ∀ f, A.map (ren f 8) = A) (hB : ∀ f, B.map (ren f 8) = B)
    (hl : ∀ t ∈ live, (ren (rnB H.length [0, 1]) 8 (e1.get t)) = e0.get t) : SameUp H.length live [0, 1] e0 (H ++ [some A] ++ [some B]) e1 (H ++ [some A] ++ [some B]) := by
  refine ⟨[0, 1], by simp, by simp, by simp, by decide, by decide, by decide, hl, ?_⟩
  intro k hk
  simp only [List.mem_cons, List.not_mem_nil, or_false] at hk
  rcases hk with rfl | rfl
  · simp [hget, hA]
  · simp [hget, hB]
theorem keep_two (H : Heap) (A B : Option Blk) : keepOnly [0, 1] H.length (H ++ [A] ++ [B]) = H ++ [A] ++ [B] := by
  unfold keepOnly
  apply List.ext_getElem?
  intro i
  rw [List.getElem?_mapIdx]
  by_cases h : i < H.length
  · simp [h]
  · by_cases h2 : i < (H ++ [A] ++ [B]).length
    · have : i - H.length = 0 ∨ i - H.length = 1 := by simp at h2; omega
      rcases this with h3 | h3 <;> simp [h3]
    · rw [List.getElem?_eq_none (by omega)]; rfl
end Go.Am
