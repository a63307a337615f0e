/-
  The abstract machine: the simp set of its steps.
-/
import Derived.Test.YtcnleglfdnhagaaAmL
import Derived.Attr
namespace Go.Am
open Go
attribute [go_sem] get_cons get_nil getD_cons getD_nil put_some put_none ev_tmp ev_int ev_bool ev_str ev_nil ev_func ev_agg
  max2_int min2_int bin_add bin_sub bin_mul bin_eql bin_neq bin_lss bin_leq bin_gtr bin_geq un_not un_neg
  q_load q_move q_assign q_binOp q_unOp q_pick q_build q_nilCheck q_convert q_makeFunc q_slice q_fieldAddr q_field q_indexAddr q_index q_extract q_len q_max q_min q_max3
  hget_app hset_app frz_v frz_tup frz_agg frz_sl res_nil res_tmp res_cell one_one one_two
  cells_sl cells_own cells_ptr cells_clo cells_agg st_v st_int st_bool st_string st_slice st_sl st_own st_ptr st_clo
/-- What a list holds at a place. -/
def gt {α : Type} [Inhabited α] (l : List α) (i : Nat) : α := l.getD i default
theorem gt_eq {α : Type} [Inhabited α] (l : List α) (i : Nat) (h : i < l.length) : gt l i = l[i] := by simp [gt, List.getD_eq_getElem?_getD, h]
theorem all_step {P : Nat → Prop} {u : Nat} (h : ∀ i, i < u → P i) (hu : P u) : ∀ i, i < u + 1 → P i := by
  intro i hi
  by_cases h1 : i < u
  · exact h i h1
  · have : i = u := by omega
    subst this; exact hu
theorem gt_set {α : Type} [Inhabited α] (l : List α) (i j : Nat) (x : α) (h : i < l.length) : gt (l.set i x) j = if i = j then x else gt l j := by
  simp only [gt, List.getD_eq_getElem?_getD, List.getElem?_set]
  by_cases hij : i = j
  · subst hij; simp [h]
  · simp [hij]
theorem ext_gt {α : Type} [Inhabited α] {l m : List α} (h : l.length = m.length) (hg : ∀ i, i < l.length → gt l i = gt m i) : l = m := by
  apply List.ext_getElem h
  intro i h1 h2
  rw [← gt_eq l i h1, ← gt_eq m i h2]; exact hg i h1
theorem drop_gt {α : Type} [Inhabited α] (l : List α) (i : Nat) (h : i < l.length) : l.drop i = gt l i :: l.drop (i + 1) := by rw [gt_eq l i h]; exact List.drop_eq_getElem_cons h
section
variable (P : Program)
theorem bin_quo' (t : TypeId) (k : IntKind) (a b : Int) (h : 0 ≤ a) (hb : 0 < b) : binV P .quo t (.v (.int k a)) (.v (.int k b)) = some (.v (.int k (k.wrap (a / b)))) := by
  rw [bin_quo, if_neg (by omega), Int.tdiv_eq_ediv_of_nonneg h]
theorem bin_rem' (t : TypeId) (k : IntKind) (a b : Int) (h : 0 ≤ a) (hb : 0 < b) : binV P .rem t (.v (.int k a)) (.v (.int k b)) = some (.v (.int k (a % b))) := by
  rw [bin_rem, if_neg (by omega), Int.tmod_eq_emod_of_nonneg h]
theorem wr_i64 (n : Int) (h : -9223372036854775808 ≤ n) (h' : n ≤ 9223372036854775807) : IntKind.i64.wrap n = n := wrap_i64 n ⟨h, h'⟩
theorem wr_u64 (n : Int) (h : 0 ≤ n) (h' : n ≤ 18446744073709551615) : IntKind.u64.wrap n = n := wrap_u64 n ⟨h, h'⟩
theorem wr_u8 (n : Int) (h : 0 ≤ n) (h' : n ≤ 255) : IntKind.u8.wrap n = n := wrap_u8 n ⟨h, h'⟩
theorem nat_get {α : Type} [Inhabited α] (f : α → AV) (l : List α) (i : Nat) (h : i < l.length) : (l.map f)[i]? = some (f (gt l i)) := by
  simp [gt, List.getD_eq_getElem?_getD, h]
theorem nat_get1 {α : Type} [Inhabited α] (f : α → AV) (l : List α) (i : Nat) (h : i < l.length) : ((l.map f).drop i).take 1 = [f (gt l i)] := by
  rw [List.take_one, List.head?_drop, nat_get f l i h]; rfl
theorem hget_low (H X : Heap) (b : Nat) (h : b < H.length) : hget (H ++ X) b = hget H b := by simp [hget, List.getElem?_append_left h]
theorem hset_low (H X : Heap) (b : Nat) (x : Option Blk) (h : b < H.length) : hset (H ++ X) b x = hset H b x ++ X := by simp [hset, List.set_append_left _ _ h]
theorem setL_one (l : List AV) (o : Nat) (x : AV) : setL l o [x] = l.set o x := rfl
theorem hget_lt {H : Heap} {b : Nat} {k : Blk} (h : hget H b = some k) : b < H.length := by
  by_cases hb : b < H.length
  · exact hb
  · rw [hget, List.getElem?_eq_none (by omega)] at h; cases h
theorem take1 {α : Type} (a : α) (l : List α) : (a :: l).take 1 = [a] := rfl
theorem toNat_nat (u : Nat) : Int.toNat (u : Int) = u := rfl
theorem toNat_add (u k : Nat) : Int.toNat ((u : Int) + (k : Int)) = u + k := rfl
theorem toNat_succ (u : Nat) : Int.toNat ((u : Int) + 1) = u + 1 := rfl
theorem toNat_zero : Int.toNat 0 = 0 := rfl
theorem toNat_pred (u : Nat) (h : 0 < u) : Int.toNat ((u : Int) - 1) = u - 1 := by omega
theorem toNat_pred2 (u : Nat) (h : 2 ≤ u) : Int.toNat ((u : Int) - 2) = u - 2 := by omega
theorem opt_one {α β : Type} (x : α) (f : α → β) : Option.map f (some x) = some (f x) := rfl
theorem cells_i (k : IntKind) (n : Int) : cellsOf (.v (.int k n)) = some [.v (.int k n)] := rfl
theorem cells_b (b : Bool) : cellsOf (.v (.bool b)) = some [.v (.bool b)] := rfl
theorem cells_n : cellsOf (.v (.slice none 0 0)) = some [.v (.slice none 0 0)] := rfl
end
attribute [go_sem] bin_quo' bin_rem' wr_i64 wr_u64 wr_u8 toNat_nat toNat_succ toNat_zero toNat_pred toNat_pred2 Nat.mul_one Nat.zero_add Nat.add_zero Nat.one_mul opt_one cells_i cells_b cells_n take1 Option.bind_some Bool.not_true Bool.not_false nat_get nat_get1 hget_low hset_low setL_one List.set_cons_zero List.set_cons_succ List.getElem?_cons_zero List.getElem?_cons_succ List.length_map List.all_cons List.all_nil Bool.and_true Bool.and_self List.map_cons List.map_nil List.drop_zero List.length_cons List.length_nil
end Go.Am
namespace Go.Am
open Go
/-! ### The steps with their side goals filled in -/
section
variable {S : Sig} {lim : Nat} {ops : Array Oper} {l : List Oper} {e : Env} {H : Heap} {d : Option Tmp} {op : Op} {ty : TypeId} {pos : String} {af : Array Edge}
theorem Rq {K : Env → Heap → Prop} {r : AV} (hk : Rp S lim ops l (e.put d r) H K) (hq : isQ op = true := by rfl)
    (h : qV S.P H op e = some r := by simp (disch := first | omega | (simp only [List.length_map, List.length_append, List.length_set, List.length_cons, List.length_nil, List.length_take, List.length_drop]; omega)) only [go_sem, ↓reduceIte, Nat.reduceEqDiff, reduceCtorEq]; rfl) :
    Rp S lim ops (⟨d, op, ty, pos, af, none⟩ :: l) e H K := R_q hq h hk
theorem Qq {K : Env → Prop} {r : AV} (hk : Qp S ops l (e.put d r) H K) (hq : isQ op = true := by rfl)
    (h : qV S.P H op e = some r := by simp (disch := first | omega | (simp only [List.length_map, List.length_append, List.length_set, List.length_cons, List.length_nil, List.length_take, List.length_drop]; omega)) only [go_sem, ↓reduceIte, Nat.reduceEqDiff, reduceCtorEq]; rfl) :
    Qp S ops (⟨d, op, ty, pos, af, none⟩ :: l) e H K := Q_q hq h hk
theorem Lq {R R' : List Nat} {K : Env → List Nat → Prop} {r : AV} (hk : Lp S ops H K l (e.put d r) R') (hq : isQ op = true := by rfl)
    (h : qV S.P H op e = some r := by simp (disch := first | omega | (simp only [List.length_map, List.length_append, List.length_set, List.length_cons, List.length_nil, List.length_take, List.length_drop]; omega)) only [go_sem, ↓reduceIte, Nat.reduceEqDiff, reduceCtorEq]; rfl) (hr : rdV op e ++ R = R' := by rfl) :
    Lp S ops H K (⟨d, op, ty, pos, af, none⟩ :: l) e R := L_q hq h hr hk
theorem Ly {R : List Nat} {K : Env → List Nat → Prop} {j t : Nat} {want : Bool} (hy : Lp S ops H K (⟨d, op, ty, pos, af, none⟩ :: l) e R) (hj : (ops[j]?).bind (·.dst) = some t := by rfl)
    (hb : e.get t = .v (.bool want) := by simp only [go_sem, ↓reduceIte, Nat.reduceEqDiff]) : Lp S ops H K (⟨d, op, ty, pos, af, some (j, want)⟩ :: l) e R := L_yes hj hb rfl hy
theorem Ln {R : List Nat} {K : Env → List Nat → Prop} {j t : Nat} {want : Bool} (hy : Lp S ops H K l (e.put d (.v undef)) R) (hj : (ops[j]?).bind (·.dst) = some t := by rfl)
    (hb : e.get t = .v (.bool (!want)) := by simp only [go_sem, ↓reduceIte, Nat.reduceEqDiff, Bool.not_true, Bool.not_false]) : Lp S ops H K (⟨d, op, ty, pos, af, some (j, want)⟩ :: l) e R := L_no hj hb rfl hy
theorem Lu {R : List Nat} {K : Env → List Nat → Prop} {j t : Nat} {want : Bool} (hy : Lp S ops H K l (e.put d (.v undef)) R) (hj : (ops[j]?).bind (·.dst) = some t := by rfl)
    (hb : e.get t = .v undef := by simp only [go_sem, ↓reduceIte, Nat.reduceEqDiff]) : Lp S ops H K (⟨d, op, ty, pos, af, some (j, want)⟩ :: l) e R := L_un hj hb hy
theorem Ms {R : List Nat} {K : Env → Heap → Prop} {o : Oper} {l : List Oper} (h : Rp S lim ops [o] e H fun e' H' => Mp S lim ops R K l e' H') (hc : wrC R o e = true := by rfl) (hn : isCallO o = false := by rfl) : Mp S lim ops R K (o :: l) e H := M_step hc hn h
/-- A call in the middle: it leaves the blocks that were read as they were. -/
theorem Mc {R : List Nat} {K : Env → Heap → Prop} {o : Oper} {l : List Oper} (h : Rp S lim ops [o] e H fun e' H' => stay R H H' ∧ Mp S lim ops R K l e' H') (hc : wrC R o e = true := by rfl) : Mp S lim ops R K (o :: l) e H := M_call hc h
theorem Ry {K : Env → Heap → Prop} {j t : Nat} {want : Bool} (hy : Rp S lim ops (⟨d, op, ty, pos, af, none⟩ :: l) e H K) (hj : (ops[j]?).bind (·.dst) = some t := by rfl)
    (hb : e.get t = .v (.bool want) := by simp only [go_sem, ↓reduceIte, Nat.reduceEqDiff]) : Rp S lim ops (⟨d, op, ty, pos, af, some (j, want)⟩ :: l) e H K := R_yes hj hb rfl hy
theorem Rn {K : Env → Heap → Prop} {j t : Nat} {want : Bool} (hy : Rp S lim ops l (e.put d (.v undef)) H K) (hj : (ops[j]?).bind (·.dst) = some t := by rfl)
    (hb : e.get t = .v (.bool (!want)) := by simp only [go_sem, ↓reduceIte, Nat.reduceEqDiff, Bool.not_true, Bool.not_false]) : Rp S lim ops (⟨d, op, ty, pos, af, some (j, want)⟩ :: l) e H K := R_no hj hb rfl hy
theorem Ru {K : Env → Heap → Prop} {j t : Nat} {want : Bool} (hy : Rp S lim ops l (e.put d (.v undef)) H K) (hj : (ops[j]?).bind (·.dst) = some t := by rfl)
    (hb : e.get t = .v undef := by simp only [go_sem, ↓reduceIte, Nat.reduceEqDiff]) : Rp S lim ops (⟨d, op, ty, pos, af, some (j, want)⟩ :: l) e H K := R_un hj hb hy
theorem Qy {K : Env → Prop} {j t : Nat} {want : Bool} (hy : Qp S ops (⟨d, op, ty, pos, af, none⟩ :: l) e H K) (hj : (ops[j]?).bind (·.dst) = some t := by rfl)
    (hb : e.get t = .v (.bool want) := by simp only [go_sem, ↓reduceIte, Nat.reduceEqDiff]) : Qp S ops (⟨d, op, ty, pos, af, some (j, want)⟩ :: l) e H K := Q_yes hj hb rfl hy
theorem Qn {K : Env → Prop} {j t : Nat} {want : Bool} (hy : Qp S ops l (e.put d (.v undef)) H K) (hj : (ops[j]?).bind (·.dst) = some t := by rfl)
    (hb : e.get t = .v (.bool (!want)) := by simp only [go_sem, ↓reduceIte, Nat.reduceEqDiff, Bool.not_true, Bool.not_false]) : Qp S ops (⟨d, op, ty, pos, af, some (j, want)⟩ :: l) e H K := Q_no hj hb rfl hy
theorem Qu {K : Env → Prop} {j t : Nat} {want : Bool} (hy : Qp S ops l (e.put d (.v undef)) H K) (hj : (ops[j]?).bind (·.dst) = some t := by rfl)
    (hb : e.get t = .v undef := by simp only [go_sem, ↓reduceIte, Nat.reduceEqDiff]) : Qp S ops (⟨d, op, ty, pos, af, some (j, want)⟩ :: l) e H K := Q_un hj hb hy
theorem Rcall {K : Env → Heap → Prop} {f : FuncId} {args : Array Operand} {ts : Array TypeId} {vs : List AV} (hk : ACall S lim f vs H fun x H' => Rp S lim ops l (e.put d x) H' K)
    (h : args.toList.map (evO e) = vs := by simp only [List.map_cons, List.map_nil, go_sem, ↓reduceIte, Nat.reduceEqDiff]; rfl) :
    Rp S lim ops (⟨d, .call ⟨.value (.func f), args, ts⟩, ty, pos, af, none⟩ :: l) e H K := R_call h hk
theorem Qcall {K : Env → Prop} {f : FuncId} {args : Array Operand} {ts : Array TypeId} {vs : List AV} (hk : ACall S H.length f vs H fun x _ => exacts x = true ∧ Qp S ops l (e.put d x) H K) (hp : S.own f = false := by rfl)
    (h : args.toList.map (evO e) = vs := by simp only [List.map_cons, List.map_nil, go_sem, ↓reduceIte, Nat.reduceEqDiff]; rfl) :
    Qp S ops (⟨d, .call ⟨.value (.func f), args, ts⟩, ty, pos, af, none⟩ :: l) e H K := Q_call hp h hk
variable {dr : List (Nat × Draw)} {loc : Env} {Q : Ex → St → Prop} {c : Code} {p : List Nat}
theorem cdd {o : Operand} {t : Bool} (h1 : t = true → W S lim dr (at' c (0 :: p)) ⟨loc, H⟩ Q) (h2 : t = false → W S lim dr (at' c (1 :: p)) ⟨loc, H⟩ Q) (h : at' c p = .cond o (at' c (0 :: p)) (at' c (1 :: p)) := by rfl)
    (hc : evO loc o = .v (.bool t) := by simp only [go_sem, ↓reduceIte, Nat.reduceEqDiff]; rfl) : W S lim dr (at' c p) ⟨loc, H⟩ Q := cd h hc h1 h2
theorem cdt {o : Operand} (h1 : W S lim dr (at' c (0 :: p)) ⟨loc, H⟩ Q) (h : at' c p = .cond o (at' c (0 :: p)) (at' c (1 :: p)) := by rfl) (hc : evO loc o = .v (.bool true) := by simp only [go_sem, ↓reduceIte, Nat.reduceEqDiff]) : W S lim dr (at' c p) ⟨loc, H⟩ Q := cd_t h hc h1
theorem cdf {o : Operand} (h1 : W S lim dr (at' c (1 :: p)) ⟨loc, H⟩ Q) (h : at' c p = .cond o (at' c (0 :: p)) (at' c (1 :: p)) := by rfl) (hc : evO loc o = .v (.bool false) := by simp only [go_sem, ↓reduceIte, Nat.reduceEqDiff]) : W S lim dr (at' c p) ⟨loc, H⟩ Q := cd_f h hc h1
theorem bin_prem {t : Bool} {p : Prop} (h : t = true) (h' : (t = true) = p) : p := h' ▸ h
theorem fpure {fa : FnA} {H0 : Heap} {K : AV → Heap → Prop} {s : St} {l : List AV} {v : AV} (hk : K v H0) (hl : resAll S.P s.loc s.H fa.fn.results.toList = some l := by simp only [go_sem, ↓reduceIte, Nat.reduceEqDiff]; rfl)
    (hv : frz s.H H0.length 8 (oneOr l) = v := by simp only [go_sem, ↓reduceIte, Nat.reduceEqDiff]; rfl) : retP S false fa H0 K .ret s := fin_pure rfl hl hv hk
end
end Go.Am
