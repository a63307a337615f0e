/-
  Texts of PointsAny, part 6 of 13. The abstract machine: the simp set of its steps.
-/
import Derived.Test.YtfnapmdedmbdbaaDoorKPointsAny4
import Derived.Attr
import Derived.Test.YtfnapmdedmbdbaaDoorKPointsAny3
import Derived.Shelf.SlSortCmp.InsertionK
section
namespace Go.Am
open Go
attribute [go_sem] get_cons get_nil getD_cons getD_nil put_some put_none ev_tmp ev_int ev_bool ev_str ev_nil ev_func ev_agg
  max2_int min2_int bin_add bin_sub bin_mul bin_eql bin_neq bin_lss bin_leq bin_gtr bin_geq un_not un_neg
  q_load q_move q_assign q_binOp q_unOp q_pick q_build q_nilCheck q_convert q_makeFunc q_slice q_fieldAddr q_field q_indexAddr q_index q_extract q_len q_max q_min q_max3
  hget_app hset_app frz_v frz_tup frz_agg frz_sl res_nil res_tmp res_cell one_one one_two
  cells_sl cells_own cells_ptr cells_clo cells_agg st_v st_int st_bool st_string st_slice st_sl st_own st_ptr st_clo
/-- What a list holds at a place. -/
def gt {α : Type} [Inhabited α] (l : List α) (i : Nat) : α := l.getD i default
theorem gt_eq {α : Type} [Inhabited α] (l : List α) (i : Nat) (h : i < l.length) : gt l i = l[i] := by simp [gt, List.getD_eq_getElem?_getD, h]
theorem all_step {P : Nat → Prop} {u : Nat} (h : ∀ i, i < u → P i) (hu : P u) : ∀ i, i < u + 1 → P i := by
  intro i hi
  by_cases h1 : i < u
  · exact h i h1
  · have : i = u := by omega
    subst this; exact hu
theorem gt_set {α : Type} [Inhabited α] (l : List α) (i j : Nat) (x : α) (h : i < l.length) : gt (l.set i x) j = if i = j then x else gt l j := by
  simp only [gt, List.getD_eq_getElem?_getD, List.getElem?_set]
  by_cases hij : i = j
  · subst hij; simp [h]
  · simp [hij]
theorem ext_gt {α : Type} [Inhabited α] {l m : List α} (h : l.length = m.length) (hg : ∀ i, i < l.length → gt l i = gt m i) : l = m := by
  apply List.ext_getElem h
  intro i h1 h2
  rw [← gt_eq l i h1, ← gt_eq m i h2]; exact hg i h1
theorem drop_gt {α : Type} [Inhabited α] (l : List α) (i : Nat) (h : i < l.length) : l.drop i = gt l i :: l.drop (i + 1) := by rw [gt_eq l i h]; exact List.drop_eq_getElem_cons h
section
variable (P : Program)
theorem bin_quo' (t : TypeId) (k : IntKind) (a b : Int) (h : 0 ≤ a) (hb : 0 < b) : binV P .quo t (.v (.int k a)) (.v (.int k b)) = some (.v (.int k (k.wrap (a / b)))) := by
  rw [bin_quo, if_neg (by omega), Int.tdiv_eq_ediv_of_nonneg h]
theorem bin_rem' (t : TypeId) (k : IntKind) (a b : Int) (h : 0 ≤ a) (hb : 0 < b) : binV P .rem t (.v (.int k a)) (.v (.int k b)) = some (.v (.int k (a % b))) := by
  rw [bin_rem, if_neg (by omega), Int.tmod_eq_emod_of_nonneg h]
theorem wr_i64 (n : Int) (h : -9223372036854775808 ≤ n) (h' : n ≤ 9223372036854775807) : IntKind.i64.wrap n = n := wrap_i64 n ⟨h, h'⟩
theorem wr_u64 (n : Int) (h : 0 ≤ n) (h' : n ≤ 18446744073709551615) : IntKind.u64.wrap n = n := wrap_u64 n ⟨h, h'⟩
theorem wr_u8 (n : Int) (h : 0 ≤ n) (h' : n ≤ 255) : IntKind.u8.wrap n = n := wrap_u8 n ⟨h, h'⟩
theorem nat_get {α : Type} [Inhabited α] (f : α → AV) (l : List α) (i : Nat) (h : i < l.length) : (l.map f)[i]? = some (f (gt l i)) := by
  simp [gt, List.getD_eq_getElem?_getD, h]
theorem nat_get1 {α : Type} [Inhabited α] (f : α → AV) (l : List α) (i : Nat) (h : i < l.length) : ((l.map f).drop i).take 1 = [f (gt l i)] := by
  rw [List.take_one, List.head?_drop, nat_get f l i h]; rfl
theorem hget_low (H X : Heap) (b : Nat) (h : b < H.length) : hget (H ++ X) b = hget H b := by simp [hget, List.getElem?_append_left h]
theorem hset_low (H X : Heap) (b : Nat) (x : Option Blk) (h : b < H.length) : hset (H ++ X) b x = hset H b x ++ X := by simp [hset, List.set_append_left _ _ h]
theorem setL_one (l : List AV) (o : Nat) (x : AV) : setL l o [x] = l.set o x := rfl
theorem take1 {α : Type} (a : α) (l : List α) : (a :: l).take 1 = [a] := rfl
theorem toNat_nat (u : Nat) : Int.toNat (u : Int) = u := rfl
theorem toNat_add (u k : Nat) : Int.toNat ((u : Int) + (k : Int)) = u + k := rfl
theorem toNat_succ (u : Nat) : Int.toNat ((u : Int) + 1) = u + 1 := rfl
theorem toNat_zero : Int.toNat 0 = 0 := rfl
theorem toNat_pred (u : Nat) (h : 0 < u) : Int.toNat ((u : Int) - 1) = u - 1 := by omega
theorem toNat_pred2 (u : Nat) (h : 2 ≤ u) : Int.toNat ((u : Int) - 2) = u - 2 := by omega
theorem opt_one {α β : Type} (x : α) (f : α → β) : Option.map f (some x) = some (f x) := rfl
theorem cells_i (k : IntKind) (n : Int) : cellsOf (.v (.int k n)) = some [.v (.int k n)] := rfl
theorem cells_b (b : Bool) : cellsOf (.v (.bool b)) = some [.v (.bool b)] := rfl
theorem cells_n : cellsOf (.v (.slice none 0 0)) = some [.v (.slice none 0 0)] := rfl
end
attribute [go_sem] bin_quo' bin_rem' wr_i64 wr_u64 wr_u8 toNat_nat toNat_succ toNat_zero toNat_pred toNat_pred2 Nat.mul_one Nat.zero_add Nat.add_zero Nat.one_mul opt_one cells_i cells_b cells_n take1 Option.bind_some Bool.not_true Bool.not_false nat_get nat_get1 hget_low hset_low setL_one List.set_cons_zero List.set_cons_succ List.getElem?_cons_zero List.getElem?_cons_succ List.length_map List.all_cons List.all_nil Bool.and_true Bool.and_self List.map_cons List.map_nil List.drop_zero List.length_cons List.length_nil
end Go.Am
namespace Go.Am
open Go
/-! ### The steps with their side goals filled in -/
section
variable {S : Sig} {lim : Nat} {ops : Array Oper} {l : List Oper} {e : Env} {H : Heap} {d : Option Tmp} {op : Op} {ty : TypeId} {pos : String} {af : Array Edge}
theorem Rq {K : Env → Heap → Prop} {r : AV} (hk : Rp S lim ops l (e.put d r) H K) (hq : isQ op = true := by rfl)
    (h : qV S.P H op e = some r := by simp (disch := first | omega | (simp only [List.length_map, List.length_append, List.length_set, List.length_cons, List.length_nil, List.length_take, List.length_drop]; omega)) only [go_sem, ↓reduceIte, Nat.reduceEqDiff, reduceCtorEq] <;> rfl) :
    Rp S lim ops (⟨d, op, ty, pos, af, none⟩ :: l) e H K := R_q hq h hk
theorem Qq {K : Env → Prop} {r : AV} (hk : Qp S ops l (e.put d r) H K) (hq : isQ op = true := by rfl)
    (h : qV S.P H op e = some r := by simp (disch := first | omega | (simp only [List.length_map, List.length_append, List.length_set, List.length_cons, List.length_nil, List.length_take, List.length_drop]; omega)) only [go_sem, ↓reduceIte, Nat.reduceEqDiff, reduceCtorEq] <;> rfl) :
    Qp S ops (⟨d, op, ty, pos, af, none⟩ :: l) e H K := Q_q hq h hk
theorem Lq {R R' : List Nat} {K : Env → List Nat → Prop} {r : AV} (hk : Lp S ops H K l (e.put d r) R') (hq : isQ op = true := by rfl)
    (h : qV S.P H op e = some r := by simp (disch := first | omega | (simp only [List.length_map, List.length_append, List.length_set, List.length_cons, List.length_nil, List.length_take, List.length_drop]; omega)) only [go_sem, ↓reduceIte, Nat.reduceEqDiff, reduceCtorEq] <;> rfl) (hr : rdV op e ++ R = R' := by rfl) :
    Lp S ops H K (⟨d, op, ty, pos, af, none⟩ :: l) e R := L_q hq h hr hk
theorem Ly {R : List Nat} {K : Env → List Nat → Prop} {j t : Nat} {want : Bool} (hy : Lp S ops H K (⟨d, op, ty, pos, af, none⟩ :: l) e R) (hj : (ops[j]?).bind (·.dst) = some t := by rfl)
    (hb : e.get t = .v (.bool want) := by simp only [go_sem, ↓reduceIte, Nat.reduceEqDiff]) : Lp S ops H K (⟨d, op, ty, pos, af, some (j, want)⟩ :: l) e R := L_yes hj hb rfl hy
theorem Ln {R : List Nat} {K : Env → List Nat → Prop} {j t : Nat} {want : Bool} (hy : Lp S ops H K l (e.put d (.v undef)) R) (hj : (ops[j]?).bind (·.dst) = some t := by rfl)
    (hb : e.get t = .v (.bool (!want)) := by simp only [go_sem, ↓reduceIte, Nat.reduceEqDiff, Bool.not_true, Bool.not_false]) : Lp S ops H K (⟨d, op, ty, pos, af, some (j, want)⟩ :: l) e R := L_no hj hb rfl hy
theorem Lu {R : List Nat} {K : Env → List Nat → Prop} {j t : Nat} {want : Bool} (hy : Lp S ops H K l (e.put d (.v undef)) R) (hj : (ops[j]?).bind (·.dst) = some t := by rfl)
    (hb : e.get t = .v undef := by simp only [go_sem, ↓reduceIte, Nat.reduceEqDiff]) : Lp S ops H K (⟨d, op, ty, pos, af, some (j, want)⟩ :: l) e R := L_un hj hb hy
theorem Ms {R : List Nat} {K : Env → Heap → Prop} {o : Oper} {l : List Oper} (h : Rp S lim ops [o] e H fun e' H' => Mp S lim ops R K l e' H') (hc : wrC R o e = true := by rfl) : Mp S lim ops R K (o :: l) e H := M_step hc h
theorem Ry {K : Env → Heap → Prop} {j t : Nat} {want : Bool} (hy : Rp S lim ops (⟨d, op, ty, pos, af, none⟩ :: l) e H K) (hj : (ops[j]?).bind (·.dst) = some t := by rfl)
    (hb : e.get t = .v (.bool want) := by simp only [go_sem, ↓reduceIte, Nat.reduceEqDiff]) : Rp S lim ops (⟨d, op, ty, pos, af, some (j, want)⟩ :: l) e H K := R_yes hj hb rfl hy
theorem Rn {K : Env → Heap → Prop} {j t : Nat} {want : Bool} (hy : Rp S lim ops l (e.put d (.v undef)) H K) (hj : (ops[j]?).bind (·.dst) = some t := by rfl)
    (hb : e.get t = .v (.bool (!want)) := by simp only [go_sem, ↓reduceIte, Nat.reduceEqDiff, Bool.not_true, Bool.not_false]) : Rp S lim ops (⟨d, op, ty, pos, af, some (j, want)⟩ :: l) e H K := R_no hj hb rfl hy
theorem Ru {K : Env → Heap → Prop} {j t : Nat} {want : Bool} (hy : Rp S lim ops l (e.put d (.v undef)) H K) (hj : (ops[j]?).bind (·.dst) = some t := by rfl)
    (hb : e.get t = .v undef := by simp only [go_sem, ↓reduceIte, Nat.reduceEqDiff]) : Rp S lim ops (⟨d, op, ty, pos, af, some (j, want)⟩ :: l) e H K := R_un hj hb hy
theorem Qy {K : Env → Prop} {j t : Nat} {want : Bool} (hy : Qp S ops (⟨d, op, ty, pos, af, none⟩ :: l) e H K) (hj : (ops[j]?).bind (·.dst) = some t := by rfl)
    (hb : e.get t = .v (.bool want) := by simp only [go_sem, ↓reduceIte, Nat.reduceEqDiff]) : Qp S ops (⟨d, op, ty, pos, af, some (j, want)⟩ :: l) e H K := Q_yes hj hb rfl hy
theorem Qn {K : Env → Prop} {j t : Nat} {want : Bool} (hy : Qp S ops l (e.put d (.v undef)) H K) (hj : (ops[j]?).bind (·.dst) = some t := by rfl)
    (hb : e.get t = .v (.bool (!want)) := by simp only [go_sem, ↓reduceIte, Nat.reduceEqDiff, Bool.not_true, Bool.not_false]) : Qp S ops (⟨d, op, ty, pos, af, some (j, want)⟩ :: l) e H K := Q_no hj hb rfl hy
theorem Qu {K : Env → Prop} {j t : Nat} {want : Bool} (hy : Qp S ops l (e.put d (.v undef)) H K) (hj : (ops[j]?).bind (·.dst) = some t := by rfl)
    (hb : e.get t = .v undef := by simp only [go_sem, ↓reduceIte, Nat.reduceEqDiff]) : Qp S ops (⟨d, op, ty, pos, af, some (j, want)⟩ :: l) e H K := Q_un hj hb hy
theorem Rcall {K : Env → Heap → Prop} {f : FuncId} {args : Array Operand} {ts : Array TypeId} {vs : List AV} (hk : ACall S lim f vs H fun x H' => Rp S lim ops l (e.put d x) H' K)
    (h : args.toList.map (evO e) = vs := by simp only [List.map_cons, List.map_nil, go_sem, ↓reduceIte, Nat.reduceEqDiff]; rfl) :
    Rp S lim ops (⟨d, .call ⟨.value (.func f), args, ts⟩, ty, pos, af, none⟩ :: l) e H K := R_call h hk
theorem Qcall {K : Env → Prop} {f : FuncId} {args : Array Operand} {ts : Array TypeId} {vs : List AV} (hk : ACall S H.length f vs H fun x _ => exacts x = true ∧ Qp S ops l (e.put d x) H K) (hp : S.own f = false := by rfl)
    (h : args.toList.map (evO e) = vs := by simp only [List.map_cons, List.map_nil, go_sem, ↓reduceIte, Nat.reduceEqDiff]; rfl) :
    Qp S ops (⟨d, .call ⟨.value (.func f), args, ts⟩, ty, pos, af, none⟩ :: l) e H K := Q_call hp h hk
variable {dr : List (Nat × Draw)} {loc : Env} {Q : Ex → St → Prop} {c : Code} {p : List Nat}
theorem cdd {o : Operand} {t : Bool} (h1 : t = true → W S lim dr (at' c (0 :: p)) ⟨loc, H⟩ Q) (h2 : t = false → W S lim dr (at' c (1 :: p)) ⟨loc, H⟩ Q) (h : at' c p = .cond o (at' c (0 :: p)) (at' c (1 :: p)) := by rfl)
    (hc : evO loc o = .v (.bool t) := by simp only [go_sem, ↓reduceIte, Nat.reduceEqDiff]; rfl) : W S lim dr (at' c p) ⟨loc, H⟩ Q := cd h hc h1 h2
theorem cdt {o : Operand} (h1 : W S lim dr (at' c (0 :: p)) ⟨loc, H⟩ Q) (h : at' c p = .cond o (at' c (0 :: p)) (at' c (1 :: p)) := by rfl) (hc : evO loc o = .v (.bool true) := by simp only [go_sem, ↓reduceIte, Nat.reduceEqDiff]) : W S lim dr (at' c p) ⟨loc, H⟩ Q := cd_t h hc h1
theorem cdf {o : Operand} (h1 : W S lim dr (at' c (1 :: p)) ⟨loc, H⟩ Q) (h : at' c p = .cond o (at' c (0 :: p)) (at' c (1 :: p)) := by rfl) (hc : evO loc o = .v (.bool false) := by simp only [go_sem, ↓reduceIte, Nat.reduceEqDiff]) : W S lim dr (at' c p) ⟨loc, H⟩ Q := cd_f h hc h1
theorem bin_prem {t : Bool} {p : Prop} (h : t = true) (h' : (t = true) = p) : p := h' ▸ h
theorem fpure {fa : FnA} {H0 : Heap} {K : AV → Heap → Prop} {s : St} {l : List AV} {v : AV} (hk : K v H0) (hl : resAll S.P s.loc s.H fa.fn.results.toList = some l := by simp only [go_sem, ↓reduceIte, Nat.reduceEqDiff]; rfl)
    (hv : frz s.H H0.length 8 (oneOr l) = v := by simp only [go_sem, ↓reduceIte, Nat.reduceEqDiff]; rfl) : retP S false fa H0 K .ret s := fin_pure rfl hl hv hk
end
end Go.Am
end
section
namespace Go.Proofs.YtfnapmdedmbdbaaDoor
open Go Go.Am

theorem ldp1 (H : Heap) (b o : Nat) : loadV Tryd.prog H 1 (.ptr b o) = (hget H b).bind fun k => k[o]? := by rw [load_ptr _ H 1 _ ty1 b o]; rfl
theorem lde1 (H : Heap) (l : List AV) (o : Nat) : loadV Tryd.prog H 1 (.ele l o) = l[o]? := by rw [load_ele _ H 1 _ ty1 l o]; rfl
theorem zr1 : (tyOf Tryd.prog 1).bind (fun ty => ty.zero) = some [.nilFunc] := by rw [ty1]; rfl
theorem ldp2 (H : Heap) (b o : Nat) : loadV Tryd.prog H 2 (.ptr b o) = (hget H b).bind fun k => k[o]? := by rw [load_ptr _ H 2 _ ty2 b o]; rfl
theorem lde2 (H : Heap) (l : List AV) (o : Nat) : loadV Tryd.prog H 2 (.ele l o) = l[o]? := by rw [load_ele _ H 2 _ ty2 l o]; rfl
theorem zr2 : (tyOf Tryd.prog 2).bind (fun ty => ty.zero) = some [.int .i64 0] := by rw [ty2]; rfl
theorem ldp3 (H : Heap) (b o : Nat) : loadV Tryd.prog H 3 (.ptr b o) = (hget H b).bind fun k => k[o]? := by rw [load_ptr _ H 3 _ ty3 b o]; rfl
theorem lde3 (H : Heap) (l : List AV) (o : Nat) : loadV Tryd.prog H 3 (.ele l o) = l[o]? := by rw [load_ele _ H 3 _ ty3 l o]; rfl
theorem zr3 : (tyOf Tryd.prog 3).bind (fun ty => ty.zero) = some [.int .i64 0] := by rw [ty3]; rfl
theorem ldp4 (H : Heap) (b o : Nat) : loadV Tryd.prog H 4 (.ptr b o) = (hget H b).bind fun k => k[o]? := by rw [load_ptr _ H 4 _ ty4 b o]; rfl
theorem lde4 (H : Heap) (l : List AV) (o : Nat) : loadV Tryd.prog H 4 (.ele l o) = l[o]? := by rw [load_ele _ H 4 _ ty4 l o]; rfl
theorem zr4 : (tyOf Tryd.prog 4).bind (fun ty => ty.zero) = some [.bool false] := by rw [ty4]; rfl
theorem beq4 (a b : Bool) : binV Tryd.prog .eql 4 (.v (.bool a)) (.v (.bool b)) = some (.v (.bool (a == b))) := by simp only [binV, tk4]
theorem bne4 (a b : Bool) : binV Tryd.prog .neq 4 (.v (.bool a)) (.v (.bool b)) = some (.v (.bool (!(a == b)))) := by simp only [binV, tk4]
theorem ldp5 (H : Heap) (b o : Nat) : loadV Tryd.prog H 5 (.ptr b o) = (hget H b).bind fun k => k[o]? := by rw [load_ptr _ H 5 _ ty5 b o]; rfl
theorem lde5 (H : Heap) (l : List AV) (o : Nat) : loadV Tryd.prog H 5 (.ele l o) = l[o]? := by rw [load_ele _ H 5 _ ty5 l o]; rfl
theorem zr5 : (tyOf Tryd.prog 5).bind (fun ty => ty.zero) = some [.int .u8 0] := by rw [ty5]; rfl
theorem ldp6 (H : Heap) (b o : Nat) : loadV Tryd.prog H 6 (.ptr b o) = (hget H b).bind fun k => k[o]? := by rw [load_ptr _ H 6 _ ty6 b o]; rfl
theorem lde6 (H : Heap) (l : List AV) (o : Nat) : loadV Tryd.prog H 6 (.ele l o) = l[o]? := by rw [load_ele _ H 6 _ ty6 l o]; rfl
theorem zr6 : (tyOf Tryd.prog 6).bind (fun ty => ty.zero) = some [.int .u8 0] := by rw [ty6]; rfl
theorem ldp7 (H : Heap) (b o : Nat) : loadV Tryd.prog H 7 (.ptr b o) = (hget H b).bind fun k => partL { size := 4, bytes := 24, agg := true, k := .struct [(0, 2), (1, 3), (2, 4), (3, 6)], zero := some [.int .i64 0, .int .i64 0, .bool false, .int .u8 0] } k o := load_ptr _ H 7 _ ty7 b o
theorem lde7 (H : Heap) (l : List AV) (o : Nat) : loadV Tryd.prog H 7 (.ele l o) = partL { size := 4, bytes := 24, agg := true, k := .struct [(0, 2), (1, 3), (2, 4), (3, 6)], zero := some [.int .i64 0, .int .i64 0, .bool false, .int .u8 0] } l o := load_ele _ H 7 _ ty7 l o
theorem pl7 (l : List AV) (o : Nat) (h : o + 4 ≤ l.length) : partL { size := 4, bytes := 24, agg := true, k := .struct [(0, 2), (1, 3), (2, 4), (3, 6)], zero := some [.int .i64 0, .int .i64 0, .bool false, .int .u8 0] } l o = some (.agg ((l.drop o).take 4)) := by rw [partL_agg _ _ _ rfl, if_pos h]
theorem zr7 : (tyOf Tryd.prog 7).bind (fun ty => ty.zero) = some [.int .i64 0, .int .i64 0, .bool false, .int .u8 0] := by rw [ty7]; rfl
theorem fap7_0 (b o : Nat) : fieldAddrV Tryd.prog 7 (.ptr b o) 0 = some (.ptr b (o)) := fa_ptr _ 7 _ tk7 b o 0 0 2 _ rfl ty2 (by decide)
theorem fae7_0 (l : List AV) (o : Nat) : fieldAddrV Tryd.prog 7 (.ele l o) 0 = some (.ele l (o)) := fa_ele _ 7 _ tk7 l o 0 0 2 _ rfl ty2 (by decide)
theorem fd7_0 (l : List AV) : fieldV Tryd.prog 7 (.agg l) 0 = l[0]? := by rw [fd_agg _ 7 _ tk7 l 0 0 2 _ rfl ty2]; rfl
theorem fap7_1 (b o : Nat) : fieldAddrV Tryd.prog 7 (.ptr b o) 1 = some (.ptr b (o + 1)) := fa_ptr _ 7 _ tk7 b o 1 1 3 _ rfl ty3 (by decide)
theorem fae7_1 (l : List AV) (o : Nat) : fieldAddrV Tryd.prog 7 (.ele l o) 1 = some (.ele l (o + 1)) := fa_ele _ 7 _ tk7 l o 1 1 3 _ rfl ty3 (by decide)
theorem fd7_1 (l : List AV) : fieldV Tryd.prog 7 (.agg l) 1 = l[1]? := by rw [fd_agg _ 7 _ tk7 l 1 1 3 _ rfl ty3]; rfl
theorem fap7_2 (b o : Nat) : fieldAddrV Tryd.prog 7 (.ptr b o) 2 = some (.ptr b (o + 2)) := fa_ptr _ 7 _ tk7 b o 2 2 4 _ rfl ty4 (by decide)
theorem fae7_2 (l : List AV) (o : Nat) : fieldAddrV Tryd.prog 7 (.ele l o) 2 = some (.ele l (o + 2)) := fa_ele _ 7 _ tk7 l o 2 2 4 _ rfl ty4 (by decide)
theorem fd7_2 (l : List AV) : fieldV Tryd.prog 7 (.agg l) 2 = l[2]? := by rw [fd_agg _ 7 _ tk7 l 2 2 4 _ rfl ty4]; rfl
theorem fap7_3 (b o : Nat) : fieldAddrV Tryd.prog 7 (.ptr b o) 3 = some (.ptr b (o + 3)) := fa_ptr _ 7 _ tk7 b o 3 3 6 _ rfl ty6 (by decide)
theorem fae7_3 (l : List AV) (o : Nat) : fieldAddrV Tryd.prog 7 (.ele l o) 3 = some (.ele l (o + 3)) := fa_ele _ 7 _ tk7 l o 3 3 6 _ rfl ty6 (by decide)
theorem fd7_3 (l : List AV) : fieldV Tryd.prog 7 (.agg l) 3 = l[3]? := by rw [fd_agg _ 7 _ tk7 l 3 3 6 _ rfl ty6]; rfl
theorem ldp8 (H : Heap) (b o : Nat) : loadV Tryd.prog H 8 (.ptr b o) = (hget H b).bind fun k => partL { size := 4, bytes := 24, agg := true, k := .struct [(0, 2), (1, 3), (2, 4), (3, 6)], zero := some [.int .i64 0, .int .i64 0, .bool false, .int .u8 0] } k o := load_ptr _ H 8 _ ty8 b o
theorem lde8 (H : Heap) (l : List AV) (o : Nat) : loadV Tryd.prog H 8 (.ele l o) = partL { size := 4, bytes := 24, agg := true, k := .struct [(0, 2), (1, 3), (2, 4), (3, 6)], zero := some [.int .i64 0, .int .i64 0, .bool false, .int .u8 0] } l o := load_ele _ H 8 _ ty8 l o
theorem pl8 (l : List AV) (o : Nat) (h : o + 4 ≤ l.length) : partL { size := 4, bytes := 24, agg := true, k := .struct [(0, 2), (1, 3), (2, 4), (3, 6)], zero := some [.int .i64 0, .int .i64 0, .bool false, .int .u8 0] } l o = some (.agg ((l.drop o).take 4)) := by rw [partL_agg _ _ _ rfl, if_pos h]
theorem zr8 : (tyOf Tryd.prog 8).bind (fun ty => ty.zero) = some [.int .i64 0, .int .i64 0, .bool false, .int .u8 0] := by rw [ty8]; rfl
theorem fap8_0 (b o : Nat) : fieldAddrV Tryd.prog 8 (.ptr b o) 0 = some (.ptr b (o)) := fa_ptr _ 8 _ tk8 b o 0 0 2 _ rfl ty2 (by decide)
theorem fae8_0 (l : List AV) (o : Nat) : fieldAddrV Tryd.prog 8 (.ele l o) 0 = some (.ele l (o)) := fa_ele _ 8 _ tk8 l o 0 0 2 _ rfl ty2 (by decide)
theorem fd8_0 (l : List AV) : fieldV Tryd.prog 8 (.agg l) 0 = l[0]? := by rw [fd_agg _ 8 _ tk8 l 0 0 2 _ rfl ty2]; rfl
theorem fap8_1 (b o : Nat) : fieldAddrV Tryd.prog 8 (.ptr b o) 1 = some (.ptr b (o + 1)) := fa_ptr _ 8 _ tk8 b o 1 1 3 _ rfl ty3 (by decide)
theorem fae8_1 (l : List AV) (o : Nat) : fieldAddrV Tryd.prog 8 (.ele l o) 1 = some (.ele l (o + 1)) := fa_ele _ 8 _ tk8 l o 1 1 3 _ rfl ty3 (by decide)
theorem fd8_1 (l : List AV) : fieldV Tryd.prog 8 (.agg l) 1 = l[1]? := by rw [fd_agg _ 8 _ tk8 l 1 1 3 _ rfl ty3]; rfl
theorem fap8_2 (b o : Nat) : fieldAddrV Tryd.prog 8 (.ptr b o) 2 = some (.ptr b (o + 2)) := fa_ptr _ 8 _ tk8 b o 2 2 4 _ rfl ty4 (by decide)
theorem fae8_2 (l : List AV) (o : Nat) : fieldAddrV Tryd.prog 8 (.ele l o) 2 = some (.ele l (o + 2)) := fa_ele _ 8 _ tk8 l o 2 2 4 _ rfl ty4 (by decide)
theorem fd8_2 (l : List AV) : fieldV Tryd.prog 8 (.agg l) 2 = l[2]? := by rw [fd_agg _ 8 _ tk8 l 2 2 4 _ rfl ty4]; rfl
theorem fap8_3 (b o : Nat) : fieldAddrV Tryd.prog 8 (.ptr b o) 3 = some (.ptr b (o + 3)) := fa_ptr _ 8 _ tk8 b o 3 3 6 _ rfl ty6 (by decide)
theorem fae8_3 (l : List AV) (o : Nat) : fieldAddrV Tryd.prog 8 (.ele l o) 3 = some (.ele l (o + 3)) := fa_ele _ 8 _ tk8 l o 3 3 6 _ rfl ty6 (by decide)
theorem fd8_3 (l : List AV) : fieldV Tryd.prog 8 (.agg l) 3 = l[3]? := by rw [fd_agg _ 8 _ tk8 l 3 3 6 _ rfl ty6]; rfl
theorem ldp9 (H : Heap) (b o : Nat) : loadV Tryd.prog H 9 (.ptr b o) = (hget H b).bind fun k => k[o]? := by rw [load_ptr _ H 9 _ ty9 b o]; rfl
theorem lde9 (H : Heap) (l : List AV) (o : Nat) : loadV Tryd.prog H 9 (.ele l o) = l[o]? := by rw [load_ele _ H 9 _ ty9 l o]; rfl
theorem zr9 : (tyOf Tryd.prog 9).bind (fun ty => ty.zero) = some [.string ⟨#[]⟩] := by rw [ty9]; rfl
theorem lnt9 (s : ByteArray) : lenV (tyOf Tryd.prog 9) (.v (.string s)) = some (.v (.int .i64 s.size)) := by rw [ty9]; exact len_str _ _ rfl
theorem ldp23 (H : Heap) (b o : Nat) : loadV Tryd.prog H 23 (.ptr b o) = (hget H b).bind fun k => partL { size := 10, bytes := 80, agg := true, k := .struct [(0, 3), (1, 3), (2, 3), (3, 3), (4, 3), (5, 3), (6, 3), (7, 3), (8, 3), (9, 3)], zero := some [.int .i64 0, .int .i64 0, .int .i64 0, .int .i64 0, .int .i64 0, .int .i64 0, .int .i64 0, .int .i64 0, .int .i64 0, .int .i64 0] } k o := load_ptr _ H 23 _ ty23 b o
theorem lde23 (H : Heap) (l : List AV) (o : Nat) : loadV Tryd.prog H 23 (.ele l o) = partL { size := 10, bytes := 80, agg := true, k := .struct [(0, 3), (1, 3), (2, 3), (3, 3), (4, 3), (5, 3), (6, 3), (7, 3), (8, 3), (9, 3)], zero := some [.int .i64 0, .int .i64 0, .int .i64 0, .int .i64 0, .int .i64 0, .int .i64 0, .int .i64 0, .int .i64 0, .int .i64 0, .int .i64 0] } l o := load_ele _ H 23 _ ty23 l o
theorem pl23 (l : List AV) (o : Nat) (h : o + 10 ≤ l.length) : partL { size := 10, bytes := 80, agg := true, k := .struct [(0, 3), (1, 3), (2, 3), (3, 3), (4, 3), (5, 3), (6, 3), (7, 3), (8, 3), (9, 3)], zero := some [.int .i64 0, .int .i64 0, .int .i64 0, .int .i64 0, .int .i64 0, .int .i64 0, .int .i64 0, .int .i64 0, .int .i64 0, .int .i64 0] } l o = some (.agg ((l.drop o).take 10)) := by rw [partL_agg _ _ _ rfl, if_pos h]
theorem zr23 : (tyOf Tryd.prog 23).bind (fun ty => ty.zero) = some [.int .i64 0, .int .i64 0, .int .i64 0, .int .i64 0, .int .i64 0, .int .i64 0, .int .i64 0, .int .i64 0, .int .i64 0, .int .i64 0] := by rw [ty23]; rfl
theorem fap23_0 (b o : Nat) : fieldAddrV Tryd.prog 23 (.ptr b o) 0 = some (.ptr b (o)) := fa_ptr _ 23 _ tk23 b o 0 0 3 _ rfl ty3 (by decide)
theorem fae23_0 (l : List AV) (o : Nat) : fieldAddrV Tryd.prog 23 (.ele l o) 0 = some (.ele l (o)) := fa_ele _ 23 _ tk23 l o 0 0 3 _ rfl ty3 (by decide)
theorem fd23_0 (l : List AV) : fieldV Tryd.prog 23 (.agg l) 0 = l[0]? := by rw [fd_agg _ 23 _ tk23 l 0 0 3 _ rfl ty3]; rfl
theorem fap23_1 (b o : Nat) : fieldAddrV Tryd.prog 23 (.ptr b o) 1 = some (.ptr b (o + 1)) := fa_ptr _ 23 _ tk23 b o 1 1 3 _ rfl ty3 (by decide)
theorem fae23_1 (l : List AV) (o : Nat) : fieldAddrV Tryd.prog 23 (.ele l o) 1 = some (.ele l (o + 1)) := fa_ele _ 23 _ tk23 l o 1 1 3 _ rfl ty3 (by decide)
theorem fd23_1 (l : List AV) : fieldV Tryd.prog 23 (.agg l) 1 = l[1]? := by rw [fd_agg _ 23 _ tk23 l 1 1 3 _ rfl ty3]; rfl
theorem fap23_2 (b o : Nat) : fieldAddrV Tryd.prog 23 (.ptr b o) 2 = some (.ptr b (o + 2)) := fa_ptr _ 23 _ tk23 b o 2 2 3 _ rfl ty3 (by decide)
theorem fae23_2 (l : List AV) (o : Nat) : fieldAddrV Tryd.prog 23 (.ele l o) 2 = some (.ele l (o + 2)) := fa_ele _ 23 _ tk23 l o 2 2 3 _ rfl ty3 (by decide)
theorem fd23_2 (l : List AV) : fieldV Tryd.prog 23 (.agg l) 2 = l[2]? := by rw [fd_agg _ 23 _ tk23 l 2 2 3 _ rfl ty3]; rfl
theorem fap23_3 (b o : Nat) : fieldAddrV Tryd.prog 23 (.ptr b o) 3 = some (.ptr b (o + 3)) := fa_ptr _ 23 _ tk23 b o 3 3 3 _ rfl ty3 (by decide)
theorem fae23_3 (l : List AV) (o : Nat) : fieldAddrV Tryd.prog 23 (.ele l o) 3 = some (.ele l (o + 3)) := fa_ele _ 23 _ tk23 l o 3 3 3 _ rfl ty3 (by decide)
theorem fd23_3 (l : List AV) : fieldV Tryd.prog 23 (.agg l) 3 = l[3]? := by rw [fd_agg _ 23 _ tk23 l 3 3 3 _ rfl ty3]; rfl
theorem fap23_4 (b o : Nat) : fieldAddrV Tryd.prog 23 (.ptr b o) 4 = some (.ptr b (o + 4)) := fa_ptr _ 23 _ tk23 b o 4 4 3 _ rfl ty3 (by decide)
theorem fae23_4 (l : List AV) (o : Nat) : fieldAddrV Tryd.prog 23 (.ele l o) 4 = some (.ele l (o + 4)) := fa_ele _ 23 _ tk23 l o 4 4 3 _ rfl ty3 (by decide)
theorem fd23_4 (l : List AV) : fieldV Tryd.prog 23 (.agg l) 4 = l[4]? := by rw [fd_agg _ 23 _ tk23 l 4 4 3 _ rfl ty3]; rfl
theorem fap23_5 (b o : Nat) : fieldAddrV Tryd.prog 23 (.ptr b o) 5 = some (.ptr b (o + 5)) := fa_ptr _ 23 _ tk23 b o 5 5 3 _ rfl ty3 (by decide)
theorem fae23_5 (l : List AV) (o : Nat) : fieldAddrV Tryd.prog 23 (.ele l o) 5 = some (.ele l (o + 5)) := fa_ele _ 23 _ tk23 l o 5 5 3 _ rfl ty3 (by decide)
theorem fd23_5 (l : List AV) : fieldV Tryd.prog 23 (.agg l) 5 = l[5]? := by rw [fd_agg _ 23 _ tk23 l 5 5 3 _ rfl ty3]; rfl
theorem fap23_6 (b o : Nat) : fieldAddrV Tryd.prog 23 (.ptr b o) 6 = some (.ptr b (o + 6)) := fa_ptr _ 23 _ tk23 b o 6 6 3 _ rfl ty3 (by decide)
theorem fae23_6 (l : List AV) (o : Nat) : fieldAddrV Tryd.prog 23 (.ele l o) 6 = some (.ele l (o + 6)) := fa_ele _ 23 _ tk23 l o 6 6 3 _ rfl ty3 (by decide)
theorem fd23_6 (l : List AV) : fieldV Tryd.prog 23 (.agg l) 6 = l[6]? := by rw [fd_agg _ 23 _ tk23 l 6 6 3 _ rfl ty3]; rfl
theorem fap23_7 (b o : Nat) : fieldAddrV Tryd.prog 23 (.ptr b o) 7 = some (.ptr b (o + 7)) := fa_ptr _ 23 _ tk23 b o 7 7 3 _ rfl ty3 (by decide)
theorem fae23_7 (l : List AV) (o : Nat) : fieldAddrV Tryd.prog 23 (.ele l o) 7 = some (.ele l (o + 7)) := fa_ele _ 23 _ tk23 l o 7 7 3 _ rfl ty3 (by decide)
theorem fd23_7 (l : List AV) : fieldV Tryd.prog 23 (.agg l) 7 = l[7]? := by rw [fd_agg _ 23 _ tk23 l 7 7 3 _ rfl ty3]; rfl
theorem fap23_8 (b o : Nat) : fieldAddrV Tryd.prog 23 (.ptr b o) 8 = some (.ptr b (o + 8)) := fa_ptr _ 23 _ tk23 b o 8 8 3 _ rfl ty3 (by decide)
theorem fae23_8 (l : List AV) (o : Nat) : fieldAddrV Tryd.prog 23 (.ele l o) 8 = some (.ele l (o + 8)) := fa_ele _ 23 _ tk23 l o 8 8 3 _ rfl ty3 (by decide)
theorem fd23_8 (l : List AV) : fieldV Tryd.prog 23 (.agg l) 8 = l[8]? := by rw [fd_agg _ 23 _ tk23 l 8 8 3 _ rfl ty3]; rfl
theorem fap23_9 (b o : Nat) : fieldAddrV Tryd.prog 23 (.ptr b o) 9 = some (.ptr b (o + 9)) := fa_ptr _ 23 _ tk23 b o 9 9 3 _ rfl ty3 (by decide)
theorem fae23_9 (l : List AV) (o : Nat) : fieldAddrV Tryd.prog 23 (.ele l o) 9 = some (.ele l (o + 9)) := fa_ele _ 23 _ tk23 l o 9 9 3 _ rfl ty3 (by decide)
theorem fd23_9 (l : List AV) : fieldV Tryd.prog 23 (.agg l) 9 = l[9]? := by rw [fd_agg _ 23 _ tk23 l 9 9 3 _ rfl ty3]; rfl
theorem ldp25 (H : Heap) (b o : Nat) : loadV Tryd.prog H 25 (.ptr b o) = (hget H b).bind fun k => k[o]? := by rw [load_ptr _ H 25 _ ty25 b o]; rfl
theorem lde25 (H : Heap) (l : List AV) (o : Nat) : loadV Tryd.prog H 25 (.ele l o) = l[o]? := by rw [load_ele _ H 25 _ ty25 l o]; rfl
theorem zr25 : (tyOf Tryd.prog 25).bind (fun ty => ty.zero) = some [.nilFunc] := by rw [ty25]; rfl
theorem ldp27 (H : Heap) (b o : Nat) : loadV Tryd.prog H 27 (.ptr b o) = (hget H b).bind fun k => k[o]? := by rw [load_ptr _ H 27 _ ty27 b o]; rfl
theorem lde27 (H : Heap) (l : List AV) (o : Nat) : loadV Tryd.prog H 27 (.ele l o) = l[o]? := by rw [load_ele _ H 27 _ ty27 l o]; rfl
theorem zr27 : (tyOf Tryd.prog 27).bind (fun ty => ty.zero) = some [.slice none 0 0] := by rw [ty27]; rfl
theorem ias27 (n : Nat) (l : List AV) (k : IntKind) (i : Int) (h0 : 0 ≤ i) (h1 : i < n) : indexAddrV Tryd.prog 27 (.sl n l) (.v (.int k i)) = some (.ele l (i.toNat * 10)) := by rw [ia_sl _ 27 23 _ tk27 ty23, if_pos ⟨h0, h1⟩]
theorem iao27 (z b o n : Nat) (k : IntKind) (i : Int) (h0 : 0 ≤ i) (h1 : i < n) : indexAddrV Tryd.prog 27 (.own z b o n) (.v (.int k i)) = some (.ptr b (o + i.toNat * 10)) := by rw [ia_own _ 27 23 _ tk27 ty23, if_pos ⟨h0, h1⟩]
theorem lns27 (n : Nat) (l : List AV) : lenV (tyOf Tryd.prog 27) (.sl n l) = some (.v (.int .i64 n)) := by rw [ty27]; exact len_sl _ 23 _ _ rfl
theorem lno27 (z b o n : Nat) : lenV (tyOf Tryd.prog 27) (.own z b o n) = some (.v (.int .i64 n)) := by rw [ty27]; exact len_own _ 23 _ _ _ _ rfl
theorem lnn27 (n : Nat) : lenV (tyOf Tryd.prog 27) (.v (.slice none n 0)) = some (.v (.int .i64 n)) := by rw [ty27]; exact len_nil _ 23 _ rfl
theorem ldp28 (H : Heap) (b o : Nat) : loadV Tryd.prog H 28 (.ptr b o) = (hget H b).bind fun k => k[o]? := by rw [load_ptr _ H 28 _ ty28 b o]; rfl
theorem lde28 (H : Heap) (l : List AV) (o : Nat) : loadV Tryd.prog H 28 (.ele l o) = l[o]? := by rw [load_ele _ H 28 _ ty28 l o]; rfl
theorem zr28 : (tyOf Tryd.prog 28).bind (fun ty => ty.zero) = some [.int .i64 0] := by rw [ty28]; rfl
theorem ldp32 (H : Heap) (b o : Nat) : loadV Tryd.prog H 32 (.ptr b o) = (hget H b).bind fun k => k[o]? := by rw [load_ptr _ H 32 _ ty32 b o]; rfl
theorem lde32 (H : Heap) (l : List AV) (o : Nat) : loadV Tryd.prog H 32 (.ele l o) = l[o]? := by rw [load_ele _ H 32 _ ty32 l o]; rfl
theorem zr32 : (tyOf Tryd.prog 32).bind (fun ty => ty.zero) = some [.slice none 0 0] := by rw [ty32]; rfl
theorem ias32 (n : Nat) (l : List AV) (k : IntKind) (i : Int) (h0 : 0 ≤ i) (h1 : i < n) : indexAddrV Tryd.prog 32 (.sl n l) (.v (.int k i)) = some (.ele l (i.toNat * 8)) := by rw [ia_sl _ 32 34 _ tk32 ty34, if_pos ⟨h0, h1⟩]
theorem iao32 (z b o n : Nat) (k : IntKind) (i : Int) (h0 : 0 ≤ i) (h1 : i < n) : indexAddrV Tryd.prog 32 (.own z b o n) (.v (.int k i)) = some (.ptr b (o + i.toNat * 8)) := by rw [ia_own _ 32 34 _ tk32 ty34, if_pos ⟨h0, h1⟩]
theorem lns32 (n : Nat) (l : List AV) : lenV (tyOf Tryd.prog 32) (.sl n l) = some (.v (.int .i64 n)) := by rw [ty32]; exact len_sl _ 34 _ _ rfl
theorem lno32 (z b o n : Nat) : lenV (tyOf Tryd.prog 32) (.own z b o n) = some (.v (.int .i64 n)) := by rw [ty32]; exact len_own _ 34 _ _ _ _ rfl
theorem lnn32 (n : Nat) : lenV (tyOf Tryd.prog 32) (.v (.slice none n 0)) = some (.v (.int .i64 n)) := by rw [ty32]; exact len_nil _ 34 _ rfl
theorem ldp34 (H : Heap) (b o : Nat) : loadV Tryd.prog H 34 (.ptr b o) = (hget H b).bind fun k => partL { size := 8, bytes := 64, agg := true, k := .struct [(0, 3), (1, 3), (2, 3), (3, 3), (4, 3), (5, 3), (6, 3), (7, 4)], zero := some [.int .i64 0, .int .i64 0, .int .i64 0, .int .i64 0, .int .i64 0, .int .i64 0, .int .i64 0, .bool false] } k o := load_ptr _ H 34 _ ty34 b o
theorem lde34 (H : Heap) (l : List AV) (o : Nat) : loadV Tryd.prog H 34 (.ele l o) = partL { size := 8, bytes := 64, agg := true, k := .struct [(0, 3), (1, 3), (2, 3), (3, 3), (4, 3), (5, 3), (6, 3), (7, 4)], zero := some [.int .i64 0, .int .i64 0, .int .i64 0, .int .i64 0, .int .i64 0, .int .i64 0, .int .i64 0, .bool false] } l o := load_ele _ H 34 _ ty34 l o
theorem pl34 (l : List AV) (o : Nat) (h : o + 8 ≤ l.length) : partL { size := 8, bytes := 64, agg := true, k := .struct [(0, 3), (1, 3), (2, 3), (3, 3), (4, 3), (5, 3), (6, 3), (7, 4)], zero := some [.int .i64 0, .int .i64 0, .int .i64 0, .int .i64 0, .int .i64 0, .int .i64 0, .int .i64 0, .bool false] } l o = some (.agg ((l.drop o).take 8)) := by rw [partL_agg _ _ _ rfl, if_pos h]
theorem zr34 : (tyOf Tryd.prog 34).bind (fun ty => ty.zero) = some [.int .i64 0, .int .i64 0, .int .i64 0, .int .i64 0, .int .i64 0, .int .i64 0, .int .i64 0, .bool false] := by rw [ty34]; rfl
theorem fap34_0 (b o : Nat) : fieldAddrV Tryd.prog 34 (.ptr b o) 0 = some (.ptr b (o)) := fa_ptr _ 34 _ tk34 b o 0 0 3 _ rfl ty3 (by decide)
theorem fae34_0 (l : List AV) (o : Nat) : fieldAddrV Tryd.prog 34 (.ele l o) 0 = some (.ele l (o)) := fa_ele _ 34 _ tk34 l o 0 0 3 _ rfl ty3 (by decide)
theorem fd34_0 (l : List AV) : fieldV Tryd.prog 34 (.agg l) 0 = l[0]? := by rw [fd_agg _ 34 _ tk34 l 0 0 3 _ rfl ty3]; rfl
theorem fap34_1 (b o : Nat) : fieldAddrV Tryd.prog 34 (.ptr b o) 1 = some (.ptr b (o + 1)) := fa_ptr _ 34 _ tk34 b o 1 1 3 _ rfl ty3 (by decide)
theorem fae34_1 (l : List AV) (o : Nat) : fieldAddrV Tryd.prog 34 (.ele l o) 1 = some (.ele l (o + 1)) := fa_ele _ 34 _ tk34 l o 1 1 3 _ rfl ty3 (by decide)
theorem fd34_1 (l : List AV) : fieldV Tryd.prog 34 (.agg l) 1 = l[1]? := by rw [fd_agg _ 34 _ tk34 l 1 1 3 _ rfl ty3]; rfl
theorem fap34_2 (b o : Nat) : fieldAddrV Tryd.prog 34 (.ptr b o) 2 = some (.ptr b (o + 2)) := fa_ptr _ 34 _ tk34 b o 2 2 3 _ rfl ty3 (by decide)
theorem fae34_2 (l : List AV) (o : Nat) : fieldAddrV Tryd.prog 34 (.ele l o) 2 = some (.ele l (o + 2)) := fa_ele _ 34 _ tk34 l o 2 2 3 _ rfl ty3 (by decide)
theorem fd34_2 (l : List AV) : fieldV Tryd.prog 34 (.agg l) 2 = l[2]? := by rw [fd_agg _ 34 _ tk34 l 2 2 3 _ rfl ty3]; rfl
theorem fap34_3 (b o : Nat) : fieldAddrV Tryd.prog 34 (.ptr b o) 3 = some (.ptr b (o + 3)) := fa_ptr _ 34 _ tk34 b o 3 3 3 _ rfl ty3 (by decide)
theorem fae34_3 (l : List AV) (o : Nat) : fieldAddrV Tryd.prog 34 (.ele l o) 3 = some (.ele l (o + 3)) := fa_ele _ 34 _ tk34 l o 3 3 3 _ rfl ty3 (by decide)
theorem fd34_3 (l : List AV) : fieldV Tryd.prog 34 (.agg l) 3 = l[3]? := by rw [fd_agg _ 34 _ tk34 l 3 3 3 _ rfl ty3]; rfl
theorem fap34_4 (b o : Nat) : fieldAddrV Tryd.prog 34 (.ptr b o) 4 = some (.ptr b (o + 4)) := fa_ptr _ 34 _ tk34 b o 4 4 3 _ rfl ty3 (by decide)
theorem fae34_4 (l : List AV) (o : Nat) : fieldAddrV Tryd.prog 34 (.ele l o) 4 = some (.ele l (o + 4)) := fa_ele _ 34 _ tk34 l o 4 4 3 _ rfl ty3 (by decide)
theorem fd34_4 (l : List AV) : fieldV Tryd.prog 34 (.agg l) 4 = l[4]? := by rw [fd_agg _ 34 _ tk34 l 4 4 3 _ rfl ty3]; rfl
theorem fap34_5 (b o : Nat) : fieldAddrV Tryd.prog 34 (.ptr b o) 5 = some (.ptr b (o + 5)) := fa_ptr _ 34 _ tk34 b o 5 5 3 _ rfl ty3 (by decide)
theorem fae34_5 (l : List AV) (o : Nat) : fieldAddrV Tryd.prog 34 (.ele l o) 5 = some (.ele l (o + 5)) := fa_ele _ 34 _ tk34 l o 5 5 3 _ rfl ty3 (by decide)
theorem fd34_5 (l : List AV) : fieldV Tryd.prog 34 (.agg l) 5 = l[5]? := by rw [fd_agg _ 34 _ tk34 l 5 5 3 _ rfl ty3]; rfl
theorem fap34_6 (b o : Nat) : fieldAddrV Tryd.prog 34 (.ptr b o) 6 = some (.ptr b (o + 6)) := fa_ptr _ 34 _ tk34 b o 6 6 3 _ rfl ty3 (by decide)
theorem fae34_6 (l : List AV) (o : Nat) : fieldAddrV Tryd.prog 34 (.ele l o) 6 = some (.ele l (o + 6)) := fa_ele _ 34 _ tk34 l o 6 6 3 _ rfl ty3 (by decide)
theorem fd34_6 (l : List AV) : fieldV Tryd.prog 34 (.agg l) 6 = l[6]? := by rw [fd_agg _ 34 _ tk34 l 6 6 3 _ rfl ty3]; rfl
theorem fap34_7 (b o : Nat) : fieldAddrV Tryd.prog 34 (.ptr b o) 7 = some (.ptr b (o + 7)) := fa_ptr _ 34 _ tk34 b o 7 7 4 _ rfl ty4 (by decide)
theorem fae34_7 (l : List AV) (o : Nat) : fieldAddrV Tryd.prog 34 (.ele l o) 7 = some (.ele l (o + 7)) := fa_ele _ 34 _ tk34 l o 7 7 4 _ rfl ty4 (by decide)
theorem fd34_7 (l : List AV) : fieldV Tryd.prog 34 (.agg l) 7 = l[7]? := by rw [fd_agg _ 34 _ tk34 l 7 7 4 _ rfl ty4]; rfl
theorem ldp43 (H : Heap) (b o : Nat) : loadV Tryd.prog H 43 (.ptr b o) = (hget H b).bind fun k => k[o]? := by rw [load_ptr _ H 43 _ ty43 b o]; rfl
theorem lde43 (H : Heap) (l : List AV) (o : Nat) : loadV Tryd.prog H 43 (.ele l o) = l[o]? := by rw [load_ele _ H 43 _ ty43 l o]; rfl
theorem zr43 : (tyOf Tryd.prog 43).bind (fun ty => ty.zero) = some [.slice none 0 0] := by rw [ty43]; rfl
theorem ias43 (n : Nat) (l : List AV) (k : IntKind) (i : Int) (h0 : 0 ≤ i) (h1 : i < n) : indexAddrV Tryd.prog 43 (.sl n l) (.v (.int k i)) = some (.ele l (i.toNat)) := by rw [ia_sl _ 43 9 _ tk43 ty9, if_pos ⟨h0, h1⟩]; rw [Nat.mul_one]
theorem iao43 (z b o n : Nat) (k : IntKind) (i : Int) (h0 : 0 ≤ i) (h1 : i < n) : indexAddrV Tryd.prog 43 (.own z b o n) (.v (.int k i)) = some (.ptr b (o + i.toNat)) := by rw [ia_own _ 43 9 _ tk43 ty9, if_pos ⟨h0, h1⟩]; rw [Nat.mul_one]
theorem lns43 (n : Nat) (l : List AV) : lenV (tyOf Tryd.prog 43) (.sl n l) = some (.v (.int .i64 n)) := by rw [ty43]; exact len_sl _ 9 _ _ rfl
theorem lno43 (z b o n : Nat) : lenV (tyOf Tryd.prog 43) (.own z b o n) = some (.v (.int .i64 n)) := by rw [ty43]; exact len_own _ 9 _ _ _ _ rfl
theorem lnn43 (n : Nat) : lenV (tyOf Tryd.prog 43) (.v (.slice none n 0)) = some (.v (.int .i64 n)) := by rw [ty43]; exact len_nil _ 9 _ rfl
theorem ldp49 (H : Heap) (b o : Nat) : loadV Tryd.prog H 49 (.ptr b o) = (hget H b).bind fun k => k[o]? := by rw [load_ptr _ H 49 _ ty49 b o]; rfl
theorem lde49 (H : Heap) (l : List AV) (o : Nat) : loadV Tryd.prog H 49 (.ele l o) = l[o]? := by rw [load_ele _ H 49 _ ty49 l o]; rfl
theorem zr49 : (tyOf Tryd.prog 49).bind (fun ty => ty.zero) = some [.int .u64 0] := by rw [ty49]; rfl
theorem ldp51 (H : Heap) (b o : Nat) : loadV Tryd.prog H 51 (.ptr b o) = (hget H b).bind fun k => partL { size := 2, bytes := 16, agg := true, k := .struct [(0, 2), (1, 49)], zero := some [.int .i64 0, .int .u64 0] } k o := load_ptr _ H 51 _ ty51 b o
theorem lde51 (H : Heap) (l : List AV) (o : Nat) : loadV Tryd.prog H 51 (.ele l o) = partL { size := 2, bytes := 16, agg := true, k := .struct [(0, 2), (1, 49)], zero := some [.int .i64 0, .int .u64 0] } l o := load_ele _ H 51 _ ty51 l o
theorem pl51 (l : List AV) (o : Nat) (h : o + 2 ≤ l.length) : partL { size := 2, bytes := 16, agg := true, k := .struct [(0, 2), (1, 49)], zero := some [.int .i64 0, .int .u64 0] } l o = some (.agg ((l.drop o).take 2)) := by rw [partL_agg _ _ _ rfl, if_pos h]
theorem zr51 : (tyOf Tryd.prog 51).bind (fun ty => ty.zero) = some [.int .i64 0, .int .u64 0] := by rw [ty51]; rfl
theorem fap51_0 (b o : Nat) : fieldAddrV Tryd.prog 51 (.ptr b o) 0 = some (.ptr b (o)) := fa_ptr _ 51 _ tk51 b o 0 0 2 _ rfl ty2 (by decide)
theorem fae51_0 (l : List AV) (o : Nat) : fieldAddrV Tryd.prog 51 (.ele l o) 0 = some (.ele l (o)) := fa_ele _ 51 _ tk51 l o 0 0 2 _ rfl ty2 (by decide)
theorem fd51_0 (l : List AV) : fieldV Tryd.prog 51 (.agg l) 0 = l[0]? := by rw [fd_agg _ 51 _ tk51 l 0 0 2 _ rfl ty2]; rfl
theorem fap51_1 (b o : Nat) : fieldAddrV Tryd.prog 51 (.ptr b o) 1 = some (.ptr b (o + 1)) := fa_ptr _ 51 _ tk51 b o 1 1 49 _ rfl ty49 (by decide)
theorem fae51_1 (l : List AV) (o : Nat) : fieldAddrV Tryd.prog 51 (.ele l o) 1 = some (.ele l (o + 1)) := fa_ele _ 51 _ tk51 l o 1 1 49 _ rfl ty49 (by decide)
theorem fd51_1 (l : List AV) : fieldV Tryd.prog 51 (.agg l) 1 = l[1]? := by rw [fd_agg _ 51 _ tk51 l 1 1 49 _ rfl ty49]; rfl
theorem ldp53 (H : Heap) (b o : Nat) : loadV Tryd.prog H 53 (.ptr b o) = (hget H b).bind fun k => k[o]? := by rw [load_ptr _ H 53 _ ty53 b o]; rfl
theorem lde53 (H : Heap) (l : List AV) (o : Nat) : loadV Tryd.prog H 53 (.ele l o) = l[o]? := by rw [load_ele _ H 53 _ ty53 l o]; rfl
theorem zr53 : (tyOf Tryd.prog 53).bind (fun ty => ty.zero) = some [.nilFunc] := by rw [ty53]; rfl
theorem ldp60 (H : Heap) (b o : Nat) : loadV Tryd.prog H 60 (.ptr b o) = (hget H b).bind fun k => k[o]? := by rw [load_ptr _ H 60 _ ty60 b o]; rfl
theorem lde60 (H : Heap) (l : List AV) (o : Nat) : loadV Tryd.prog H 60 (.ele l o) = l[o]? := by rw [load_ele _ H 60 _ ty60 l o]; rfl
theorem zr60 : (tyOf Tryd.prog 60).bind (fun ty => ty.zero) = some [.pointer none] := by rw [ty60]; rfl
theorem ldp65 (H : Heap) (b o : Nat) : loadV Tryd.prog H 65 (.ptr b o) = (hget H b).bind fun k => k[o]? := by rw [load_ptr _ H 65 _ ty65 b o]; rfl
theorem lde65 (H : Heap) (l : List AV) (o : Nat) : loadV Tryd.prog H 65 (.ele l o) = l[o]? := by rw [load_ele _ H 65 _ ty65 l o]; rfl
theorem zr65 : (tyOf Tryd.prog 65).bind (fun ty => ty.zero) = some [.pointer none] := by rw [ty65]; rfl
theorem ldp66 (H : Heap) (b o : Nat) : loadV Tryd.prog H 66 (.ptr b o) = (hget H b).bind fun k => k[o]? := by rw [load_ptr _ H 66 _ ty66 b o]; rfl
theorem lde66 (H : Heap) (l : List AV) (o : Nat) : loadV Tryd.prog H 66 (.ele l o) = l[o]? := by rw [load_ele _ H 66 _ ty66 l o]; rfl
theorem zr66 : (tyOf Tryd.prog 66).bind (fun ty => ty.zero) = some [.slice none 0 0] := by rw [ty66]; rfl
theorem ias66 (n : Nat) (l : List AV) (k : IntKind) (i : Int) (h0 : 0 ≤ i) (h1 : i < n) : indexAddrV Tryd.prog 66 (.sl n l) (.v (.int k i)) = some (.ele l (i.toNat)) := by rw [ia_sl _ 66 5 _ tk66 ty5, if_pos ⟨h0, h1⟩]; rw [Nat.mul_one]
theorem iao66 (z b o n : Nat) (k : IntKind) (i : Int) (h0 : 0 ≤ i) (h1 : i < n) : indexAddrV Tryd.prog 66 (.own z b o n) (.v (.int k i)) = some (.ptr b (o + i.toNat)) := by rw [ia_own _ 66 5 _ tk66 ty5, if_pos ⟨h0, h1⟩]; rw [Nat.mul_one]
theorem lns66 (n : Nat) (l : List AV) : lenV (tyOf Tryd.prog 66) (.sl n l) = some (.v (.int .i64 n)) := by rw [ty66]; exact len_sl _ 5 _ _ rfl
theorem lno66 (z b o n : Nat) : lenV (tyOf Tryd.prog 66) (.own z b o n) = some (.v (.int .i64 n)) := by rw [ty66]; exact len_own _ 5 _ _ _ _ rfl
theorem lnn66 (n : Nat) : lenV (tyOf Tryd.prog 66) (.v (.slice none n 0)) = some (.v (.int .i64 n)) := by rw [ty66]; exact len_nil _ 5 _ rfl
theorem ldp68 (H : Heap) (b o : Nat) : loadV Tryd.prog H 68 (.ptr b o) = (hget H b).bind fun k => partL { size := 2, bytes := 32, agg := true, k := .struct [(0, 65), (1, 66)], zero := some [.pointer none, .slice none 0 0] } k o := load_ptr _ H 68 _ ty68 b o
theorem lde68 (H : Heap) (l : List AV) (o : Nat) : loadV Tryd.prog H 68 (.ele l o) = partL { size := 2, bytes := 32, agg := true, k := .struct [(0, 65), (1, 66)], zero := some [.pointer none, .slice none 0 0] } l o := load_ele _ H 68 _ ty68 l o
theorem pl68 (l : List AV) (o : Nat) (h : o + 2 ≤ l.length) : partL { size := 2, bytes := 32, agg := true, k := .struct [(0, 65), (1, 66)], zero := some [.pointer none, .slice none 0 0] } l o = some (.agg ((l.drop o).take 2)) := by rw [partL_agg _ _ _ rfl, if_pos h]
theorem zr68 : (tyOf Tryd.prog 68).bind (fun ty => ty.zero) = some [.pointer none, .slice none 0 0] := by rw [ty68]; rfl
theorem fap68_0 (b o : Nat) : fieldAddrV Tryd.prog 68 (.ptr b o) 0 = some (.ptr b (o)) := fa_ptr _ 68 _ tk68 b o 0 0 65 _ rfl ty65 (by decide)
theorem fae68_0 (l : List AV) (o : Nat) : fieldAddrV Tryd.prog 68 (.ele l o) 0 = some (.ele l (o)) := fa_ele _ 68 _ tk68 l o 0 0 65 _ rfl ty65 (by decide)
theorem fd68_0 (l : List AV) : fieldV Tryd.prog 68 (.agg l) 0 = l[0]? := by rw [fd_agg _ 68 _ tk68 l 0 0 65 _ rfl ty65]; rfl
theorem fap68_1 (b o : Nat) : fieldAddrV Tryd.prog 68 (.ptr b o) 1 = some (.ptr b (o + 1)) := fa_ptr _ 68 _ tk68 b o 1 1 66 _ rfl ty66 (by decide)
theorem fae68_1 (l : List AV) (o : Nat) : fieldAddrV Tryd.prog 68 (.ele l o) 1 = some (.ele l (o + 1)) := fa_ele _ 68 _ tk68 l o 1 1 66 _ rfl ty66 (by decide)
theorem fd68_1 (l : List AV) : fieldV Tryd.prog 68 (.agg l) 1 = l[1]? := by rw [fd_agg _ 68 _ tk68 l 1 1 66 _ rfl ty66]; rfl
theorem ldp71 (H : Heap) (b o : Nat) : loadV Tryd.prog H 71 (.ptr b o) = (hget H b).bind fun k => k[o]? := by rw [load_ptr _ H 71 _ ty71 b o]; rfl
theorem lde71 (H : Heap) (l : List AV) (o : Nat) : loadV Tryd.prog H 71 (.ele l o) = l[o]? := by rw [load_ele _ H 71 _ ty71 l o]; rfl
theorem zr71 : (tyOf Tryd.prog 71).bind (fun ty => ty.zero) = some [.nilIface] := by rw [ty71]; rfl
theorem ldp74 (H : Heap) (b o : Nat) : loadV Tryd.prog H 74 (.ptr b o) = (hget H b).bind fun k => partL { size := 5, bytes := 40, agg := true, k := .array 5 3, zero := some [.int .i64 0, .int .i64 0, .int .i64 0, .int .i64 0, .int .i64 0] } k o := load_ptr _ H 74 _ ty74 b o
theorem lde74 (H : Heap) (l : List AV) (o : Nat) : loadV Tryd.prog H 74 (.ele l o) = partL { size := 5, bytes := 40, agg := true, k := .array 5 3, zero := some [.int .i64 0, .int .i64 0, .int .i64 0, .int .i64 0, .int .i64 0] } l o := load_ele _ H 74 _ ty74 l o
theorem pl74 (l : List AV) (o : Nat) (h : o + 5 ≤ l.length) : partL { size := 5, bytes := 40, agg := true, k := .array 5 3, zero := some [.int .i64 0, .int .i64 0, .int .i64 0, .int .i64 0, .int .i64 0] } l o = some (.agg ((l.drop o).take 5)) := by rw [partL_agg _ _ _ rfl, if_pos h]
theorem zr74 : (tyOf Tryd.prog 74).bind (fun ty => ty.zero) = some [.int .i64 0, .int .i64 0, .int .i64 0, .int .i64 0, .int .i64 0] := by rw [ty74]; rfl
theorem ldp76 (H : Heap) (b o : Nat) : loadV Tryd.prog H 76 (.ptr b o) = (hget H b).bind fun k => k[o]? := by rw [load_ptr _ H 76 _ ty76 b o]; rfl
theorem lde76 (H : Heap) (l : List AV) (o : Nat) : loadV Tryd.prog H 76 (.ele l o) = l[o]? := by rw [load_ele _ H 76 _ ty76 l o]; rfl
theorem zr76 : (tyOf Tryd.prog 76).bind (fun ty => ty.zero) = some [.slice none 0 0] := by rw [ty76]; rfl
theorem ias76 (n : Nat) (l : List AV) (k : IntKind) (i : Int) (h0 : 0 ≤ i) (h1 : i < n) : indexAddrV Tryd.prog 76 (.sl n l) (.v (.int k i)) = some (.ele l (i.toNat)) := by rw [ia_sl _ 76 3 _ tk76 ty3, if_pos ⟨h0, h1⟩]; rw [Nat.mul_one]
theorem iao76 (z b o n : Nat) (k : IntKind) (i : Int) (h0 : 0 ≤ i) (h1 : i < n) : indexAddrV Tryd.prog 76 (.own z b o n) (.v (.int k i)) = some (.ptr b (o + i.toNat)) := by rw [ia_own _ 76 3 _ tk76 ty3, if_pos ⟨h0, h1⟩]; rw [Nat.mul_one]
theorem lns76 (n : Nat) (l : List AV) : lenV (tyOf Tryd.prog 76) (.sl n l) = some (.v (.int .i64 n)) := by rw [ty76]; exact len_sl _ 3 _ _ rfl
theorem lno76 (z b o n : Nat) : lenV (tyOf Tryd.prog 76) (.own z b o n) = some (.v (.int .i64 n)) := by rw [ty76]; exact len_own _ 3 _ _ _ _ rfl
theorem lnn76 (n : Nat) : lenV (tyOf Tryd.prog 76) (.v (.slice none n 0)) = some (.v (.int .i64 n)) := by rw [ty76]; exact len_nil _ 3 _ rfl
theorem ldp77 (H : Heap) (b o : Nat) : loadV Tryd.prog H 77 (.ptr b o) = (hget H b).bind fun k => partL { size := 4, bytes := 32, agg := true, k := .array 4 3, zero := some [.int .i64 0, .int .i64 0, .int .i64 0, .int .i64 0] } k o := load_ptr _ H 77 _ ty77 b o
theorem lde77 (H : Heap) (l : List AV) (o : Nat) : loadV Tryd.prog H 77 (.ele l o) = partL { size := 4, bytes := 32, agg := true, k := .array 4 3, zero := some [.int .i64 0, .int .i64 0, .int .i64 0, .int .i64 0] } l o := load_ele _ H 77 _ ty77 l o
theorem pl77 (l : List AV) (o : Nat) (h : o + 4 ≤ l.length) : partL { size := 4, bytes := 32, agg := true, k := .array 4 3, zero := some [.int .i64 0, .int .i64 0, .int .i64 0, .int .i64 0] } l o = some (.agg ((l.drop o).take 4)) := by rw [partL_agg _ _ _ rfl, if_pos h]
theorem zr77 : (tyOf Tryd.prog 77).bind (fun ty => ty.zero) = some [.int .i64 0, .int .i64 0, .int .i64 0, .int .i64 0] := by rw [ty77]; rfl
theorem ldp92 (H : Heap) (b o : Nat) : loadV Tryd.prog H 92 (.ptr b o) = (hget H b).bind fun k => k[o]? := by rw [load_ptr _ H 92 _ ty92 b o]; rfl
theorem lde92 (H : Heap) (l : List AV) (o : Nat) : loadV Tryd.prog H 92 (.ele l o) = l[o]? := by rw [load_ele _ H 92 _ ty92 l o]; rfl
theorem zr92 : (tyOf Tryd.prog 92).bind (fun ty => ty.zero) = some [.int .u64 0] := by rw [ty92]; rfl
theorem ldp93 (H : Heap) (b o : Nat) : loadV Tryd.prog H 93 (.ptr b o) = (hget H b).bind fun k => k[o]? := by rw [load_ptr _ H 93 _ ty93 b o]; rfl
theorem lde93 (H : Heap) (l : List AV) (o : Nat) : loadV Tryd.prog H 93 (.ele l o) = l[o]? := by rw [load_ele _ H 93 _ ty93 l o]; rfl
theorem zr93 : (tyOf Tryd.prog 93).bind (fun ty => ty.zero) = some [.pointer none] := by rw [ty93]; rfl
theorem ldp95 (H : Heap) (b o : Nat) : loadV Tryd.prog H 95 (.ptr b o) = (hget H b).bind fun k => partL { size := 4, bytes := 32, agg := true, k := .array 4 49, zero := some [.int .u64 0, .int .u64 0, .int .u64 0, .int .u64 0] } k o := load_ptr _ H 95 _ ty95 b o
theorem lde95 (H : Heap) (l : List AV) (o : Nat) : loadV Tryd.prog H 95 (.ele l o) = partL { size := 4, bytes := 32, agg := true, k := .array 4 49, zero := some [.int .u64 0, .int .u64 0, .int .u64 0, .int .u64 0] } l o := load_ele _ H 95 _ ty95 l o
theorem pl95 (l : List AV) (o : Nat) (h : o + 4 ≤ l.length) : partL { size := 4, bytes := 32, agg := true, k := .array 4 49, zero := some [.int .u64 0, .int .u64 0, .int .u64 0, .int .u64 0] } l o = some (.agg ((l.drop o).take 4)) := by rw [partL_agg _ _ _ rfl, if_pos h]
theorem zr95 : (tyOf Tryd.prog 95).bind (fun ty => ty.zero) = some [.int .u64 0, .int .u64 0, .int .u64 0, .int .u64 0] := by rw [ty95]; rfl
theorem ldp118 (H : Heap) (b o : Nat) : loadV Tryd.prog H 118 (.ptr b o) = (hget H b).bind fun k => partL { size := 8, bytes := 64, agg := true, k := .array 8 49, zero := some [.int .u64 0, .int .u64 0, .int .u64 0, .int .u64 0, .int .u64 0, .int .u64 0, .int .u64 0, .int .u64 0] } k o := load_ptr _ H 118 _ ty118 b o
theorem lde118 (H : Heap) (l : List AV) (o : Nat) : loadV Tryd.prog H 118 (.ele l o) = partL { size := 8, bytes := 64, agg := true, k := .array 8 49, zero := some [.int .u64 0, .int .u64 0, .int .u64 0, .int .u64 0, .int .u64 0, .int .u64 0, .int .u64 0, .int .u64 0] } l o := load_ele _ H 118 _ ty118 l o
theorem pl118 (l : List AV) (o : Nat) (h : o + 8 ≤ l.length) : partL { size := 8, bytes := 64, agg := true, k := .array 8 49, zero := some [.int .u64 0, .int .u64 0, .int .u64 0, .int .u64 0, .int .u64 0, .int .u64 0, .int .u64 0, .int .u64 0] } l o = some (.agg ((l.drop o).take 8)) := by rw [partL_agg _ _ _ rfl, if_pos h]
theorem zr118 : (tyOf Tryd.prog 118).bind (fun ty => ty.zero) = some [.int .u64 0, .int .u64 0, .int .u64 0, .int .u64 0, .int .u64 0, .int .u64 0, .int .u64 0, .int .u64 0] := by rw [ty118]; rfl

attribute [go_sem] ldp1 lde1 zr1 ldp2 lde2 zr2 ldp3 lde3 zr3 ldp4 lde4 zr4 beq4 bne4 ldp5 lde5 zr5 ldp6 lde6 zr6
  ldp7 lde7 pl7 zr7 fap7_0 fae7_0 fd7_0 fap7_1 fae7_1 fd7_1 fap7_2 fae7_2 fd7_2 fap7_3 fae7_3 fd7_3 ldp8 lde8 pl8 zr8
  fap8_0 fae8_0 fd8_0 fap8_1 fae8_1 fd8_1 fap8_2 fae8_2 fd8_2 fap8_3 fae8_3 fd8_3 ldp9 lde9 zr9 lnt9 ldp23 lde23 pl23 zr23
  fap23_0 fae23_0 fd23_0 fap23_1 fae23_1 fd23_1 fap23_2 fae23_2 fd23_2 fap23_3 fae23_3 fd23_3 fap23_4 fae23_4 fd23_4 fap23_5 fae23_5 fd23_5 fap23_6 fae23_6
  fd23_6 fap23_7 fae23_7 fd23_7 fap23_8 fae23_8 fd23_8 fap23_9 fae23_9 fd23_9 ldp25 lde25 zr25 ldp27 lde27 zr27 ias27 iao27 lns27 lno27
  lnn27 ldp28 lde28 zr28 ldp32 lde32 zr32 ias32 iao32 lns32 lno32 lnn32 ldp34 lde34 pl34 zr34 fap34_0 fae34_0 fd34_0 fap34_1
  fae34_1 fd34_1 fap34_2 fae34_2 fd34_2 fap34_3 fae34_3 fd34_3 fap34_4 fae34_4 fd34_4 fap34_5 fae34_5 fd34_5 fap34_6 fae34_6 fd34_6 fap34_7 fae34_7 fd34_7
  ldp43 lde43 zr43 ias43 iao43 lns43 lno43 lnn43 ldp49 lde49 zr49 ldp51 lde51 pl51 zr51 fap51_0 fae51_0 fd51_0 fap51_1 fae51_1
  fd51_1 ldp53 lde53 zr53 ldp60 lde60 zr60 ldp65 lde65 zr65 ldp66 lde66 zr66 ias66 iao66 lns66 lno66 lnn66 ldp68 lde68
  pl68 zr68 fap68_0 fae68_0 fd68_0 fap68_1 fae68_1 fd68_1 ldp71 lde71 zr71 ldp74 lde74 pl74 zr74 ldp76 lde76 zr76 ias76 iao76
  lns76 lno76 lnn76 ldp77 lde77 pl77 zr77 ldp92 lde92 zr92 ldp93 lde93 zr93 ldp95 lde95 pl95 zr95 ldp118 lde118 pl118
  zr118
end Go.Proofs.YtfnapmdedmbdbaaDoor
end
section
set_option linter.unusedVariables false
namespace Go.Proofs.YtfnapmdedmbdbaaDoor
open Go Go.Am
abbrev u6 (n : Int) : AV := .v (.int .u64 n)
/-- The wide integer with a value. -/
abbrev wv (x : Int) : AV := .agg [AV.i (x / 18446744073709551616), u6 (x % 18446744073709551616)]
def Fw (x : Int) : Prop := -170141183460469231731687303715884105728 ≤ x ∧ x ≤ 170141183460469231731687303715884105727
instance (x : Int) : Decidable (Fw x) := inferInstanceAs (Decidable (_ ∧ _))
def fS (n : Int) : Int × Bool := if Fw n then (n, true) else (0, false)
theorem fS_y {n : Int} (h : Fw n) : fS n = (n, true) := by rw [fS, if_pos h]
theorem fS_n {n : Int} (h : ¬ Fw n) : fS n = (0, false) := by rw [fS, if_neg h]
theorem fS_F (n : Int) : Fw (fS n).1 := by
  unfold fS
  split
  · assumption
  · unfold Fw; omega
theorem wv_eq {n a b : Int} (h1 : a = n / 18446744073709551616) (h2 : b = n % 18446744073709551616) : AV.agg [AV.i a, u6 b] = wv n := by rw [h1, h2]
def ab (n : Int) : Int := if n < 0 then -n else n
theorem ab_neg {n : Int} (h : n < 0) : ab n = -n := by rw [ab, if_pos h]
theorem ab_pos {n : Int} (h : ¬ n < 0) : ab n = n := by rw [ab, if_neg h]
theorem ab_rng (n : Int) : 0 ≤ ab n := by unfold ab; split <;> omega
theorem mul_pos' {a b : Int} (ha : 0 ≤ a) (hb : 0 ≤ b) : 0 ≤ a * b := Int.mul_nonneg ha hb
theorem mul_le' {a b c d : Int} (ha : 0 ≤ a) (hc : a ≤ c) (hb : 0 ≤ b) (hd : b ≤ d) : a * b ≤ c * d := Int.mul_le_mul hc hd hb (by omega)
/-- A product, by the sizes and the signs of its factors. -/
theorem ab_mul (a b : Int) : (if (decide (a < 0) != decide (b < 0)) = true then -(ab a * ab b) else ab a * ab b) = a * b := by
  unfold ab
  by_cases h1 : a < 0 <;> by_cases h2 : b < 0 <;> simp [h1, h2] <;> grind
def cmpS (x y : Int) : Int := if x < y then -1 else if x = y then 0 else 1
def ftS (x : Int) : Int × Bool := if -9223372036854775808 ≤ x ∧ x ≤ 9223372036854775807 then (x, true) else (0, false)
def sg (neg : Bool) (m : Int) : Int := if neg = true then -m else m
theorem sg_t {neg : Bool} (h : neg = true) (m : Int) : sg neg m = -m := by rw [sg, if_pos h]
theorem sg_f {neg : Bool} (h : neg = false) (m : Int) : sg neg m = m := by rw [sg, h]; rfl
theorem tupW {a b n : Int} {p q : Bool} (h1 : a = n / 18446744073709551616) (h2 : b = n % 18446744073709551616) (hp : p = q) : AV.tup [AV.agg [AV.i a, u6 b], .v (.bool p)] = AV.tup [wv n, .v (.bool q)] := by rw [h1, h2, hp]
theorem tup3 {a b c d : Int} {p q : Bool} (h1 : a = c) (h2 : b = d) (hp : p = q) : AV.tup [u6 a, u6 b, .v (.bool p)] = AV.tup [u6 c, u6 d, .v (.bool q)] := by rw [h1, h2, hp]
theorem tup2 {a c : Int} {p q : Bool} (h1 : a = c) (hp : p = q) : AV.tup [u6 a, .v (.bool p)] = AV.tup [u6 c, .v (.bool q)] := by rw [h1, hp]
theorem tupI {a c : Int} {p q : Bool} (h1 : a = c) (hp : p = q) : AV.tup [AV.i a, .v (.bool p)] = AV.tup [AV.i c, .v (.bool q)] := by rw [h1, hp]
theorem cmp_sub (x y : Int) : cmpS (x - y) 0 = cmpS x y := by
  unfold cmpS
  by_cases h1 : x < y
  · rw [if_pos (by omega), if_pos h1]
  · rw [if_neg (by omega), if_neg h1]
    by_cases h2 : x = y
    · rw [if_pos (by omega), if_pos h2]
    · rw [if_neg (by omega), if_neg h2]
theorem ab_le {a : Int} (h : -9223372036854775808 ≤ a ∧ a ≤ 9223372036854775807) : ab a ≤ 9223372036854775808 := by unfold ab; split <;> omega
theorem ab_fit {a b : Int} (ha : -9223372036854775808 ≤ a ∧ a ≤ 9223372036854775807) (hb : -9223372036854775808 ≤ b ∧ b ≤ 9223372036854775807) : Fw (a * b) := by
  have h1 := mul_le' (ab_rng a) (ab_le ha) (ab_rng b) (ab_le hb)
  have h2 := mul_pos' (ab_rng a) (ab_rng b)
  have h3 := ab_mul a b
  unfold Fw
  split at h3 <;> omega
/-! ### Operations -/
theorem wrap_u (n : Int) : IntKind.u64.wrap n = n % 18446744073709551616 := by simp [IntKind.wrap, IntKind.bits, IntKind.signed]
theorem cv2_22 (n : Int) : convV Tryd.prog 2 49 (.v (.int .i64 n)) = some (.v (.int .u64 (n % 18446744073709551616))) := by simp only [convV, ty2, tk49, wrap_u]
theorem cv3_22 (n : Int) : convV Tryd.prog 3 49 (.v (.int .i64 n)) = some (.v (.int .u64 (n % 18446744073709551616))) := by simp only [convV, ty3, tk49, wrap_u]
theorem cv22_2 (n : Int) : convV Tryd.prog 49 2 (.v (.int .u64 n)) = some (.v (.int .i64 ((n + 9223372036854775808) % 18446744073709551616 - 9223372036854775808))) := by
  simp only [convV, ty49, tk2]
  rw [IntKind.wrap_i64]
theorem un_xor (n : Int) (h0 : 0 ≤ n) (h1 : n ≤ 18446744073709551615) : unV .xor (.v (.int .u64 n)) = some (.v (.int .u64 (18446744073709551615 - n))) := by
  obtain ⟨m, rfl⟩ : ∃ m : Nat, n = (m : Int) := ⟨n.toNat, by omega⟩
  have e0 : IntKind.u64.max = 18446744073709551615 := rfl
  have es : IntKind.u64.signed = false := rfl
  simp only [unV, intBin, es, e0, Option.map_some, Bool.false_eq_true, if_false]
  congr 4
  have hb : IntKind.u64.bits = 64 := rfl
  rw [hb]
  have h2 : (BitVec.ofInt 64 (18446744073709551615 : Int) ^^^ BitVec.ofInt 64 (m : Int)).toNat = 18446744073709551615 - m := by
    have e1 : BitVec.ofInt 64 (18446744073709551615 : Int) = BitVec.allOnes 64 := by decide
    rw [e1, BitVec.allOnes_xor, BitVec.toNat_not, BitVec.toNat_ofInt]
    omega
  rw [h2, wrap_u]
  omega
theorem shr63 (t : TypeId) (k : IntKind) (n : Int) : binV Tryd.prog .shr t (.v (.int .i64 n)) (.v (.int k 63)) = some (.v (.int .i64 (n / 9223372036854775808))) := by
  simp only [binV, shiftBin]
  rw [if_neg (by decide)]
  simp only [Option.map_some]
  rw [show (2 : Int) ^ min (63 : Int).toNat IntKind.i64.bits = 9223372036854775808 from rfl, Int.fdiv_eq_ediv_of_nonneg _ (by decide)]
theorem eqw (a b c d : Int) : binV Tryd.prog .eql 51 (.agg [AV.i a, u6 b]) (.agg [AV.i c, u6 d]) = some (.v (.bool (a == c && b == d))) := by
  simp [binV, aggEq, eqOk51, tk51, fieldsEq, scalEq, kOf, ty2, ty49]
  cases (a == c) <;> cases (b == d) <;> rfl
theorem new_ (a b c d : Int) : binV Tryd.prog .neq 51 (.agg [AV.i a, u6 b]) (.agg [AV.i c, u6 d]) = some (.v (.bool (!(a == c && b == d)))) := by
  simp [binV, aggEq, eqOk51, tk51, fieldsEq, scalEq, kOf, ty2, ty49]
  cases (a == c) <;> cases (b == d) <;> rfl
set_option maxRecDepth 20000 in
theorem bld0 : buildV Tryd.prog 51 [] = some (.agg [AV.i 0, u6 0]) := by simp only [buildV, ty51]; rfl
theorem bld1 (a b : Int) : buildV Tryd.prog 51 [(0, AV.i a), (1, u6 b)] = some (.agg [AV.i a, u6 b]) := by
  simp only [buildV, ty51, places, ty2, ty49]; rfl
theorem bldL (b : Int) : buildV Tryd.prog 51 [(1, u6 b)] = some (.agg [AV.i 0, u6 b]) := by
  simp only [buildV, ty51, places, ty2, ty49]; rfl
theorem bldH (a : Int) : buildV Tryd.prog 51 [(0, AV.i a)] = some (.agg [AV.i a, u6 0]) := by
  simp only [buildV, ty51, places, ty2, ty49]; rfl
theorem take2 (x y : AV) : List.take 2 [x, y] = [x, y] := rfl
theorem sL2 (x y c d : AV) : setL [x, y] 0 [c, d] = [c, d] := rfl
theorem sL0 (x y c : AV) : setL [x, y] 0 [c] = [c, y] := rfl
theorem sL1 (x y c : AV) : setL [x, y] 1 [c] = [x, c] := rfl
attribute [go_sem] sL2 sL0 sL1 wrap_u cv2_22 cv3_22 cv22_2 un_xor shr63 eqw new_ bld0 bld1 bldL bldH take2
end Go.Proofs.YtfnapmdedmbdbaaDoor
end
section
set_option linter.unusedVariables false
set_option linter.unusedSimpArgs false
namespace Go.Proofs.YtfnapmdedmbdbaaDoor
open Go Go.Am
structure St where
  (tm pl wn sh ls pt rf bf ra ba : Int)
deriving DecidableEq
def inS (n : Int) : Prop := 0 ≤ n ∧ n ≤ 1048576
instance (n : Int) : Decidable (inS n) := by unfold inS; exact inferInstance
def okS (s : St) : Prop := inS s.rf ∧ inS s.bf ∧ inS s.ra ∧ inS s.ba
instance (s : St) : Decidable (okS s) := by unfold okS inS; exact inferInstance
def one (n : Int) : Int := if n = 0 then 1 else n
def nil0 (n m : Int) : Int := if n = 0 then 0 else m
theorem nil0_y {n m : Int} (h : n = 0) : nil0 n m = 0 := if_pos h
theorem nil0_n {n m : Int} (h : ¬ n = 0) : nil0 n m = m := if_neg h
theorem one_y {n : Int} (h : n = 0) : one n = 1 := if_pos h
theorem one_n {n : Int} (h : ¬ n = 0) : one n = n := if_neg h
def rxn (s : St) : Int := nil0 s.bf s.rf * one s.ba - nil0 s.ba s.ra * one s.bf
def rxd (s : St) : Int := one s.bf * one s.ba
theorem one_rng {n : Int} (h : inS n) : 1 ≤ one n ∧ one n ≤ 1048576 := by unfold inS at h; unfold one; split <;> omega
theorem nil0_rng {n m : Int} (h : inS m) : 0 ≤ nil0 n m ∧ nil0 n m ≤ 1048576 := by unfold inS at h; unfold nil0; split <;> omega
theorem mul_rng {a b : Int} (ha : 0 ≤ a ∧ a ≤ 1048576) (hb : 0 ≤ b ∧ b ≤ 1048576) : 0 ≤ a * b ∧ a * b ≤ 1099511627776 :=
  ⟨Int.mul_nonneg ha.1 hb.1, by have := Int.mul_le_mul ha.2 hb.2 hb.1 (by omega : (0 : Int) ≤ 1048576); omega⟩
theorem rxd_rng {s : St} (h : okS s) : 1 ≤ rxd s ∧ rxd s ≤ 1099511627776 := by
  obtain ⟨h1, h2, h3, h4⟩ := h
  have a := one_rng h2
  have b := one_rng h4
  have c := mul_rng (a := one s.bf) (b := one s.ba) (by omega) (by omega)
  have d : 0 < one s.bf * one s.ba := Int.mul_pos (by omega) (by omega)
  unfold rxd
  omega
theorem rxn_rng {s : St} (h : okS s) : -1099511627776 ≤ rxn s ∧ rxn s ≤ 1099511627776 := by
  obtain ⟨h1, h2, h3, h4⟩ := h
  have a := one_rng h2
  have b := one_rng h4
  have c := mul_rng (a := nil0 s.bf s.rf) (b := one s.ba) (nil0_rng h1) (by omega)
  have d := mul_rng (a := nil0 s.ba s.ra) (b := one s.bf) (nil0_rng h3) (by omega)
  unfold rxn
  omega
def crS (a b : St) : Int := if okS a ∧ okS b then cmpS (rxn a * rxd b) (rxn b * rxd a) else 0
theorem cmpS_anti (x y : Int) : cmpS y x = -cmpS x y := by
  unfold cmpS
  split <;> split <;> first | omega | (split <;> omega)
theorem crS_anti (a b : St) : crS b a = -crS a b := by
  unfold crS
  by_cases h : okS a ∧ okS b
  · rw [if_pos h, if_pos ⟨h.2, h.1⟩, cmpS_anti]
  · rw [if_neg h, if_neg fun h1 => h ⟨h1.2, h1.1⟩]; rfl
def bf9 (p : Prop) [Decidable p] : Int := if p then -1 else 1
def cmS (a b : St) : Int :=
  if a.pt ≠ b.pt then bf9 (a.pt > b.pt) else if a.wn ≠ b.wn then bf9 (a.wn > b.wn) else if crS a b ≠ 0 then -crS a b else if a.tm ≠ b.tm then bf9 (a.tm < b.tm) else 0
theorem cmS_anti (a b : St) : cmS b a = -cmS a b := by
  have h := crS_anti a b
  unfold cmS bf9
  by_cases h1 : a.pt = b.pt
  · by_cases h2 : a.wn = b.wn
    · by_cases h3 : crS a b = 0
      · have h4 : crS b a = 0 := by omega
        by_cases h5 : a.tm = b.tm
        · simp [h1, h2, h3, h4, h5]
        · have : ¬ b.tm = a.tm := fun e => h5 e.symm
          simp only [h1, h2, h3, h4, ne_eq, not_true_eq_false, if_false, h5, this, not_false_eq_true, if_true]
          split <;> split <;> omega
      · have h4 : ¬ crS b a = 0 := by omega
        simp only [h1, h2, h3, h4, ne_eq, not_true_eq_false, if_false, not_false_eq_true, if_true]
        omega
    · have : ¬ b.wn = a.wn := fun e => h2 e.symm
      simp only [h1, h2, this, ne_eq, not_true_eq_false, if_false, not_false_eq_true, if_true]
      split <;> split <;> omega
  · have : ¬ b.pt = a.pt := fun e => h1 e.symm
    simp only [h1, this, ne_eq, not_false_eq_true, if_true]
    split <;> split <;> omega
/-- Two fractions in order, a third behind them. -/
theorem fr_le {a b c d e f : Int} (hd : 0 < d) (hb : 0 ≤ b) (hf : 0 ≤ f) (h1 : a * d ≤ c * b) (h2 : c * f ≤ e * d) : a * f ≤ e * b := by
  have k1 := Int.mul_le_mul_of_nonneg_right h1 hf
  have k2 := Int.mul_le_mul_of_nonneg_right h2 hb
  have k3 : a * f * d ≤ e * b * d := by
    have e1 : a * f * d = a * d * f := by rw [Int.mul_assoc, Int.mul_comm f d, ← Int.mul_assoc]
    have e2 : e * b * d = e * d * b := by rw [Int.mul_assoc, Int.mul_comm b d, ← Int.mul_assoc]
    have e3 : c * b * f = c * f * b := by rw [Int.mul_assoc, Int.mul_comm b f, ← Int.mul_assoc]
    omega
  exact Int.le_of_mul_le_mul_right k3 hd
theorem fr_lt {a b c d e f : Int} (hd : 0 < d) (hb : 0 < b) (hf : 0 ≤ f) (h1 : a * d ≤ c * b) (h2 : c * f < e * d) : a * f < e * b := by
  have k1 := Int.mul_le_mul_of_nonneg_right h1 hf
  have k2 := Int.mul_lt_mul_of_pos_right h2 hb
  have k3 : a * f * d < e * b * d := by
    have e1 : a * f * d = a * d * f := by rw [Int.mul_assoc, Int.mul_comm f d, ← Int.mul_assoc]
    have e2 : e * b * d = e * d * b := by rw [Int.mul_assoc, Int.mul_comm b d, ← Int.mul_assoc]
    have e3 : c * b * f = c * f * b := by rw [Int.mul_assoc, Int.mul_comm b f, ← Int.mul_assoc]
    omega
  exact Int.lt_of_mul_lt_mul_right k3 (Int.le_of_lt hd)
theorem fr_lt' {a b c d e f : Int} (hd : 0 < d) (hb : 0 ≤ b) (hf : 0 < f) (h1 : a * d < c * b) (h2 : c * f ≤ e * d) : a * f < e * b := by
  have k1 := Int.mul_lt_mul_of_pos_right h1 hf
  have k2 := Int.mul_le_mul_of_nonneg_right h2 hb
  have k3 : a * f * d < e * b * d := by
    have e1 : a * f * d = a * d * f := by rw [Int.mul_assoc, Int.mul_comm f d, ← Int.mul_assoc]
    have e2 : e * b * d = e * d * b := by rw [Int.mul_assoc, Int.mul_comm b d, ← Int.mul_assoc]
    have e3 : c * b * f = c * f * b := by rw [Int.mul_assoc, Int.mul_comm b f, ← Int.mul_assoc]
    omega
  exact Int.lt_of_mul_lt_mul_right k3 (Int.le_of_lt hd)
theorem cmpS_neg {x y : Int} : cmpS x y ≤ 0 ↔ x ≤ y := by
  unfold cmpS
  split
  · constructor <;> intro <;> omega
  · split <;> constructor <;> intro <;> omega
theorem cmpS_lt {x y : Int} : cmpS x y < 0 ↔ x < y := by
  unfold cmpS
  split
  · constructor <;> intro <;> omega
  · split <;> constructor <;> intro <;> omega
theorem crS_ok {a b : St} (ha : okS a) (hb : okS b) : crS a b = cmpS (rxn a * rxd b) (rxn b * rxd a) := if_pos ⟨ha, hb⟩
theorem crS_le {a b c : St} (ha : okS a) (hb : okS b) (hc : okS c) (h1 : crS a b ≤ 0) (h2 : crS b c ≤ 0) : crS a c ≤ 0 := by
  rw [crS_ok ha hb, cmpS_neg] at h1
  rw [crS_ok hb hc, cmpS_neg] at h2
  rw [crS_ok ha hc, cmpS_neg]
  have := rxd_rng ha; have := rxd_rng hb; have := rxd_rng hc
  exact fr_le (d := rxd b) (by omega) (by omega) (by omega) h1 h2
theorem crS_lt {a b c : St} (ha : okS a) (hb : okS b) (hc : okS c) (h1 : crS a b ≤ 0) (h2 : crS b c < 0) : crS a c < 0 := by
  rw [crS_ok ha hb, cmpS_neg] at h1
  rw [crS_ok hb hc, cmpS_lt] at h2
  rw [crS_ok ha hc, cmpS_lt]
  have := rxd_rng ha; have := rxd_rng hb; have := rxd_rng hc
  exact fr_lt (d := rxd b) (by omega) (by omega) (by omega) h1 h2
theorem crS_lt' {a b c : St} (ha : okS a) (hb : okS b) (hc : okS c) (h1 : crS a b < 0) (h2 : crS b c ≤ 0) : crS a c < 0 := by
  rw [crS_ok ha hb, cmpS_lt] at h1
  rw [crS_ok hb hc, cmpS_neg] at h2
  rw [crS_ok ha hc, cmpS_lt]
  have := rxd_rng ha; have := rxd_rng hb; have := rxd_rng hc
  exact fr_lt' (d := rxd b) (by omega) (by omega) (by omega) h1 h2
/-- The order of places, spelled out. -/
theorem cmS_le (a b : St) : cmS a b ≤ 0 ↔ a.pt > b.pt ∨ (a.pt = b.pt ∧ (a.wn > b.wn ∨ (a.wn = b.wn ∧ (crS b a < 0 ∨ (crS b a ≤ 0 ∧ crS a b ≤ 0 ∧ a.tm ≤ b.tm))))) := by
  have h := crS_anti a b
  unfold cmS bf9
  by_cases h1 : a.pt = b.pt
  · by_cases h2 : a.wn = b.wn
    · by_cases h3 : crS a b = 0
      · by_cases h5 : a.tm = b.tm
        · simp only [h1, h2, h3, h5, ne_eq, not_true_eq_false, if_false, true_and, false_and, or_false]
          constructor <;> intro <;> omega
        · simp only [h1, h2, h3, ne_eq, not_true_eq_false, if_false, h5, not_false_eq_true, if_true, true_and, false_and, or_false]
          split <;> constructor <;> intro <;> omega
      · simp only [h1, h2, h3, ne_eq, not_true_eq_false, if_false, not_false_eq_true, if_true, true_and, false_and, or_false]
        constructor <;> intro <;> omega
    · simp only [h1, h2, ne_eq, not_true_eq_false, if_false, not_false_eq_true, if_true, true_and, false_and, or_false]
      split <;> constructor <;> intro <;> omega
  · simp only [h1, ne_eq, not_false_eq_true, if_true, true_and, false_and, or_false]
    split <;> constructor <;> intro <;> omega
theorem cmS_trans {a b c : St} (ha : okS a) (hb : okS b) (hc : okS c) (h1 : cmS a b ≤ 0) (h2 : cmS b c ≤ 0) : cmS a c ≤ 0 := by
  rw [cmS_le] at h1 h2 ⊢
  have k1 := crS_lt (a := c) (b := b) (c := a) hc hb ha
  have k2 := crS_lt' (a := c) (b := b) (c := a) hc hb ha
  have k3 := crS_le (a := c) (b := b) (c := a) hc hb ha
  have k4 := crS_le (a := a) (b := b) (c := c) ha hb hc
  rcases h1 with h1 | ⟨e1, h1⟩
  · rcases h2 with h2 | ⟨e2, h2⟩ <;> exact .inl (by omega)
  · rcases h2 with h2 | ⟨e2, h2⟩
    · exact .inl (by omega)
    · refine .inr ⟨by omega, ?_⟩
      rcases h1 with h1 | ⟨f1, h1⟩
      · rcases h2 with h2 | ⟨f2, h2⟩ <;> exact .inl (by omega)
      · rcases h2 with h2 | ⟨f2, h2⟩
        · exact .inl (by omega)
        · refine .inr ⟨by omega, ?_⟩
          rcases h1 with h1 | ⟨g1, g2, g3⟩
          · rcases h2 with h2 | ⟨h2, _, _⟩
            · exact .inl (k1 (by omega) h1)
            · exact .inl (k1 h2 h1)
          · rcases h2 with h2 | ⟨h2, h3, h4⟩
            · exact .inl (k2 h2 g1)
            · exact .inr ⟨k3 h2 g1, k4 g2 h3, by omega⟩
/-! ### What the walks meet -/
def rtN (z : St) : Int := if okS z then rxn z else 0
def rtD (z : St) : Int := if okS z then rxd z else 1
theorem rtN_y {z : St} (h : okS z) : rtN z = rxn z := if_pos h
theorem rtD_y {z : St} (h : okS z) : rtD z = rxd z := if_pos h
theorem rtN_n {z : St} (h : ¬ okS z) : rtN z = 0 := if_neg h
theorem rtD_n {z : St} (h : ¬ okS z) : rtD z = 1 := if_neg h
theorem rt_rng (z : St) : (-1099511627776 ≤ rtN z ∧ rtN z ≤ 1099511627776) ∧ 1 ≤ rtD z ∧ rtD z ≤ 1099511627776 := by
  by_cases h : okS z
  · rw [rtN_y h, rtD_y h]; exact ⟨rxn_rng h, rxd_rng h⟩
  · rw [rtN_n h, rtD_n h]; omega
theorem prod_rng {z : St} (h : okS z) : (0 ≤ nil0 z.bf z.rf * one z.ba ∧ nil0 z.bf z.rf * one z.ba ≤ 1099511627776) ∧ (0 ≤ nil0 z.ba z.ra * one z.bf ∧ nil0 z.ba z.ra * one z.bf ≤ 1099511627776) ∧ 1 ≤ one z.bf * one z.ba ∧ one z.bf * one z.ba ≤ 1099511627776 := by
  have hd := rxd_rng h
  obtain ⟨h1, h2, h3, h4⟩ := h
  have a := one_rng h2
  have b := one_rng h4
  exact ⟨mul_rng (nil0_rng h1) (by omega), mul_rng (nil0_rng h3) (by omega), hd⟩
def gt4 (z : St) (j : Nat) : Int := [z.rf, z.bf, z.ra, z.ba].getD j 0
theorem gt4_ok {z : St} (h : ∀ j, j < 4 → inS (gt4 z j)) : okS z := ⟨h 0 (by decide), h 1 (by decide), h 2 (by decide), h 3 (by decide)⟩
theorem gt4_no {z : St} {j : Nat} (hj : j < 4) (h : ¬ inS (gt4 z j)) : ¬ okS z := fun hz => by
  obtain ⟨h1, h2, h3, h4⟩ := hz
  have : j = 0 ∨ j = 1 ∨ j = 2 ∨ j = 3 := by omega
  rcases this with rfl | rfl | rfl | rfl
  · exact h h1
  · exact h h2
  · exact h h3
  · exact h h4
theorem crS_rng (y z : St) : -1 ≤ crS y z ∧ crS y z ≤ 1 := by
  unfold crS cmpS
  split
  · split
    · omega
    · split <;> omega
  · omega
theorem cm_pt {y z : St} (h : ¬ y.pt = z.pt) : cmS y z = if decide (z.pt < y.pt) = true then -1 else 1 := by
  simp only [cmS, bf9, h, ne_eq, not_false_eq_true, if_true, decide_eq_true_eq, gt_iff_lt]
theorem cm_wn {y z : St} (h : y.pt = z.pt) (h1 : ¬ y.wn = z.wn) : cmS y z = if decide (z.wn < y.wn) = true then -1 else 1 := by
  simp only [cmS, bf9, h, h1, ne_eq, not_true_eq_false, if_false, not_false_eq_true, if_true, decide_eq_true_eq, gt_iff_lt]
theorem cm_cr {y z : St} (h : y.pt = z.pt) (h1 : y.wn = z.wn) (h2 : ¬ crS y z = 0) : cmS y z = -crS y z := by
  simp only [cmS, bf9, h, h1, h2, ne_eq, not_true_eq_false, if_false, not_false_eq_true, if_true]
theorem cm_cr0 {y z : St} (h : y.pt = z.pt) (h1 : y.wn = z.wn) (h2 : ¬ crS y z = 0) : cmS y z = 0 - crS y z := by rw [cm_cr h h1 h2]; omega
theorem cm_cr' {y z : St} (h : y.pt = z.pt) (h1 : y.wn = z.wn) (h2 : ¬ crS y z = 0) : cmS y z = if decide (0 < crS y z) = true then -1 else 1 := by
  have := crS_rng y z
  rw [cm_cr h h1 h2]
  simp only [decide_eq_true_eq]
  split <;> omega
theorem cm_tm {y z : St} (h : y.pt = z.pt) (h1 : y.wn = z.wn) (h2 : crS y z = 0) (h3 : ¬ y.tm = z.tm) : cmS y z = if decide (y.tm < z.tm) = true then -1 else 1 := by
  simp only [cmS, bf9, h, h1, h2, h3, ne_eq, not_true_eq_false, if_false, not_false_eq_true, if_true, decide_eq_true_eq]
theorem cm_0 {y z : St} (h : y.pt = z.pt) (h1 : y.wn = z.wn) (h2 : crS y z = 0) (h3 : y.tm = z.tm) : cmS y z = 0 := by
  simp only [cmS, bf9, h, h1, h2, h3, ne_eq, not_true_eq_false, if_false]
theorem cmS_rng (y z : St) : -1 ≤ cmS y z ∧ cmS y z ≤ 1 := by
  have := crS_rng y z
  unfold cmS bf9
  split
  · split <;> omega
  · split
    · split <;> omega
    · split
      · omega
      · split
        · split <;> omega
        · omega
/-- A standing in the machine. -/
abbrev stL (z : St) : List AV := [AV.i z.tm, AV.i z.pl, AV.i z.wn, AV.i z.sh, AV.i z.ls, AV.i z.pt, AV.i z.rf, AV.i z.bf, AV.i z.ra, AV.i z.ba]
abbrev stA (z : St) : AV := .agg (stL z)
theorem ix77 (z : St) (i : Nat) (h : i < 4) : indexV Tryd.prog 77 (.agg [AV.i z.rf, AV.i z.bf, AV.i z.ra, AV.i z.ba]) (AV.i (i : Int)) = some (AV.i (gt4 z i)) := by
  have : i = 0 ∨ i = 1 ∨ i = 2 ∨ i = 3 := by omega
  simp only [indexV, tk77, ty3]
  rcases this with rfl | rfl | rfl | rfl <;> rfl
theorem bld77 (a b c d : Int) : buildV Tryd.prog 77 [(0, AV.i a), (1, AV.i b), (2, AV.i c), (3, AV.i d)] = some (.agg [AV.i a, AV.i b, AV.i c, AV.i d]) := by kernel_rfl
attribute [go_sem] bld77
end Go.Proofs.YtfnapmdedmbdbaaDoor
end
section
set_option linter.unusedVariables false
namespace Go.Proofs.YtfnapmdedmbdbaaDoor
open Go Go.Am Go.Sort
abbrev SO := {z : St // okS z}
instance : Inhabited SO := ⟨⟨⟨0, 0, 0, 0, 0, 0, 0, 0, 0, 0⟩, by decide⟩⟩
def cmO (x y : SO) : Int := cmS x.1 y.1
def encS (z : SO) : List Value := [.int .i64 z.1.tm, .int .i64 z.1.pl, .int .i64 z.1.wn, .int .i64 z.1.sh, .int .i64 z.1.ls, .int .i64 z.1.pt, .int .i64 z.1.rf, .int .i64 z.1.bf, .int .i64 z.1.ra, .int .i64 z.1.ba]
theorem cmS_self (x : St) : cmS x x = 0 := by have := cmS_anti x x; omega
theorem cmS_zero {x y : St} (h : cmS x y = 0) : x.tm = y.tm := by
  have h0 := cmS_anti x y
  have h1 := (cmS_le x y).1 (by omega)
  have h2 := (cmS_le y x).1 (by omega)
  have h3 := crS_anti x y
  omega
theorem lt_iff (x y : SO) : ltOf cmO x y = true ↔ cmS x.1 y.1 < 0 := by unfold ltOf cmO; simp
theorem lt_not (x y : SO) : ltOf cmO x y = false ↔ cmS y.1 x.1 ≤ 0 := by
  have := cmS_anti x.1 y.1
  unfold ltOf cmO
  simp
  omega
theorem swoS : SWO (ltOf cmO) where
  irrefl x := by rw [lt_not, cmS_self]; omega
  trans x y z h1 h2 := by
    rw [lt_iff] at *
    have a := cmS_trans x.2 y.2 z.2 (by omega) (by omega)
    rcases Int.lt_or_eq_of_le a with h | h
    · exact h
    · have b := cmS_trans z.2 x.2 y.2 (by have := cmS_anti x.1 z.1; omega) (by omega : cmS x.1 y.1 ≤ 0)
      have := cmS_anti y.1 z.1
      omega
  ntrans x y z h1 h2 := by
    rw [lt_not] at *
    exact cmS_trans z.2 y.2 x.2 h2 h1
/-- A standing laid into a row that is read from its end. -/
def insR (s : SO) : List SO → List SO
  | [] => [s]
  | a :: r => if cmS s.1 a.1 < 0 then a :: insR s r else s :: a :: r
def sortL (ps : List SO) : List SO := ps.foldl (fun o s => (insR s o.reverse).reverse) []
theorem insR_perm (s : SO) : ∀ l, (insR s l).Perm (s :: l)
  | [] => List.Perm.refl _
  | a :: r => by
    unfold insR
    split
    · exact ((insR_perm s r).cons a).trans (List.Perm.swap s a r)
    · exact List.Perm.refl _
theorem insR_sorted (s : SO) : ∀ l : List SO, l.Pairwise (fun x y => cmO y x ≤ 0) → (insR s l).Pairwise (fun x y => cmO y x ≤ 0)
  | [], _ => List.pairwise_singleton _ _
  | a :: r, h => by
    have ha := List.pairwise_cons.mp h
    unfold insR
    split
    · rename_i hs
      refine List.pairwise_cons.mpr ⟨fun y hy => ?_, insR_sorted s r ha.2⟩
      rcases List.mem_cons.mp ((insR_perm s r).mem_iff.mp hy) with rfl | hy
      · exact Int.le_of_lt hs
      · exact ha.1 y hy
    · rename_i hs
      have h0 : cmO a s ≤ 0 := by have := cmS_anti s.1 a.1; unfold cmO; omega
      refine List.pairwise_cons.mpr ⟨fun y hy => ?_, h⟩
      rcases List.mem_cons.mp hy with rfl | hy
      · exact h0
      · exact cmS_trans y.2 a.2 s.2 (ha.1 y hy) h0
theorem fold_perm : ∀ (ps o : List SO), (ps.foldl (fun o s => (insR s o.reverse).reverse) o).Perm (o ++ ps)
  | [], o => by simp
  | p :: ps, o => by
    rw [List.foldl_cons]
    refine (fold_perm ps _).trans ?_
    refine (List.Perm.append_right ps ((List.reverse_perm _).trans ((insR_perm p _).trans ((List.reverse_perm o).cons p)))).trans ?_
    exact List.perm_middle.symm
theorem fold_sorted : ∀ (ps o : List SO), o.Pairwise (fun x y => cmO x y ≤ 0) → (ps.foldl (fun o s => (insR s o.reverse).reverse) o).Pairwise (fun x y => cmO x y ≤ 0)
  | [], o, h => h
  | p :: ps, o, h => by
    rw [List.foldl_cons]
    refine fold_sorted ps _ ?_
    rw [List.pairwise_reverse]
    exact insR_sorted p _ (by rw [List.pairwise_reverse]; exact h)
theorem sortL_perm (ps : List SO) : (sortL ps).Perm ps := fold_perm ps []
theorem sortL_sorted (ps : List SO) : (sortL ps).Pairwise (fun x y => cmO x y ≤ 0) := fold_sorted ps [] List.Pairwise.nil
theorem nodup_tm {l : List SO} (h : (l.map (·.1.tm)).Nodup) {x y : SO} (hx : x ∈ l) (hy : y ∈ l) (e : x.1.tm = y.1.tm) : x = y := by
  induction l with
  | nil => cases hx
  | cons a r ih =>
    rw [List.map_cons, List.nodup_cons] at h
    rcases List.mem_cons.mp hx with h1 | h1 <;> rcases List.mem_cons.mp hy with h2 | h2
    · rw [h1, h2]
    · subst h1
      exact (h.1 (List.mem_map.mpr ⟨y, h2, e.symm⟩)).elim
    · subst h2
      exact (h.1 (List.mem_map.mpr ⟨x, h1, e⟩)).elim
    · exact ih h.2 h1 h2
theorem sort_unique {l l' : List SO} (hp : l'.Perm l) (hs : l'.Pairwise (fun x y => cmO x y ≤ 0)) (hn : (l.map (·.1.tm)).Nodup) : l' = sortL l := by
  refine List.Perm.eq_of_pairwise (le := fun x y => cmO x y ≤ 0) (fun a b ha hb h1 h2 => ?_) hs (sortL_sorted l) (hp.trans (sortL_perm l).symm)
  refine nodup_tm hn (hp.mem_iff.mp ha) ((sortL_perm l).mem_iff.mp hb) (cmS_zero ?_)
  have := cmS_anti a.1 b.1
  unfold cmO at h1 h2
  omega
theorem sorted_is {d d' : Array SO} (hp : PermIn 0 d.size d d') (hs : SortedIn (ltOf cmO) 0 d.size d') (hn : (d.toList.map (·.1.tm)).Nodup) : d'.toList = sortL d.toList := by
  obtain ⟨h1, _, h2⟩ := hp
  have e1 : d'.extract 0 d.size = d' := by rw [← h1]; simp
  have e2 : d.extract 0 d.size = d := by simp
  rw [e1, e2] at h2
  refine sort_unique h2 ?_ hn
  rw [List.pairwise_iff_getElem]
  intro i j hi hj hij
  have hi' : i < d'.size := by simpa using hi
  have hj' : j < d'.size := by simpa using hj
  have := hs i j (Nat.zero_le _) hij (by omega)
  rw [lt_not, getElem!_pos d' i hi', getElem!_pos d' j hj'] at this
  simpa [cmO] using this
end Go.Proofs.YtfnapmdedmbdbaaDoor
end
section
set_option linter.unusedVariables false
set_option linter.unusedSimpArgs false
namespace Go.Proofs.YtfnapmdedmbdbaaDoor
open Go Go.Am
structure Pl where
  (ho aw hr hb ar ab wi : Int) (vo : Bool)
deriving DecidableEq
instance : Inhabited Pl := ⟨⟨0, 0, 0, 0, 0, 0, 0, false⟩⟩
abbrev plC (p : Pl) : List AV := [AV.i p.ho, AV.i p.aw, AV.i p.hr, AV.i p.hb, AV.i p.ar, AV.i p.ab, AV.i p.wi, .v (.bool p.vo)]
def flatP (l : List Pl) : List AV := (l.map plC).flatten
abbrev plsAV (l : List Pl) : AV := .sl l.length (flatP l)
abbrev gp (l : List Pl) (u : Nat) : Pl := l.getD u default
theorem flatP_len (l : List Pl) : (flatP l).length = l.length * 8 := by
  induction l with
  | nil => rfl
  | cons s l ih => unfold flatP at ih ⊢; rw [List.map_cons, List.flatten_cons, List.length_append, ih]; simp; omega
theorem flatP_get : ∀ (l : List Pl) (u k : Nat), u < l.length → k < 8 → (flatP l)[u * 8 + k]? = (plC (gp l u))[k]?
  | [], u, k, h, _ => by simp at h
  | s :: l, 0, k, _, hk => by
    unfold flatP
    rw [List.map_cons, List.flatten_cons, Nat.zero_mul, Nat.zero_add, List.getElem?_append_left (by simpa using hk)]
    rfl
  | s :: l, u + 1, k, h, hk => by
    have ih := flatP_get l u k (by simpa using h) hk
    unfold flatP at ih ⊢
    rw [List.map_cons, List.flatten_cons, List.getElem?_append_right (by simp; omega)]
    rw [show (u + 1) * 8 + k - (plC s).length = u * 8 + k by simp; omega, ih]
    rfl
theorem cut_of {F : List AV} {C : List AV} {z o : Nat} (hC : C.length = z) (h : ∀ k, k < z → F[o + k]? = C[k]?) : (F.drop o).take z = C := by
  apply List.ext_getElem?
  intro j
  rw [List.getElem?_take, List.getElem?_drop]
  by_cases hj : j < z
  · rw [if_pos hj, h j hj]
  · rw [if_neg hj, List.getElem?_eq_none (by omega)]
/-! ### The first nonzero of a row -/
def ferr (f : Nat → Int) : Nat → Int
  | 0 => 0
  | n + 1 => if ferr f n ≠ 0 then ferr f n else f n
theorem ferr_at {f : Nat → Int} {u : Nat} (h : ferr f u = 0) (hf : f u ≠ 0) : ∀ n, u < n → ferr f n = f u
  | 0, hn => by omega
  | n + 1, hn => by
    unfold ferr
    by_cases hu : u = n
    · subst hu; rw [if_neg (by simp [h])]
    · rw [ferr_at h hf n (by omega), if_pos hf]
theorem ferr_ok {f : Nat → Int} {u : Nat} (h : ferr f u = 0) (hf : f u = 0) : ferr f (u + 1) = 0 := by
  unfold ferr
  rw [if_neg (by simp [h]), hf]
theorem ferr_all {f : Nat → Int} : ∀ {n : Nat}, ferr f n = 0 → ∀ i, i < n → f i = 0
  | 0, _, i, hi => by omega
  | n + 1, h, i, hi => by
    unfold ferr at h
    by_cases h0 : ferr f n ≠ 0
    · rw [if_pos h0] at h; exact absurd h h0
    · rw [if_neg h0] at h
      by_cases hi2 : i = n
      · subst hi2; exact h
      · exact ferr_all (Decidable.not_not.mp h0) i (by omega)
/-- The error of a result of n teams. -/
def plE (n : Int) (p : Pl) : Int :=
  if p.ho < 0 ∨ n ≤ p.ho ∨ p.aw < 0 ∨ n ≤ p.aw ∨ p.ho = p.aw then 1
  else if p.hr < 0 ∨ 2000 < p.hr ∨ p.ar < 0 ∨ 2000 < p.ar ∨ p.hb < 0 ∨ 1000 < p.hb ∨ p.ab < 0 ∨ 1000 < p.ab then 2
  else if p.wi < 0 ∨ 2 < p.wi then 3
  else if p.vo = true ∧ (p.wi ≠ 0 ∨ p.hr ≠ 0 ∨ p.hb ≠ 0 ∨ p.ar ≠ 0 ∨ p.ab ≠ 0) then 11 else 0
def chS (n : Int) (l : List Pl) : Int := if n < 2 ∨ 20 < n then 2 else if 400 < l.length then 9 else ferr (fun i => plE n (gp l i)) l.length
theorem chS_a {n : Int} {l : List Pl} (h : n < 2 ∨ 20 < n) : chS n l = 2 := if_pos h
theorem chS_b {n : Int} {l : List Pl} (h : ¬ (n < 2 ∨ 20 < n)) (h1 : 400 < l.length) : chS n l = 9 := by rw [chS, if_neg h, if_pos h1]
theorem chS_c {n : Int} {l : List Pl} {u : Nat} {e : Int} (h : ¬ (n < 2 ∨ 20 < n)) (h1 : ¬ 400 < l.length) (hu : u < l.length) (hf : ferr (fun i => plE n (gp l i)) u = 0) (he : plE n (gp l u) = e) (h0 : e ≠ 0) : chS n l = e := by
  rw [chS, if_neg h, if_neg h1, ferr_at hf (by rw [he]; exact h0) l.length hu, he]
theorem chS_d {n : Int} {l : List Pl} (h : ¬ (n < 2 ∨ 20 < n)) (h1 : ¬ 400 < l.length) (hf : ferr (fun i => plE n (gp l i)) l.length = 0) : chS n l = 0 := by
  rw [chS, if_neg h, if_neg h1, hf]
theorem plE_1 {n : Int} {p : Pl} (h : p.ho < 0 ∨ n ≤ p.ho ∨ p.aw < 0 ∨ n ≤ p.aw ∨ p.ho = p.aw) : plE n p = 1 := if_pos h
theorem plE_2 {n : Int} {p : Pl} (h : ¬ (p.ho < 0 ∨ n ≤ p.ho ∨ p.aw < 0 ∨ n ≤ p.aw ∨ p.ho = p.aw)) (h1 : p.hr < 0 ∨ 2000 < p.hr ∨ p.ar < 0 ∨ 2000 < p.ar ∨ p.hb < 0 ∨ 1000 < p.hb ∨ p.ab < 0 ∨ 1000 < p.ab) : plE n p = 2 := by rw [plE, if_neg h, if_pos h1]
theorem plE_3 {n : Int} {p : Pl} (h : ¬ (p.ho < 0 ∨ n ≤ p.ho ∨ p.aw < 0 ∨ n ≤ p.aw ∨ p.ho = p.aw)) (h1 : ¬ (p.hr < 0 ∨ 2000 < p.hr ∨ p.ar < 0 ∨ 2000 < p.ar ∨ p.hb < 0 ∨ 1000 < p.hb ∨ p.ab < 0 ∨ 1000 < p.ab)) (h2 : p.wi < 0 ∨ 2 < p.wi) : plE n p = 3 := by rw [plE, if_neg h, if_neg h1, if_pos h2]
theorem plE_4 {n : Int} {p : Pl} (h : ¬ (p.ho < 0 ∨ n ≤ p.ho ∨ p.aw < 0 ∨ n ≤ p.aw ∨ p.ho = p.aw)) (h1 : ¬ (p.hr < 0 ∨ 2000 < p.hr ∨ p.ar < 0 ∨ 2000 < p.ar ∨ p.hb < 0 ∨ 1000 < p.hb ∨ p.ab < 0 ∨ 1000 < p.ab)) (h2 : ¬ (p.wi < 0 ∨ 2 < p.wi)) (h3 : p.vo = true ∧ (p.wi ≠ 0 ∨ p.hr ≠ 0 ∨ p.hb ≠ 0 ∨ p.ar ≠ 0 ∨ p.ab ≠ 0)) : plE n p = 11 := by rw [plE, if_neg h, if_neg h1, if_neg h2, if_pos h3]
theorem plE_0 {n : Int} {p : Pl} (h : ¬ (p.ho < 0 ∨ n ≤ p.ho ∨ p.aw < 0 ∨ n ≤ p.aw ∨ p.ho = p.aw)) (h1 : ¬ (p.hr < 0 ∨ 2000 < p.hr ∨ p.ar < 0 ∨ 2000 < p.ar ∨ p.hb < 0 ∨ 1000 < p.hb ∨ p.ab < 0 ∨ 1000 < p.ab)) (h2 : ¬ (p.wi < 0 ∨ 2 < p.wi)) (h3 : ¬ (p.vo = true ∧ (p.wi ≠ 0 ∨ p.hr ≠ 0 ∨ p.hb ≠ 0 ∨ p.ar ≠ 0 ∨ p.ab ≠ 0))) : plE n p = 0 := by rw [plE, if_neg h, if_neg h1, if_neg h2, if_neg h3]
theorem plE_z {n : Int} {p : Pl} (h : plE n p = 0) : (0 ≤ p.ho ∧ p.ho < n ∧ 0 ≤ p.aw ∧ p.aw < n ∧ p.ho ≠ p.aw) ∧ ((0 ≤ p.hr ∧ p.hr ≤ 2000) ∧ (0 ≤ p.ar ∧ p.ar ≤ 2000) ∧ (0 ≤ p.hb ∧ p.hb ≤ 1000) ∧ 0 ≤ p.ab ∧ p.ab ≤ 1000) ∧ 0 ≤ p.wi ∧ p.wi ≤ 2 := by
  unfold plE at h
  split at h
  · cases h
  split at h
  · cases h
  split at h
  · cases h
  omega
/-! ### Standings -/
/-- A result counted for one of its teams. -/
def cnS (s : St) (wi r b o a w : Int) : St :=
  { s with pl := s.pl + 1, rf := s.rf + r, bf := s.bf + b, ra := s.ra + o, ba := s.ba + a, sh := if wi = 0 then s.sh + 1 else s.sh, wn := if wi ≠ 0 ∧ wi = w then s.wn + 1 else s.wn, ls := if wi ≠ 0 ∧ wi ≠ w then s.ls + 1 else s.ls, pt := if wi = 0 then s.pt + 1 else if wi = w then s.pt + 2 else s.pt }
theorem cn_0 {s : St} {wi r b o a w : Int} (h : wi = 0) : cnS s wi r b o a w = ⟨s.tm, s.pl + 1, s.wn, s.sh + 1, s.ls, s.pt + 1, s.rf + r, s.bf + b, s.ra + o, s.ba + a⟩ := by simp [cnS, h]
theorem cn_w {s : St} {wi r b o a w : Int} (h : ¬ wi = 0) (h1 : wi = w) : cnS s wi r b o a w = ⟨s.tm, s.pl + 1, s.wn + 1, s.sh, s.ls, s.pt + 2, s.rf + r, s.bf + b, s.ra + o, s.ba + a⟩ := by subst h1; simp [cnS, h]
theorem cn_l {s : St} {wi r b o a w : Int} (h : ¬ wi = 0) (h1 : ¬ wi = w) : cnS s wi r b o a w = ⟨s.tm, s.pl + 1, s.wn, s.sh, s.ls + 1, s.pt, s.rf + r, s.bf + b, s.ra + o, s.ba + a⟩ := by simp [cnS, h, h1]
def upS (t : Int) (s : St) (p : Pl) : St := if p.aw = t then cnS s p.wi p.ar p.ab p.hr p.hb 2 else if p.ho = t then cnS s p.wi p.hr p.hb p.ar p.ab 1 else s
/-- The standing of a team after results. -/
def stdS (l : List Pl) (t : Int) : St := l.foldl (upS t) ⟨t, 0, 0, 0, 0, 0, 0, 0, 0, 0⟩
theorem stdS_snoc (l : List Pl) (u : Nat) (hu : u < l.length) (t : Int) : stdS (l.take (u + 1)) t = upS t (stdS (l.take u) t) (gp l u) := by
  have e : l.take (u + 1) = l.take u ++ [gp l u] := by
    rw [List.take_add_one, List.getElem?_eq_getElem hu]
    simp [gp, List.getD, List.getElem?_eq_getElem hu]
  rw [stdS, e, List.foldl_append]
  rfl
/-- What holds of a standing after u results. -/
def StI (u : Nat) (t : Int) (s : St) : Prop := s.tm = t ∧ s.pt = 2 * s.wn + s.sh ∧ s.pl = s.wn + s.sh + s.ls ∧ (0 ≤ s.wn ∧ 0 ≤ s.sh ∧ 0 ≤ s.ls ∧ s.pl ≤ u) ∧ (0 ≤ s.rf ∧ s.rf ≤ 2000 * u) ∧ (0 ≤ s.bf ∧ s.bf ≤ 1000 * u) ∧ (0 ≤ s.ra ∧ s.ra ≤ 2000 * u) ∧ 0 ≤ s.ba ∧ s.ba ≤ 1000 * u
theorem cnS_inv {u : Nat} {t : Int} {s : St} {wi r b o a w : Int} (h : StI u t s) (hr : 0 ≤ r ∧ r ≤ 2000) (hb : 0 ≤ b ∧ b ≤ 1000) (ho : 0 ≤ o ∧ o ≤ 2000) (ha : 0 ≤ a ∧ a ≤ 1000) (hw : w ≠ 0) : StI (u + 1) t (cnS s wi r b o a w) := by
  unfold StI at h ⊢
  obtain ⟨h1, h2, h3, h4, h5, h6, h7, h8⟩ := h
  unfold cnS
  simp only
  by_cases c : wi = 0
  · simp only [c, if_true, ne_eq, not_true_eq_false, false_and, if_false]
    omega
  · by_cases d : wi = w
    · simp only [c, d, hw, if_true, ne_eq, not_true_eq_false, not_false_eq_true, true_and, and_false, and_true, if_false]
      omega
    · simp only [c, d, ne_eq, not_false_eq_true, true_and, if_true, if_false, and_self, and_false]
      omega
theorem stdS_inv {n : Int} {l : List Pl} (hl : ∀ i, i < l.length → plE n (gp l i) = 0) (t : Int) : ∀ u, u ≤ l.length → StI u t (stdS (l.take u) t)
  | 0, _ => by rw [List.take_zero]; unfold StI stdS; simp
  | u + 1, hu => by
    have ih := stdS_inv hl t u (by omega)
    have hz := plE_z (hl u (by omega))
    rw [stdS_snoc l u (by omega)]
    unfold upS
    split
    · exact cnS_inv ih (by omega) (by omega) (by omega) (by omega) (by decide)
    · split
      · exact cnS_inv ih (by omega) (by omega) (by omega) (by omega) (by decide)
      · unfold StI at ih ⊢
        omega
theorem stI_ok {u : Nat} {t : Int} {s : St} (h : StI u t s) (hu : u ≤ 400) : okS s := by
  unfold StI at h
  unfold okS inS
  omega
/-- The standings of n teams after results, in the order of their numbers. -/
def stds (n : Nat) (l : List Pl) : List St := (List.range n).map fun t : Nat => stdS l (t : Int)
theorem stds_len (n : Nat) (l : List Pl) : (stds n l).length = n := by simp [stds]
end Go.Proofs.YtfnapmdedmbdbaaDoor
end
section
namespace Go.Am
open Go
/-- One block was made, the others are as they were. -/
structure MNew (H H' : Heap) (k : Blk) : Prop where
  len : H'.length = H.length + 1
  new : hget H' H.length = some k
  old : ∀ b, b < H.length → hget H' b = hget H b
/-- One block was written. -/
structure MWrote (H : Heap) (b : Nat) (H' : Heap) (k : Blk) : Prop where
  len : H'.length = H.length
  new : hget H' b = some k
  old : ∀ c, c ≠ b → hget H' c = hget H c
/-- One block was made in place of another one. -/
structure MGrew (H : Heap) (b : Nat) (H' : Heap) (k : Blk) : Prop where
  len : H'.length = H.length + 1
  new : hget H' H.length = some k
  old : ∀ c, c ≠ b → c < H.length → hget H' c = hget H c
theorem MNew.of (H : Heap) (k : Blk) : MNew H (H ++ [some k]) k := ⟨by simp, by simp [hget], fun b hb => hget_low _ _ _ hb⟩
theorem MWrote.of (H : Heap) {b : Nat} (k : Blk) (hb : b < H.length) : MWrote H b (hset H b (some k)) k :=
  ⟨by simp [hset], by simp [hget, hset, hb], fun c hc => by simp [hget, hset, Ne.symm hc]⟩
theorem MGrew.of (H : Heap) (b : Nat) (k : Blk) : MGrew H b (hset H b none ++ [some k]) k :=
  ⟨by simp [hset], by simp [hget, hset], fun c hc hl => by
    rw [hget_low _ _ _ (by simpa [hset] using hl)]
    simp [hget, hset, Ne.symm hc]⟩
theorem MGrew.ofNew {H H' : Heap} {k : Blk} (b : Nat) (h : MNew H H' k) : MGrew H b H' k := ⟨h.len, h.new, fun c _ hl => h.old c hl⟩
section
variable {S : Sig} {lim : Nat} {ops : Array Oper} {l : List Oper} {e : Env} {H : Heap} {K : Env → Heap → Prop} {d : Option Tmp} {ty : TypeId} {pos : String} {af : Array Edge}
theorem A_alloc {t : TypeId} {z : List Value} (hz : (tyOf S.P t).bind (fun ty => ty.zero) = some z) (hk : ∀ H', MNew H H' (z.map .v) → Rp S lim ops l (e.put d (.ptr H.length 0)) H' K) : Rp S lim ops (⟨d, .alloc t, ty, pos, af, none⟩ :: l) e H K :=
  R_alloc hz rfl rfl (hk _ (MNew.of _ _))
theorem A_box {t : TypeId} {x : Operand} {c : List AV} (ht : (tyOf S.P t).isSome = true) (hc : cellsOf (evO e x) = some c) (hk : ∀ H', MNew H H' c → Rp S lim ops l (e.put d (.ptr H.length 0)) H' K) : Rp S lim ops (⟨d, .box t x, ty, pos, af, none⟩ :: l) e H K :=
  R_box ht hc rfl rfl (hk _ (MNew.of _ _))
theorem A_store {t : TypeId} {tyy : Ty} {a x : Operand} {b o : Nat} {c : List AV} {k : Blk} (ht : tyOf S.P t = some tyy) (ha : evO e a = .ptr b o) (hc : cellsOf (evO e x) = some c) (hb : hget H b = some k) (hl : lim ≤ b ∧ c.length = tyy.size ∧ o + tyy.size ≤ k.length) {k' : Blk} (hk' : setL k o c = k')
    (hk : ∀ H', MWrote H b H' k' → Rp S lim ops l (e.put d (.v undef)) H' K) : Rp S lim ops (⟨d, .store t a x, ty, pos, af, none⟩ :: l) e H K :=
  R_store ht ha hc hb hl hk' rfl (hk _ (MWrote.of _ _ (hget_lt hb)))
theorem A_append {x y : Operand} {t : TypeId} {r : AV} {b : Nat} {k : Blk} (h : ∃ H', appendV S.P lim H t (evO e x) (evO e y) = some (r, H') ∧ MGrew H b H' k) (hk : ∀ H', MGrew H b H' k → Rp S lim ops l (e.put d r) H' K) :
    Rp S lim ops (⟨d, .call ⟨.builtin .append, #[x, y], #[t, t]⟩, ty, pos, af, none⟩ :: l) e H K := by
  obtain ⟨H', h1, h2⟩ := h
  exact R_append h1 (hk _ h2)
theorem A_buildSlice {t : TypeId} {n : Nat} {parts : Array (Nat × Operand)} {r : AV} {k : Blk} (h : effV S.P lim (.buildSlice t n parts) (evO e) H = some (r, H ++ [some k])) (hk : ∀ H', MNew H H' k → Rp S lim ops l (e.put d r) H' K) : Rp S lim ops (⟨d, .buildSlice t n parts, ty, pos, af, none⟩ :: l) e H K :=
  R_buildSlice h (hk _ (MNew.of _ _))
theorem A_makeSlice {t : TypeId} {n c : Operand} {r : AV} {k : Blk} (h : effV S.P lim (.makeSlice t n c) (evO e) H = some (r, H ++ [some k])) (hk : ∀ H', MNew H H' k → Rp S lim ops l (e.put d r) H' K) : Rp S lim ops (⟨d, .makeSlice t n c, ty, pos, af, none⟩ :: l) e H K :=
  R_makeSlice h (hk _ (MNew.of _ _))
theorem Rp_env {e' : Env} (h : e = e') (hk : Rp S lim ops l e' H K) : Rp S lim ops l e H K := h ▸ hk
end
theorem wrC_store {R : List Nat} {d : Option Tmp} {ty : TypeId} {pos : String} {af : Array Edge} {g : Option (Nat × Bool)} {t : TypeId} {a x : Operand} {e : Env} {b o : Nat} (h : evO e a = .ptr b o) (hb : b ∉ R) : wrC R ⟨d, .store t a x, ty, pos, af, g⟩ e = true := by
  simp only [wrC, wrV, h]
  simpa using hb
theorem rls2 {S : Sig} {lim : Nat} {dr : List (Nat × Draw)} {loc : Env} {H : Heap} {Q : Ex → St → Prop} {c : Code} {p : List Nat} {id : Nat} {ops : Array Oper} {lead m m2 fin live keep : List Nat} {ms : List (List Nat)} (h : at' c p = .region id ops true) (hd : dr.lookup id = some (.led lead (m :: m2 :: ms) fin live keep))
    (hw : Lp S ops H (fun e _ => Rp S H.length ops (pick ops m) e H (fun e1 H1 => Alts S ops live keep H.length e H e1 H1 (m2 :: ms) ∧
      Rp S lim ops (pick ops fin) (cutE ops live loc e1) (keepOnly keep H.length H1) fun e' H' => Q .normal ⟨trim e' loc, H'⟩)) (pick ops lead) loc []) : W S lim dr (at' c p) ⟨loc, H⟩ Q := by
  rw [h]
  obtain ⟨e, R, h1, hw⟩ := runLead_of_Lp _ _ _ hw
  obtain ⟨n1, e1', H1', h2, ha, hf⟩ := runOps_of_Rp _ _ _ _ hw
  obtain ⟨n2, h3⟩ := altsOK_of _ ha
  obtain ⟨n3, e3, H3, h4, hw⟩ := runOps_of_Rp _ _ _ _ hf
  refine ⟨max n1 (max n2 n3) + 1, .normal, ⟨trim e3 loc, H3⟩, ?_, hw⟩
  simp only [exec, region, if_true, hd, led, h1, runOps_mono (acall_mono S n1 (max n1 (max n2 n3) + 1) (by omega)) _ _ _ _ h2, altsOK_mono (acall_mono S n2 (max n1 (max n2 n3) + 1) (by omega)) _ h3, runOps_mono (acall_mono S n3 (max n1 (max n2 n3) + 1) (by omega)) _ _ _ _ h4, Option.map_some]
theorem rls3 {S : Sig} {lim : Nat} {dr : List (Nat × Draw)} {loc : Env} {H : Heap} {Q : Ex → St → Prop} {c : Code} {p : List Nat} {id : Nat} {ops : Array Oper} {lead mid lead2 m m2 fin live keep : List Nat} {ms : List (List Nat)} (h : at' c p = .region id ops true) (hd : dr.lookup id = some (.led2 lead mid lead2 (m :: m2 :: ms) fin live keep))
    (hw : Lp S ops H (fun e R => Rp S H.length ops (pick ops mid) e H (fun e1 H1 => H1 = H ∧ Lp S ops H (fun e2 _ => Rp S H.length ops (pick ops m) e2 H (fun e3 H3 => Alts S ops live keep H.length e2 H e3 H3 (m2 :: ms) ∧
      Rp S lim ops (pick ops fin) (cutE ops live loc e3) (keepOnly keep H.length H3) fun e' H' => Q .normal ⟨trim e' loc, H'⟩)) (pick ops lead2) e1 R)) (pick ops lead) loc []) : W S lim dr (at' c p) ⟨loc, H⟩ Q := by
  rw [h]
  obtain ⟨e, R, h1, hw⟩ := runLead_of_Lp _ _ _ hw
  obtain ⟨n0, e1, H1, h2, rfl, hw⟩ := runOps_of_Rp _ _ _ _ hw
  obtain ⟨e2, R2, h3, hw⟩ := runLead_of_Lp _ _ _ hw
  obtain ⟨n1, e3, H3, h4, ha, hf⟩ := runOps_of_Rp _ _ _ _ hw
  obtain ⟨n2, h5⟩ := altsOK_of _ ha
  obtain ⟨n3, e4, H4, h6, hw⟩ := runOps_of_Rp _ _ _ _ hf
  refine ⟨max (max n0 n1) (max n2 n3) + 1, .normal, ⟨trim e4 loc, H4⟩, ?_, hw⟩
  simp only [exec, region, if_true, hd, led23, led2, h1, runOps_mono (acall_mono S n0 (max (max n0 n1) (max n2 n3) + 1) (by omega)) _ _ _ _ h2, h3, runOps_mono (acall_mono S n1 (max (max n0 n1) (max n2 n3) + 1) (by omega)) _ _ _ _ h4, altsOK_mono (acall_mono S n2 (max (max n0 n1) (max n2 n3) + 1) (by omega)) _ h5, runOps_mono (acall_mono S n3 (max (max n0 n1) (max n2 n3) + 1) (by omega)) _ _ _ _ h6, Option.map_some]
theorem rl3 {S : Sig} {lim : Nat} {dr : List (Nat × Draw)} {loc : Env} {H : Heap} {Q : Ex → St → Prop} {c : Code} {p : List Nat} {id : Nat} {ops : Array Oper} {lead mid lead2 m fin live keep : List Nat} (h : at' c p = .region id ops true) (hd : dr.lookup id = some (.led2 lead mid lead2 [m] fin live keep)) (hm0 : ¬ mid = [])
    (hw : Lp S ops H (fun e R => Mp S lim ops R (fun e1 H1 => Lp S ops H1 (fun e2 R2 => Mp S lim ops R2 (fun e3 H3 => Rp S lim ops (pick ops fin) e3 H3 fun e' H' => Q .normal ⟨trim e' loc, H'⟩) (pick ops m) e2 H1) (pick ops lead2) e1 []) (pick ops mid) e H) (pick ops lead) loc []) : W S lim dr (at' c p) ⟨loc, H⟩ Q := by
  rw [h]
  obtain ⟨e, R, h1, hw⟩ := runLead_of_Lp _ _ _ hw
  obtain ⟨n0, e1, H1, h2, hw⟩ := runMid_of_Mp _ _ _ hw
  obtain ⟨e2, R2, h3, hw⟩ := runLead_of_Lp _ _ _ hw
  obtain ⟨n2, e3, H3, h5, hf⟩ := runMid_of_Mp _ _ _ hw
  obtain ⟨n3, e4, H4, h6, hw⟩ := runOps_of_Rp _ _ _ _ hf
  refine ⟨max n0 (max n2 n3) + 1, .normal, ⟨trim e4 loc, H4⟩, ?_, hw⟩
  simp only [exec, region, if_true, hd, led23, if_neg hm0, led3, h1, runMid_mono (acall_mono S n0 (max n0 (max n2 n3) + 1) (by omega)) _ _ _ _ h2, h3, runMid_mono (acall_mono S n2 (max n0 (max n2 n3) + 1) (by omega)) _ _ _ _ h5, runOps_mono (acall_mono S n3 (max n0 (max n2 n3) + 1) (by omega)) _ _ _ _ h6, Option.map_some]
theorem rl4 {S : Sig} {lim : Nat} {dr : List (Nat × Draw)} {loc : Env} {H : Heap} {Q : Ex → St → Prop} {c : Code} {p : List Nat} {id : Nat} {ops : Array Oper} {lead lead2 m fin live keep : List Nat} (h : at' c p = .region id ops true) (hd : dr.lookup id = some (.led2 lead [] lead2 [m] fin live keep))
    (hw : Lp S ops H (fun e R => Lp S ops H (fun e2 _ => Mp S lim ops R (fun e3 H3 => Rp S lim ops (pick ops fin) e3 H3 fun e' H' => Q .normal ⟨trim e' loc, H'⟩) (pick ops m) e2 H) (pick ops lead2) e R) (pick ops lead) loc []) : W S lim dr (at' c p) ⟨loc, H⟩ Q := by
  rw [h]
  obtain ⟨e, R, h1, hw⟩ := runLead_of_Lp _ _ _ hw
  obtain ⟨e2, R2, h3, hw⟩ := runLead_of_Lp _ _ _ hw
  obtain ⟨n2, e3, H3, h5, hf⟩ := runMid_of_Mp _ _ _ hw
  obtain ⟨n3, e4, H4, h6, hw⟩ := runOps_of_Rp _ _ _ _ hf
  refine ⟨max n2 n3 + 1, .normal, ⟨trim e4 loc, H4⟩, ?_, hw⟩
  simp only [exec, region, if_true, hd, led23, led4, h1, h3, runMid_mono (acall_mono S n2 (max n2 n3 + 1) (by omega)) _ _ _ _ h5, runOps_mono (acall_mono S n3 (max n2 n3 + 1) (by omega)) _ _ _ _ h6, Option.map_some]
/-- Two blocks that are made in either order. -/
theorem two_same {H : Heap} {live : List Nat} {e0 e1 : Env} {A B : Blk} (hA : ∀ f, A.map (ren f 8) = A) (hB : ∀ f, B.map (ren f 8) = B)
    (hl : ∀ t ∈ live, (ren (rnB H.length [1, 0]) 8 (e1.get t)) = e0.get t) : SameUp H.length live [0, 1] e0 (H ++ [some A] ++ [some B]) e1 (H ++ [some B] ++ [some A]) := by
  refine ⟨[1, 0], by simp, by simp, by simp, by decide, by decide, by decide, hl, ?_⟩
  intro k hk
  simp only [List.mem_cons, List.not_mem_nil, or_false] at hk
  rcases hk with rfl | rfl
  · simp [hget, hA]
  · simp [hget, hB]
theorem two_id {H : Heap} {live : List Nat} {e0 e1 : Env} {A B : Blk} (hA : ∀ f, A.map (ren f 8) = A) (hB : ∀ f, B.map (ren f 8) = B)
    (hl : ∀ t ∈ live, (ren (rnB H.length [0, 1]) 8 (e1.get t)) = e0.get t) : SameUp H.length live [0, 1] e0 (H ++ [some A] ++ [some B]) e1 (H ++ [some A] ++ [some B]) := by
  refine ⟨[0, 1], by simp, by simp, by simp, by decide, by decide, by decide, hl, ?_⟩
  intro k hk
  simp only [List.mem_cons, List.not_mem_nil, or_false] at hk
  rcases hk with rfl | rfl
  · simp [hget, hA]
  · simp [hget, hB]
theorem keep_two (H : Heap) (A B : Option Blk) : keepOnly [0, 1] H.length (H ++ [A] ++ [B]) = H ++ [A] ++ [B] := by
  unfold keepOnly
  apply List.ext_getElem?
  intro i
  rw [List.getElem?_mapIdx]
  by_cases h : i < H.length
  · simp [h]
  · by_cases h2 : i < (H ++ [A] ++ [B]).length
    · have : i - H.length = 0 ∨ i - H.length = 1 := by simp at h2; omega
      rcases this with h3 | h3 <;> simp [h3]
    · rw [List.getElem?_eq_none (by omega)]; rfl
end Go.Am
end
