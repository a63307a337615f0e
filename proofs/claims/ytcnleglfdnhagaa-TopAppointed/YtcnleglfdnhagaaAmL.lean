/-
  The abstract machine, symbolically: the laws by which simp walks a region.
-/
import Derived.Test.YtcnleglfdnhagaaAmW
namespace Go.Am
open Go
section
variable {S : Sig}

/-! ### Slots -/
theorem get_cons (k : Nat) (x : AV) (r : Env) (t : Nat) : Env.get ((k, x) :: r) t = if t = k then x else Env.get r t := rfl
theorem get_nil (t : Nat) : Env.get [] t = .any := rfl
theorem getD_cons (k : Nat) (x : AV) (r : Env) (t : Nat) (d : AV) : Env.getD ((k, x) :: r) t d = if t = k then x else Env.getD r t d := rfl
theorem getD_nil (t : Nat) (d : AV) : Env.getD [] t d = d := rfl
theorem put_some (e : Env) (t : Nat) (x : AV) : Env.put e (some t) x = (t, x) :: e := rfl
theorem put_none (e : Env) (x : AV) : Env.put e none x = e := rfl
theorem ev_tmp (e : Env) (t : Nat) : evO e (.tmp t) = e.get t := rfl
theorem ev_int (e : Env) (k : IntKind) (n : Int) : evO e (.const (.int k n)) = .v (.int k n) := rfl
theorem ev_bool (e : Env) (b : Bool) : evO e (.const (.bool b)) = .v (.bool b) := rfl
theorem ev_str (e : Env) (s : ByteArray) : evO e (.const (.string s)) = .v (.string s) := rfl
theorem ev_nil (e : Env) : evO e (.const (.slice none 0 0)) = .v (.slice none 0 0) := rfl
theorem ev_func (e : Env) (f : FuncId) : evO e (.func f) = .clo f [] := rfl
theorem ev_agg (e : Env) (cs : Array Value) : evO e (.const (.agg cs)) = .agg (cs.toList.map .v) := rfl
theorem trim_def (e loc : Env) : trim e loc = loc.map fun p => (p.1, Env.getD (e.take (e.length - loc.length)) p.1 p.2) := rfl

/-! ### Memory -/
theorem hget_app (H : Heap) (l : List (Option Blk)) : hget (H ++ l) H.length = (l[0]?).join := by
  simp [hget, List.getElem?_append_right]
theorem hget_app' (H : Heap) (l : List (Option Blk)) (k : Nat) : hget (H ++ l) (H.length + k) = (l[k]?).join := by
  simp [hget, List.getElem?_append_right]
theorem hset_app (H : Heap) (l : List (Option Blk)) (x : Option Blk) : hset (H ++ l) H.length x = H ++ l.set 0 x := by simp [hset]
theorem hset_app' (H : Heap) (l : List (Option Blk)) (k : Nat) (x : Option Blk) : hset (H ++ l) (H.length + k) x = H ++ l.set k x := by simp [hset]
theorem len_app1 (H : Heap) (x : Option Blk) : (H ++ [x]).length = H.length + 1 := by simp

/-! ### The operations -/
section
variable (lim : Nat) (e : Env) (H : Heap) (K : AV → Heap → Prop)
theorem opP_load (t : TypeId) (a : Operand) : opP S lim (.load t a) e H K = optP (loadV S.P H t (evO e a)) (K · H) := rfl
theorem opP_move (x : Operand) : opP S lim (.move x) e H K = K (evO e x) H := rfl
theorem opP_assign (x : Operand) : opP S lim (.assign x) e H K = K (evO e x) H := rfl
theorem opP_call (f : FuncId) (args : Array Operand) (ts : Array TypeId) : opP S lim (.call ⟨.value (.func f), args, ts⟩) e H K = ACall S lim f (args.toList.map (evO e)) H K := by
  simp only [opP, evO, List.append_nil]
def cloP (x : AV) (K : FuncId → List AV → Prop) : Prop :=
  match x with
  | .clo g l => K g l
  | _ => False
@[congr] theorem cloP_congr {x x' : AV} (K : FuncId → List AV → Prop) (h : x = x') : cloP x K = cloP x' K := by rw [h]
theorem cloP_clo (g : FuncId) (l : List AV) (K : FuncId → List AV → Prop) : cloP (.clo g l) K = K g l := rfl
theorem opP_callv (t : Nat) (args : Array Operand) (ts : Array TypeId) : opP S lim (.call ⟨.value (.tmp t), args, ts⟩) e H K = cloP (e.get t) fun g l => ACall S lim g (args.toList.map (evO e) ++ l) H K := by
  simp only [opP, evO, cloP] <;> cases e.get t <;> rfl
theorem opP_alloc (t : TypeId) : opP S lim (.alloc t) e H K = optP ((tyOf S.P t).bind fun ty => ty.zero) fun z => K (.ptr H.length 0) (H ++ [some (z.map .v)]) := by
  simp only [opP, effV, optP]
  cases tyOf S.P t with
  | none => rfl
  | some ty =>
    simp only [Option.bind_some]
    cases ty.zero <;> rfl
theorem opP_box (t : TypeId) (x : Operand) : opP S lim (.box t x) e H K = optP (tyOf S.P t) fun _ => optP (cellsOf (evO e x)) fun c => K (.ptr H.length 0) (H ++ [some c]) := by
  simp only [opP, effV, optP]
  cases tyOf S.P t with
  | none => rfl
  | some ty => cases cellsOf (evO e x) <;> rfl
def storeP (lim size : Nat) (a : AV) (c : Option (List AV)) (H : Heap) (K : AV → Heap → Prop) : Prop :=
  match a with
  | .ptr b o => optP c fun c => optP (hget H b) fun k => (lim ≤ b ∧ c.length = size ∧ o + size ≤ k.length) ∧ K (.v undef) (hset H b (some (setL k o c)))
  | _ => False
@[congr] theorem storeP_congr (lim size : Nat) {a a' : AV} {c c' : Option (List AV)} (H : Heap) (K : AV → Heap → Prop) (h : a = a') (h' : c = c') : storeP lim size a c H K = storeP lim size a' c' H K := by rw [h, h']
theorem storeP_ptr (size b o : Nat) (c : List AV) : storeP lim size (.ptr b o) (some c) H K = optP (hget H b) fun k => (lim ≤ b ∧ c.length = size ∧ o + size ≤ k.length) ∧ K (.v undef) (hset H b (some (setL k o c))) := rfl
theorem opP_store (t : TypeId) (a x : Operand) : opP S lim (.store t a x) e H K = optP (tyOf S.P t) fun ty => storeP lim ty.size (evO e a) (cellsOf (evO e x)) H K := by
  simp only [opP, effV, optP, storeP]
  cases tyOf S.P t with
  | none => rfl
  | some ty =>
    simp only
    cases evO e a <;> try rfl
    cases cellsOf (evO e x) with
    | none => rfl
    | some c =>
      simp only
      rename_i b o
      cases hget H b with
      | none => rfl
      | some k =>
        simp only
        by_cases h : lim ≤ b ∧ c.length = ty.size ∧ o + ty.size ≤ List.length k
        · simp only [if_pos h]; simp [h]
        · simp only [if_neg h]; simp [h]
theorem opP_buildSlice (t : TypeId) (n : Nat) (parts : Array (Nat × Operand)) : opP S lim (.buildSlice t n parts) e H K = optP (effV S.P lim (.buildSlice t n parts) (evO e) H) fun r => K r.1 r.2 := rfl
theorem opP_makeSlice (t : TypeId) (l c : Operand) : opP S lim (.makeSlice t l c) e H K = optP (effV S.P lim (.makeSlice t l c) (evO e) H) fun r => K r.1 r.2 := rfl
theorem opP_append (x y : Operand) (t : TypeId) : opP S lim (.call ⟨.builtin .append, #[x, y], #[t, t]⟩) e H K = optP (appendV S.P lim H t (evO e x) (evO e y)) fun r => K r.1 r.2 := by
  simp [opP, effV]
theorem opP_binOp (op : BinOp) (t : TypeId) (x y : Operand) (ty : TypeId) : opP S lim (.binOp op t x y ty) e H K = optP (binV S.P op t (evO e x) (evO e y)) (K · H) := rfl
theorem opP_unOp (op : UnOp) (t : TypeId) (x : Operand) : opP S lim (.unOp op t x) e H K = optP (unV op (evO e x)) (K · H) := rfl
def pickP (c a b : AV) (K : AV → Prop) : Prop :=
  match c with
  | .v (.bool t) => K (if t then a else b)
  | _ => False
@[congr] theorem pickP_congr {c c' a a' b b' : AV} (K : AV → Prop) (h : c = c') (h1 : a = a') (h2 : b = b') : pickP c a b K = pickP c' a' b' K := by rw [h, h1, h2]
theorem pickP_bool (t : Bool) (a b : AV) (K : AV → Prop) : pickP (.v (.bool t)) a b K = K (if t then a else b) := rfl
theorem opP_pick (c a b : Operand) : opP S lim (.pick c a b) e H K = pickP (evO e c) (evO e a) (evO e b) (K · H) := by
  simp only [opP, popV, pickP, optP]
  cases evO e c with
  | v x => cases x <;> rfl
  | _ => rfl
theorem opP_build (t : TypeId) (parts : Array (Nat × Operand)) : opP S lim (.build t parts) e H K = optP (buildV S.P t (parts.toList.map fun p => (p.1, evO e p.2))) (K · H) := rfl
theorem opP_nilCheck (x : Operand) : opP S lim (.nilCheck x) e H K = optP (popV S.P (.nilCheck x) (evO e)) (K · H) := rfl
theorem opP_convert (s d : TypeId) (x : Operand) {y : AV} (h : convV S.P s d (evO e x) = some y) : opP S lim (.convert s d x) e H K = K y H := by simp only [opP, h]
theorem opP_bytes (s d : TypeId) (x : Operand) (h : convV S.P s d (evO e x) = none) : opP S lim (.convert s d x) e H K = optP (effV S.P lim (.convert s d x) (evO e) H) fun r => K r.1 r.2 := by simp only [opP, h]
theorem opP_makeFunc (f : FuncId) (c : Array Operand) : opP S lim (.makeFunc (.func f) #[] c) e H K = K (.clo f (c.toList.map (evO e))) H := rfl
theorem opP_slice (t : TypeId) (x : Operand) (lo hi : Option Operand) : opP S lim (.slice t x lo hi none) e H K = optP (sliceV S.P t (evO e x) (lo.map (evO e)) (hi.map (evO e))) (K · H) := rfl
theorem opP_fieldAddr (s : TypeId) (x : Operand) (f : Nat) : opP S lim (.fieldAddr s x f) e H K = optP (fieldAddrV S.P s (evO e x) f) (K · H) := rfl
theorem opP_field (s : TypeId) (x : Operand) (f : Nat) : opP S lim (.field s x f) e H K = optP (fieldV S.P s (evO e x) f) (K · H) := rfl
theorem opP_indexAddr (t : TypeId) (x i : Operand) : opP S lim (.indexAddr t x i) e H K = optP (indexAddrV S.P t (evO e x) (evO e i)) (K · H) := rfl
theorem opP_index (t : TypeId) (x i : Operand) : opP S lim (.index t x i) e H K = optP (indexV S.P t (evO e x) (evO e i)) (K · H) := rfl
def tupP (x : AV) (i : Nat) (K : AV → Prop) : Prop :=
  match x with
  | .tup l => optP l[i]? K
  | _ => False
@[congr] theorem tupP_congr {x x' : AV} (i : Nat) (K : AV → Prop) (h : x = x') : tupP x i K = tupP x' i K := by rw [h]
theorem tupP_tup (l : List AV) (i : Nat) (K : AV → Prop) : tupP (.tup l) i K = optP l[i]? K := rfl
theorem opP_extract (t : Operand) (i : Nat) : opP S lim (.extract t i) e H K = tupP (evO e t) i (K · H) := by
  simp only [opP, popV, tupP, optP]
  cases evO e t <;> rfl
theorem opP_len (x : Operand) (t : TypeId) : opP S lim (.call ⟨.builtin .len, #[x], #[t]⟩) e H K = optP (lenV (tyOf S.P t) (evO e x)) (K · H) := rfl
theorem opP_max (args : Array Operand) (ts : Array TypeId) : opP S lim (.call ⟨.builtin .max, args, ts⟩) e H K = optP (popV S.P (.call ⟨.builtin .max, args, ts⟩) (evO e)) (K · H) := rfl
theorem opP_min (args : Array Operand) (ts : Array TypeId) : opP S lim (.call ⟨.builtin .min, args, ts⟩) e H K = optP (popV S.P (.call ⟨.builtin .min, args, ts⟩) (evO e)) (K · H) := rfl
theorem pop_max2 (P : Program) (x y : Operand) (ts : Array TypeId) : popV P (.call ⟨.builtin .max, #[x, y], ts⟩) (evO e) = max2 (evO e x) (evO e y) := by
  simp only [popV, List.map, foldA]
  cases max2 (evO e x) (evO e y) <;> rfl
theorem pop_min2 (P : Program) (x y : Operand) (ts : Array TypeId) : popV P (.call ⟨.builtin .min, #[x, y], ts⟩) (evO e) = min2 (evO e x) (evO e y) := by
  simp only [popV, List.map, foldA]
  cases min2 (evO e x) (evO e y) <;> rfl
end

/-! ### Values -/
section
variable (P : Program)
theorem max2_int (k k' : IntKind) (x y : Int) : max2 (.v (.int k x)) (.v (.int k' y)) = some (.v (.int k (max x y))) := by
  simp only [max2]; congr 3; omega
theorem min2_int (k k' : IntKind) (x y : Int) : min2 (.v (.int k x)) (.v (.int k' y)) = some (.v (.int k (min x y))) := by
  simp only [min2]; congr 3; omega
theorem bin_add (t : TypeId) (k : IntKind) (a b : Int) : binV P .add t (.v (.int k a)) (.v (.int k b)) = some (.v (.int k (k.wrap (a + b)))) := by simp [binV, intBin]
theorem bin_sub (t : TypeId) (k : IntKind) (a b : Int) : binV P .sub t (.v (.int k a)) (.v (.int k b)) = some (.v (.int k (k.wrap (a - b)))) := by simp [binV, intBin]
theorem bin_mul (t : TypeId) (k : IntKind) (a b : Int) : binV P .mul t (.v (.int k a)) (.v (.int k b)) = some (.v (.int k (k.wrap (a * b)))) := by simp [binV, intBin]
theorem bin_quo (t : TypeId) (k : IntKind) (a b : Int) : binV P .quo t (.v (.int k a)) (.v (.int k b)) = if b = 0 then none else some (.v (.int k (k.wrap (a.tdiv b)))) := by
  simp only [binV, intBin, if_true]; split <;> rfl
theorem bin_rem (t : TypeId) (k : IntKind) (a b : Int) : binV P .rem t (.v (.int k a)) (.v (.int k b)) = if b = 0 then none else some (.v (.int k (a.tmod b))) := by
  simp only [binV, intBin, if_true]; split <;> rfl
theorem bin_eql (t : TypeId) (k : IntKind) (a b : Int) : binV P .eql t (.v (.int k a)) (.v (.int k b)) = some (.v (.bool (a == b))) := by simp [binV, intBin]
theorem bin_neq (t : TypeId) (k : IntKind) (a b : Int) : binV P .neq t (.v (.int k a)) (.v (.int k b)) = some (.v (.bool (!(a == b)))) := by simp [binV, intBin, bne]
theorem bin_lss (t : TypeId) (k : IntKind) (a b : Int) : binV P .lss t (.v (.int k a)) (.v (.int k b)) = some (.v (.bool (decide (a < b)))) := by simp [binV, intBin]
theorem bin_leq (t : TypeId) (k : IntKind) (a b : Int) : binV P .leq t (.v (.int k a)) (.v (.int k b)) = some (.v (.bool (decide (a ≤ b)))) := by simp [binV, intBin]
theorem bin_gtr (t : TypeId) (k : IntKind) (a b : Int) : binV P .gtr t (.v (.int k a)) (.v (.int k b)) = some (.v (.bool (decide (b < a)))) := by simp [binV, intBin]
theorem bin_geq (t : TypeId) (k : IntKind) (a b : Int) : binV P .geq t (.v (.int k a)) (.v (.int k b)) = some (.v (.bool (decide (b ≤ a)))) := by simp [binV, intBin]
theorem un_not (b : Bool) : unV .not (.v (.bool b)) = some (.v (.bool (!b))) := rfl
theorem un_neg (k : IntKind) (n : Int) : unV .neg (.v (.int k n)) = some (.v (.int k (k.wrap (0 - n)))) := rfl
theorem len_sl (ty : Ty) (e : TypeId) (n : Nat) (l : List AV) (h : ty.k = .slice e) : lenV (some ty) (.sl n l) = some (.v (.int .i64 n)) := by simp [lenV, kOf, h]
theorem len_own (ty : Ty) (e : TypeId) (z b o n : Nat) (h : ty.k = .slice e) : lenV (some ty) (.own z b o n) = some (.v (.int .i64 n)) := by simp [lenV, kOf, h]
theorem len_nil (ty : Ty) (e : TypeId) (n : Nat) (h : ty.k = .slice e) : lenV (some ty) (.v (.slice none n 0)) = some (.v (.int .i64 n)) := by simp [lenV, kOf, h]
theorem len_str (ty : Ty) (s : ByteArray) (h : ty.k = .string) : lenV (some ty) (.v (.string s)) = some (.v (.int .i64 s.size)) := by simp [lenV, kOf, h]

theorem ite_v {c : Prop} [Decidable c] (x y : Value) : (if c then AV.v x else AV.v y) = AV.v (if c then x else y) := by split <;> rfl
theorem ite_bool {c : Prop} [Decidable c] (x y : Bool) : (if c then Value.bool x else Value.bool y) = Value.bool (if c then x else y) := by split <;> rfl
theorem ite_int {c : Prop} [Decidable c] (k : IntKind) (x y : Int) : (if c then Value.int k x else Value.int k y) = Value.int k (if c then x else y) := by split <;> rfl

theorem cells_v (x : Value) (h : x.oneCell' = true) : cellsOf (.v x) = some [.v x] := by simp [cellsOf, storable, h]
theorem cells_sl (n : Nat) (l : List AV) : cellsOf (.sl n l) = some [.sl n l] := rfl
theorem cells_own (z b o n : Nat) : cellsOf (.own z b o n) = some [.own z b o n] := rfl
theorem cells_ptr (b o : Nat) : cellsOf (.ptr b o) = some [.ptr b o] := rfl
theorem cells_clo (f : FuncId) (l : List AV) : cellsOf (.clo f l) = some [.clo f l] := rfl
theorem cells_agg (l : List AV) : cellsOf (.agg l) = if l.all storable then some l else none := rfl
theorem st_v (x : Value) : storable (.v x) = x.oneCell' := rfl
theorem st_int (k : IntKind) (n : Int) : Value.oneCell' (.int k n) = true := rfl
theorem st_bool (b : Bool) : Value.oneCell' (.bool b) = true := rfl
theorem st_string (s : ByteArray) : Value.oneCell' (.string s) = true := rfl
theorem st_slice (p : Option Addr) (n c : Nat) : Value.oneCell' (.slice p n c) = true := rfl
theorem st_sl (n : Nat) (l : List AV) : storable (.sl n l) = true := rfl
theorem st_own (z b o n : Nat) : storable (.own z b o n) = true := rfl
theorem st_ptr (b o : Nat) : storable (.ptr b o) = true := rfl
theorem st_clo (f : FuncId) (l : List AV) : storable (.clo f l) = true := rfl

theorem partL_one (ty : Ty) (l : List AV) (o : Nat) (h : ty.agg = false) : partL ty l o = l[o]? := by simp [partL, h]
theorem partL_agg (ty : Ty) (l : List AV) (o : Nat) (h : ty.agg = true) : partL ty l o = if o + ty.size ≤ l.length then some (.agg ((l.drop o).take ty.size)) else none := by simp [partL, h]
theorem load_ptr (H : Heap) (t : TypeId) (ty : Ty) (h : tyOf P t = some ty) (b o : Nat) : loadV P H t (.ptr b o) = (hget H b).bind fun k => partL ty k o := by
  simp only [loadV, h]; cases hget H b <;> rfl
theorem load_ele (H : Heap) (t : TypeId) (ty : Ty) (h : tyOf P t = some ty) (l : List AV) (o : Nat) : loadV P H t (.ele l o) = partL ty l o := by
  simp only [loadV, h]
theorem ia_sl (t e : TypeId) (te : Ty) (h : tk P t = some (.slice e)) (he : tyOf P e = some te) (n : Nat) (l : List AV) (k : IntKind) (i : Int) :
    indexAddrV P t (.sl n l) (.v (.int k i)) = if 0 ≤ i ∧ i < n then some (.ele l (i.toNat * te.size)) else none := by simp only [indexAddrV, h, he]
theorem ia_own (t e : TypeId) (te : Ty) (h : tk P t = some (.slice e)) (he : tyOf P e = some te) (z b o n : Nat) (k : IntKind) (i : Int) :
    indexAddrV P t (.own z b o n) (.v (.int k i)) = if 0 ≤ i ∧ i < n then some (.ptr b (o + i.toNat * te.size)) else none := by simp only [indexAddrV, h, he]
theorem ia_ptr (t e : TypeId) (te : Ty) (m : Nat) (h : tk P t = some (.array m e)) (he : tyOf P e = some te) (b o : Nat) (k : IntKind) (i : Int) :
    indexAddrV P t (.ptr b o) (.v (.int k i)) = if 0 ≤ i ∧ i < m then some (.ptr b (o + i.toNat * te.size)) else none := by simp only [indexAddrV, h, he]
theorem fa_ptr (s : TypeId) (fs : List (Nat × TypeId)) (h : tk P s = some (.struct fs)) (b o f off : Nat) (ft : TypeId) (ty : Ty) (hf : fs[f]? = some (off, ft)) (ht : tyOf P ft = some ty) (hz : ty.size ≠ 0) :
    fieldAddrV P s (.ptr b o) f = some (.ptr b (o + off)) := by simp only [fieldAddrV, h, hf, ht]; simp [hz]
theorem fa_ele (s : TypeId) (fs : List (Nat × TypeId)) (h : tk P s = some (.struct fs)) (l : List AV) (o f off : Nat) (ft : TypeId) (ty : Ty) (hf : fs[f]? = some (off, ft)) (ht : tyOf P ft = some ty) (hz : ty.size ≠ 0) :
    fieldAddrV P s (.ele l o) f = some (.ele l (o + off)) := by simp only [fieldAddrV, h, hf, ht]; simp [hz]
theorem fd_agg (s : TypeId) (fs : List (Nat × TypeId)) (h : tk P s = some (.struct fs)) (l : List AV) (f off : Nat) (ft : TypeId) (ty : Ty) (hf : fs[f]? = some (off, ft)) (ht : tyOf P ft = some ty) :
    fieldV P s (.agg l) f = partL ty l off := by simp only [fieldV, h, hf, ht]

theorem frz_v (H : Heap) (b d : Nat) (x : Value) : frz H b (d + 1) (.v x) = .v x := rfl
theorem frz_tup (H : Heap) (b d : Nat) (l : List AV) : frz H b (d + 1) (.tup l) = .tup (l.map (frz H b d)) := rfl
theorem frz_agg (H : Heap) (b d : Nat) (l : List AV) : frz H b (d + 1) (.agg l) = .agg (l.map (frz H b d)) := rfl
theorem frz_sl (H : Heap) (b d : Nat) (n : Nat) (l : List AV) : frz H b (d + 1) (.sl n l) = .sl n (l.map (frz H b d)) := rfl
theorem frz_vs (H : Heap) (b d : Nat) {α : Type} (l : List α) (g : α → Value) : (l.map fun x => AV.v (g x)).map (frz H b (d + 1)) = l.map fun x => AV.v (g x) := by
  rw [List.map_map]; rfl
theorem frz_own (H : Heap) (b d : Nat) (z k o n : Nat) (h : ¬ k < b) : frz H b (d + 1) (.own z k o n) = (match hget H k with | some c => .sl n ((c.drop o).map (frz H b d)) | none => .any) := by
  simp only [frz, if_neg h]
  cases hget H k <;> rfl
end

/-! ### Numbers that fit -/
theorem wrap_i64 (n : Int) (h : -9223372036854775808 ≤ n ∧ n ≤ 9223372036854775807) : IntKind.i64.wrap n = n := by
  rw [IntKind.wrap_i64]; omega
theorem wrap_u64 (n : Int) (h : 0 ≤ n ∧ n ≤ 18446744073709551615) : IntKind.u64.wrap n = n := by
  simp only [IntKind.wrap, IntKind.bits, IntKind.signed]; simp; omega
theorem wrap_u8 (n : Int) (h : 0 ≤ n ∧ n ≤ 255) : IntKind.u8.wrap n = n := by
  simp only [IntKind.wrap, IntKind.bits, IntKind.signed]; simp; omega
theorem tdiv_nonneg (a b : Int) (h : 0 ≤ a) : a.tdiv b = a / b := Int.tdiv_eq_ediv_of_nonneg h
theorem tmod_nonneg (a b : Int) (h : 0 ≤ a) : a.tmod b = a % b := Int.tmod_eq_emod_of_nonneg h

theorem ret_fin {own : Bool} {fa : FnA} {H0 : Heap} {K : AV → Heap → Prop} (x : Ex) (s : St) (hx : ∀ id, x ≠ .exit id) :
    retP S own fa H0 K x s = optP (resAll S.P s.loc s.H fa.fn.results.toList) fun l => if own then K (oneOr l) s.H else K (frz s.H H0.length 8 (oneOr l)) H0 := by
  cases x with
  | exit id => exact absurd rfl (hx id)
  | _ => rfl
theorem ret_ret (own : Bool) (fa : FnA) (H0 : Heap) (K : AV → Heap → Prop) (s : St) :
    retP S own fa H0 K .ret s = optP (resAll S.P s.loc s.H fa.fn.results.toList) fun l => if own then K (oneOr l) s.H else K (frz s.H H0.length 8 (oneOr l)) H0 := rfl
theorem res_nil (P : Program) (e : Env) (H : Heap) : resAll P e H [] = some [] := rfl
theorem res_tmp (P : Program) (e : Env) (H : Heap) (t : Tmp) (rs : List ResultVar) : resAll P e H (.tmp t :: rs) = (resAll P e H rs).map (e.get t :: ·) := by
  simp only [resAll, resA]; cases resAll P e H rs <;> rfl
theorem res_cell (P : Program) (e : Env) (H : Heap) (a : Tmp) (t : TypeId) (rs : List ResultVar) : resAll P e H (.cell a t :: rs) = (loadV P H t (e.get a)).bind fun x => (resAll P e H rs).map (x :: ·) := by
  simp only [resAll, resA]; cases loadV P H t (e.get a) <;> cases resAll P e H rs <;> rfl
theorem one_one (x : AV) : oneOr [x] = x := rfl
theorem one_two (x y : AV) (l : List AV) : oneOr (x :: y :: l) = .tup (x :: y :: l) := rfl

/-! ### A region, operation by operation: each law wants what the operation yields, and hands on -/
section
variable {lim : Nat} {ops : Array Oper} {l : List Oper} {e : Env} {H : Heap} {K : Env → Heap → Prop} {d : Option Tmp} {op : Op} {ty : TypeId} {pos : String} {af : Array Edge} {g : Option (Nat × Bool)}

/-- What an operation that makes and writes nothing yields. -/
def qV (P : Program) (H : Heap) (o : Op) (e : Env) : Option AV :=
  match o with
  | .load t a => loadV P H t (evO e a)
  | o => popV P o (evO e)
theorem q_load (P : Program) (H : Heap) (e : Env) (t : TypeId) (a : Operand) : qV P H (.load t a) e = loadV P H t (evO e a) := rfl
theorem q_move (P : Program) (H : Heap) (e : Env) (x : Operand) : qV P H (.move x) e = some (evO e x) := rfl
theorem q_assign (P : Program) (H : Heap) (e : Env) (x : Operand) : qV P H (.assign x) e = some (evO e x) := rfl
theorem q_binOp (P : Program) (H : Heap) (e : Env) (op : BinOp) (t : TypeId) (x y : Operand) (ty : TypeId) : qV P H (.binOp op t x y ty) e = binV P op t (evO e x) (evO e y) := rfl
theorem q_unOp (P : Program) (H : Heap) (e : Env) (op : UnOp) (t : TypeId) (x : Operand) : qV P H (.unOp op t x) e = unV op (evO e x) := rfl
theorem q_pick (P : Program) (H : Heap) (e : Env) (c a b : Operand) : qV P H (.pick c a b) e = match evO e c with | .v (.bool t) => some (if t then evO e a else evO e b) | _ => none := rfl
theorem q_build (P : Program) (H : Heap) (e : Env) (t : TypeId) (parts : Array (Nat × Operand)) : qV P H (.build t parts) e = buildV P t (parts.toList.map fun p => (p.1, evO e p.2)) := rfl
theorem q_nilCheck (P : Program) (H : Heap) (e : Env) (x : Operand) : qV P H (.nilCheck x) e = popV P (.nilCheck x) (evO e) := rfl
theorem q_convert (P : Program) (H : Heap) (e : Env) (s d : TypeId) (x : Operand) : qV P H (.convert s d x) e = convV P s d (evO e x) := rfl
theorem q_makeFunc (P : Program) (H : Heap) (e : Env) (f : FuncId) (c : Array Operand) : qV P H (.makeFunc (.func f) #[] c) e = some (.clo f (c.toList.map (evO e))) := rfl
theorem q_slice (P : Program) (H : Heap) (e : Env) (t : TypeId) (x : Operand) (lo hi : Option Operand) : qV P H (.slice t x lo hi none) e = sliceV P t (evO e x) (lo.map (evO e)) (hi.map (evO e)) := rfl
theorem q_fieldAddr (P : Program) (H : Heap) (e : Env) (s : TypeId) (x : Operand) (f : Nat) : qV P H (.fieldAddr s x f) e = fieldAddrV P s (evO e x) f := rfl
theorem q_field (P : Program) (H : Heap) (e : Env) (s : TypeId) (x : Operand) (f : Nat) : qV P H (.field s x f) e = fieldV P s (evO e x) f := rfl
theorem q_indexAddr (P : Program) (H : Heap) (e : Env) (t : TypeId) (x i : Operand) : qV P H (.indexAddr t x i) e = indexAddrV P t (evO e x) (evO e i) := rfl
theorem q_index (P : Program) (H : Heap) (e : Env) (t : TypeId) (x i : Operand) : qV P H (.index t x i) e = indexV P t (evO e x) (evO e i) := rfl
theorem q_extract (P : Program) (H : Heap) (e : Env) (t : Operand) (i : Nat) : qV P H (.extract t i) e = match evO e t with | .tup l => l[i]? | _ => none := rfl
theorem q_len (P : Program) (H : Heap) (e : Env) (x : Operand) (t : TypeId) : qV P H (.call ⟨.builtin .len, #[x], #[t]⟩) e = lenV (tyOf P t) (evO e x) := rfl
theorem q_max (P : Program) (H : Heap) (e : Env) (x y : Operand) (ts : Array TypeId) : qV P H (.call ⟨.builtin .max, #[x, y], ts⟩) e = max2 (evO e x) (evO e y) := pop_max2 e P x y ts
theorem q_min (P : Program) (H : Heap) (e : Env) (x y : Operand) (ts : Array TypeId) : qV P H (.call ⟨.builtin .min, #[x, y], ts⟩) e = min2 (evO e x) (evO e y) := pop_min2 e P x y ts
theorem q_max3 (P : Program) (H : Heap) (e : Env) (x y z : Operand) (ts : Array TypeId) : qV P H (.call ⟨.builtin .max, #[x, y, z], ts⟩) e = (max2 (evO e x) (evO e y)).bind fun u => max2 u (evO e z) := by
  simp only [qV, popV, List.map, foldA]
  cases max2 (evO e x) (evO e y) with
  | none => rfl
  | some u => simp only [Option.bind_some]; cases max2 u (evO e z) <;> rfl

/-- Does this operation only read? -/
def isQ : Op → Bool
  | .load .. | .move _ | .assign _ | .pick .. | .build .. | .nilCheck _ | .binOp .. | .unOp .. | .convert .. | .makeFunc .. | .slice .. | .fieldAddr .. | .field .. | .indexAddr .. | .index .. | .extract .. => true
  | .call { callee := .builtin .len, args := _, argTypes := _ } | .call { callee := .builtin .max, args := _, argTypes := _ } | .call { callee := .builtin .min, args := _, argTypes := _ } => true
  | _ => false

theorem opP_q {K : AV → Heap → Prop} (hq : isQ op = true) {r : AV} (h : qV S.P H op e = some r) (hk : K r H) : opP S lim op e H K := by
  unfold isQ at hq
  split at hq <;> first | (cases hq; done) | skip
  all_goals first
    | (simp only [qV] at h; simp only [opP, h, optP]; exact hk)
    | (simp only [qV, popV] at h; simp only [opP, h]; exact hk)
    | (simp only [qV, popV, Option.some.injEq] at h; subst h; exact hk)

theorem takeV_q {P : Program} (hq : isQ op = true) {r : AV} (h : qV P H op e = some r) : takeV P op e H = some r := by
  unfold isQ at hq
  split at hq <;> first | (cases hq; done) | skip
  all_goals simpa [takeV, isLoad, callV, qV, popV] using h
theorem Lp_cons {ops : Array Oper} {l : List Oper} {R : List Nat} {K : Env → List Nat → Prop} (o : Oper) : Lp S ops H K (o :: l) e R = guardP ops e o (optP (takeV S.P o.op e H) fun x => Lp S ops H K l (e.put o.dst x) (rdV o.op e ++ R)) (Lp S ops H K l (e.put o.dst (.v undef)) R) := rfl
theorem L_q {ops : Array Oper} {l : List Oper} {R R' : List Nat} {K : Env → List Nat → Prop} (hq : isQ op = true) {r : AV} (h : qV S.P H op e = some r) (hr : rdV op e ++ R = R') (hk : Lp S ops H K l (e.put d r) R') : Lp S ops H K (⟨d, op, ty, pos, af, none⟩ :: l) e R := by
  subst hr
  rw [Lp_cons, guardP_free, takeV_q hq h]; exact hk
theorem L_nil {ops : Array Oper} {R : List Nat} {K : Env → List Nat → Prop} (hk : K e R) : Lp S ops H K [] e R := hk
theorem L_yes {ops : Array Oper} {l : List Oper} {R : List Nat} {K : Env → List Nat → Prop} {j t : Nat} {want : Bool} {b : Bool} (hj : (ops[j]?).bind (·.dst) = some t) (hb : e.get t = .v (.bool b)) (h : b = want) (hy : Lp S ops H K (⟨d, op, ty, pos, af, none⟩ :: l) e R) : Lp S ops H K (⟨d, op, ty, pos, af, some (j, want)⟩ :: l) e R := by
  rw [Lp_cons, guardP_on ops e d op ty pos af j want _ _ hj, hb]
  rw [Lp_cons, guardP_free] at hy
  subst h
  exact ⟨fun _ => hy, fun h => (by cases b <;> cases h)⟩
theorem L_no {ops : Array Oper} {l : List Oper} {R : List Nat} {K : Env → List Nat → Prop} {j t : Nat} {want : Bool} {b : Bool} (hj : (ops[j]?).bind (·.dst) = some t) (hb : e.get t = .v (.bool b)) (h : b = !want) (hy : Lp S ops H K l (e.put d (.v undef)) R) : Lp S ops H K (⟨d, op, ty, pos, af, some (j, want)⟩ :: l) e R := by
  rw [Lp_cons, guardP_on ops e d op ty pos af j want _ _ hj, hb]
  subst h
  exact ⟨fun h => (by cases want <;> cases h), fun _ => hy⟩
theorem L_un {ops : Array Oper} {l : List Oper} {R : List Nat} {K : Env → List Nat → Prop} {j t : Nat} {want : Bool} (hj : (ops[j]?).bind (·.dst) = some t) (hb : e.get t = .v undef) (hy : Lp S ops H K l (e.put d (.v undef)) R) : Lp S ops H K (⟨d, op, ty, pos, af, some (j, want)⟩ :: l) e R := by
  rw [Lp_cons, guardP_on ops e d op ty pos af j want _ _ hj, hb]
  exact hy
theorem M_nil {ops : Array Oper} {R : List Nat} {K : Env → Heap → Prop} (hk : K e H) : Mp S lim ops R K [] e H := hk
theorem optP_mono {α : Type} {o : Option α} {K K' : α → Prop} (hk : ∀ x, K x → K' x) (h : optP o K) : optP o K' := by
  cases o with
  | none => exact h
  | some x => exact hk x h
theorem opP_mono {o : Op} {K K' : AV → Heap → Prop} (hk : ∀ x H', K x H' → K' x H') (h : opP S lim o e H K) : opP S lim o e H K' := by
  unfold opP at h ⊢
  split at h
  · exact optP_mono (fun x hx => hk _ _ hx) h
  · exact hk _ _ h
  · exact hk _ _ h
  · split at h
    · exact ACall_mono h hk
    · exact h
  all_goals first
    | exact optP_mono (fun x hx => hk _ _ hx) h
    | (split at h
       · exact hk _ _ h
       · exact optP_mono (fun x hx => hk _ _ hx) h)
theorem Rp_one {ops : Array Oper} {o : Oper} {K K' : Env → Heap → Prop} (hk : ∀ e' H', K e' H' → K' e' H') (h : Rp S lim ops [o] e H K) : Rp S lim ops [o] e H K' := by
  simp only [Rp, guardP] at h ⊢
  split at h
  · exact opP_mono (fun x H' hx => hk _ _ hx) h
  · exact hk _ _ h
  · exact h
theorem M_call {ops : Array Oper} {R : List Nat} {K : Env → Heap → Prop} {o : Oper} {l : List Oper} (hc : wrC R o e = true) (h : Rp S lim ops [o] e H fun e' H' => stay R H H' ∧ Mp S lim ops R K l e' H') : Mp S lim ops R K (o :: l) e H :=
  ⟨hc, Rp_one (fun e' H' h => ⟨fun _ => h.1, h.2⟩) h⟩
theorem M_step {ops : Array Oper} {R : List Nat} {K : Env → Heap → Prop} {o : Oper} {l : List Oper} (hc : wrC R o e = true) (hn : isCallO o = false) (h : Rp S lim ops [o] e H fun e' H' => Mp S lim ops R K l e' H') : Mp S lim ops R K (o :: l) e H :=
  ⟨hc, Rp_one (fun e' H' h => ⟨fun hh => (by rw [hn] at hh; cases hh), h⟩) h⟩
theorem R_end {K : Env → Heap → Prop} (hk : K e H) : Rp S lim ops [] e H K := hk
theorem R_q (hq : isQ op = true) {r : AV} (h : qV S.P H op e = some r) (hk : Rp S lim ops l (e.put d r) H K) : Rp S lim ops (⟨d, op, ty, pos, af, none⟩ :: l) e H K := by rw [Rp_cons, guardP_free]; exact opP_q hq h hk
theorem R_nil {Q : Ex → St → Prop} {loc loc' : Env} (h : trim e loc = loc') (hk : Q .normal ⟨loc', H⟩) : Rp S lim ops [] e H fun e H => Q .normal ⟨trim e loc, H⟩ := by
  show Q .normal ⟨trim e loc, H⟩
  rw [h]; exact hk
theorem R_call {f : FuncId} {args : Array Operand} {ts : Array TypeId} {vs : List AV} (h : args.toList.map (evO e) = vs) (hk : ACall S lim f vs H fun x H' => Rp S lim ops l (e.put d x) H' K) :
    Rp S lim ops (⟨d, .call ⟨.value (.func f), args, ts⟩, ty, pos, af, none⟩ :: l) e H K := by
  rw [Rp_cons, guardP_free, opP_call, h]; exact hk
theorem R_callv {t : Nat} {f : FuncId} {cap : List AV} {args : Array Operand} {ts : Array TypeId} {vs : List AV} (hf : e.get t = .clo f cap) (h : args.toList.map (evO e) ++ cap = vs) (hk : ACall S lim f vs H fun x H' => Rp S lim ops l (e.put d x) H' K) :
    Rp S lim ops (⟨d, .call ⟨.value (.tmp t), args, ts⟩, ty, pos, af, none⟩ :: l) e H K := by
  rw [Rp_cons, guardP_free, opP_callv, hf, cloP_clo, h]; exact hk
theorem R_alloc {t : TypeId} {z : List Value} (hz : (tyOf S.P t).bind (fun ty => ty.zero) = some z) {n : Nat} (hn : H.length = n) {H' : Heap} (hH : H ++ [some (z.map .v)] = H') (hk : Rp S lim ops l (e.put d (.ptr n 0)) H' K) : Rp S lim ops (⟨d, .alloc t, ty, pos, af, none⟩ :: l) e H K := by
  subst hn; subst hH
  rw [Rp_cons, guardP_free, opP_alloc, hz]; exact hk
theorem R_box {t : TypeId} {x : Operand} {c : List AV} (ht : (tyOf S.P t).isSome = true) (hc : cellsOf (evO e x) = some c) {n : Nat} (hn : H.length = n) {H' : Heap} (hH : H ++ [some c] = H') (hk : Rp S lim ops l (e.put d (.ptr n 0)) H' K) : Rp S lim ops (⟨d, .box t x, ty, pos, af, none⟩ :: l) e H K := by
  subst hn; subst hH
  rw [Rp_cons, guardP_free, opP_box, hc]
  cases h : tyOf S.P t with
  | none => rw [h] at ht; cases ht
  | some ty => exact hk
theorem R_store {t : TypeId} {tyy : Ty} {a x : Operand} {b o : Nat} {c : List AV} {k : Blk} (ht : tyOf S.P t = some tyy) (ha : evO e a = .ptr b o) (hc : cellsOf (evO e x) = some c) (hb : hget H b = some k) (hl : lim ≤ b ∧ c.length = tyy.size ∧ o + tyy.size ≤ k.length) {k' : Blk} (hk' : setL k o c = k') {H' : Heap} (hH : hset H b (some k') = H') (hk : Rp S lim ops l (e.put d (.v undef)) H' K) :
    Rp S lim ops (⟨d, .store t a x, ty, pos, af, none⟩ :: l) e H K := by
  subst hk'; subst hH
  rw [Rp_cons, guardP_free, opP_store, ht, optP_some, ha, hc, storeP_ptr, hb, optP_some]
  exact ⟨hl, hk⟩
theorem R_append {x y : Operand} {t : TypeId} {r : AV} {H' : Heap} (h : appendV S.P lim H t (evO e x) (evO e y) = some (r, H')) (hk : Rp S lim ops l (e.put d r) H' K) : Rp S lim ops (⟨d, .call ⟨.builtin .append, #[x, y], #[t, t]⟩, ty, pos, af, none⟩ :: l) e H K := by
  rw [Rp_cons, guardP_free, opP_append, h]; exact hk
theorem R_buildSlice {t : TypeId} {n : Nat} {parts : Array (Nat × Operand)} {r : AV} {H' : Heap} (h : effV S.P lim (.buildSlice t n parts) (evO e) H = some (r, H')) (hk : Rp S lim ops l (e.put d r) H' K) : Rp S lim ops (⟨d, .buildSlice t n parts, ty, pos, af, none⟩ :: l) e H K := by
  rw [Rp_cons, guardP_free, opP_buildSlice, h]; exact hk
theorem R_makeSlice {t : TypeId} {n c : Operand} {r : AV} {H' : Heap} (h : effV S.P lim (.makeSlice t n c) (evO e) H = some (r, H')) (hk : Rp S lim ops l (e.put d r) H' K) : Rp S lim ops (⟨d, .makeSlice t n c, ty, pos, af, none⟩ :: l) e H K := by
  rw [Rp_cons, guardP_free, opP_makeSlice, h]; exact hk
/-- The bytes of a string, as a slice that is only read. -/
theorem R_bytes {sT dT : TypeId} {x : Operand} {b : ByteArray} {et : TypeId} (hc : convV S.P sT dT (.v (.string b)) = none) (hs : (tyOf S.P sT).isSome = true) (hd : tk S.P dT = some (.slice et)) (he : tk S.P et = some (.int .u8)) (hx : evO e x = .v (.string b)) (hb : b.size ≤ 9223372036854775807)
    (hk : Rp S lim ops l (e.put d (.sl b.size (b.data.toList.map fun c => .v (.int .u8 (c.toNat : Int))))) H K) : Rp S lim ops (⟨d, .convert sT dT x, ty, pos, af, none⟩ :: l) e H K := by
  rw [Rp_cons, guardP_free, opP_bytes _ _ _ _ _ _ _ (by rw [hx]; exact hc)]
  obtain ⟨t0, ht0⟩ := Option.isSome_iff_exists.mp hs
  simp only [effV, hx, ht0, hd, he, if_pos hb, optP]
  exact hk
/-- A slice of bytes that the call made, as a string. -/
theorem R_back {sT dT : TypeId} {x : Operand} {y : AV} {r : AV} {ty0 : Ty} (hc : convV S.P sT dT y = none) (hs : tyOf S.P sT = some ty0) (hd : tk S.P dT = some .string) (hx : evO e x = y) (_hn : ∀ b, y ≠ .v (.string b)) (hb : backV S.P H ty0.k y = some r)
    (hk : Rp S lim ops l (e.put d r) H K) : Rp S lim ops (⟨d, .convert sT dT x, ty, pos, af, none⟩ :: l) e H K := by
  rw [Rp_cons, guardP_free, opP_bytes _ _ _ _ _ _ _ (by rw [hx]; exact hc)]
  simp only [effV, hx, hs, hd, hb, Option.map_some, optP]
  exact hk
theorem R_yes {j t : Nat} {want : Bool} {b : Bool} (hj : (ops[j]?).bind (·.dst) = some t) (hb : e.get t = .v (.bool b)) (h : b = want) (hy : Rp S lim ops (⟨d, op, ty, pos, af, none⟩ :: l) e H K) : Rp S lim ops (⟨d, op, ty, pos, af, some (j, want)⟩ :: l) e H K := by
  rw [Rp_cons, guardP_on ops e d op ty pos af j want _ _ hj, hb]
  rw [Rp_cons, guardP_free] at hy
  subst h
  exact ⟨fun _ => hy, fun h => (by cases b <;> cases h)⟩
theorem R_no {j t : Nat} {want : Bool} {b : Bool} (hj : (ops[j]?).bind (·.dst) = some t) (hb : e.get t = .v (.bool b)) (h : b = !want) (hy : Rp S lim ops l (e.put d (.v undef)) H K) : Rp S lim ops (⟨d, op, ty, pos, af, some (j, want)⟩ :: l) e H K := by
  rw [Rp_cons, guardP_on ops e d op ty pos af j want _ _ hj, hb]
  subst h
  exact ⟨fun h => (by cases want <;> cases h), fun _ => hy⟩
theorem R_un {j t : Nat} {want : Bool} (hj : (ops[j]?).bind (·.dst) = some t) (hb : e.get t = .v undef) (hy : Rp S lim ops l (e.put d (.v undef)) H K) : Rp S lim ops (⟨d, op, ty, pos, af, some (j, want)⟩ :: l) e H K := by
  rw [Rp_cons, guardP_on ops e d op ty pos af j want _ _ hj, hb]
  exact hy
end

/-! ### The same where the order is drawn -/
section
variable {ops : Array Oper} {l : List Oper} {e : Env} {H : Heap} {K : Env → Prop} {d : Option Tmp} {op : Op} {ty : TypeId} {pos : String} {af : Array Edge}
theorem Qp_cons (o : Oper) : Qp S ops (o :: l) e H K = guardP ops e o (opQ S o.op e H fun x => Qp S ops l (e.put o.dst x) H K) (Qp S ops l (e.put o.dst (.v undef)) H K) := rfl
theorem opQ_q {K : AV → Prop} (hq : isQ op = true) {r : AV} (h : qV S.P H op e = some r) (hk : K r) : opQ S op e H K := by
  unfold isQ at hq
  split at hq <;> first | (cases hq; done) | skip
  all_goals first
    | (simp only [qV] at h; simp only [opQ, h, optP]; exact hk)
    | (simp only [qV, popV, Option.some.injEq] at h; subst h; exact hk)
theorem Q_q (hq : isQ op = true) {r : AV} (h : qV S.P H op e = some r) (hk : Qp S ops l (e.put d r) H K) : Qp S ops (⟨d, op, ty, pos, af, none⟩ :: l) e H K := by rw [Qp_cons, guardP_free]; exact opQ_q hq h hk
theorem Q_nil (hk : K e) : Qp S ops [] e H K := hk
theorem Q_call {f : FuncId} {args : Array Operand} {ts : Array TypeId} {vs : List AV} (hp : S.own f = false) (h : args.toList.map (evO e) = vs) (hk : ACall S H.length f vs H fun x _ => exacts x = true ∧ Qp S ops l (e.put d x) H K) :
    Qp S ops (⟨d, .call ⟨.value (.func f), args, ts⟩, ty, pos, af, none⟩ :: l) e H K := by
  rw [Qp_cons, guardP_free]
  refine ⟨by simp [Sig.pure, hp], ?_⟩
  simp only [List.append_nil, h]
  exact hk
theorem Q_yes {j t : Nat} {want : Bool} {b : Bool} (hj : (ops[j]?).bind (·.dst) = some t) (hb : e.get t = .v (.bool b)) (h : b = want) (hy : Qp S ops (⟨d, op, ty, pos, af, none⟩ :: l) e H K) : Qp S ops (⟨d, op, ty, pos, af, some (j, want)⟩ :: l) e H K := by
  rw [Qp_cons, guardP_on ops e d op ty pos af j want _ _ hj, hb]
  rw [Qp_cons, guardP_free] at hy
  subst h
  exact ⟨fun _ => hy, fun h => (by cases b <;> cases h)⟩
theorem Q_no {j t : Nat} {want : Bool} {b : Bool} (hj : (ops[j]?).bind (·.dst) = some t) (hb : e.get t = .v (.bool b)) (h : b = !want) (hy : Qp S ops l (e.put d (.v undef)) H K) : Qp S ops (⟨d, op, ty, pos, af, some (j, want)⟩ :: l) e H K := by
  rw [Qp_cons, guardP_on ops e d op ty pos af j want _ _ hj, hb]
  subst h
  exact ⟨fun h => (by cases want <;> cases h), fun _ => hy⟩
theorem Q_un {j t : Nat} {want : Bool} (hj : (ops[j]?).bind (·.dst) = some t) (hb : e.get t = .v undef) (hy : Qp S ops l (e.put d (.v undef)) H K) : Qp S ops (⟨d, op, ty, pos, af, some (j, want)⟩ :: l) e H K := by
  rw [Qp_cons, guardP_on ops e d op ty pos af j want _ _ hj, hb]
  exact hy
end

/-! ### Loops and ends -/
def upd (loc : Env) (kv : Env) : Env := loc.map fun p => (p.1, Env.getD kv p.1 p.2)
theorem upd_def (loc kv : Env) : upd loc kv = loc.map fun p => (p.1, Env.getD kv p.1 p.2) := rfl

section
variable {lim : Nat} {dr : List (Nat × Draw)} {loc : Env} {H : Heap} {Q : Ex → St → Prop} {c : Code} {p : List Nat}
/-- A loop that leaves the memory alone: the slots ks hold what J says of them at every round's head. -/
theorem loop_c (h : at' c p = .loop (at' c (0 :: p))) (ks : List Nat) (J : List AV → Prop) (μ : List AV → Nat) (vs : List AV) (h0 : upd loc (ks.zip vs) = loc) (hJ : J vs)
    (round : ∀ vs, J vs → W S lim dr (at' c (0 :: p)) ⟨upd loc (ks.zip vs), H⟩ (thenQ (fun s' => ∃ vs', s' = ⟨upd loc (ks.zip vs'), H⟩ ∧ J vs' ∧ μ vs' < μ vs) Q)) : W S lim dr (at' c p) ⟨loc, H⟩ Q := by
  have key : ∀ n vs, μ vs = n → J vs → W S lim dr (.loop (at' c (0 :: p))) ⟨upd loc (ks.zip vs), H⟩ Q := by
    intro n
    induction n using Nat.strongRecOn with
    | _ n ih =>
      intro vs hn hI
      refine W_loop (W_mono (round vs hI) fun e s' h => ?_)
      cases e with
      | normal =>
        obtain ⟨vs', rfl, h1, h2⟩ := h
        exact ih (μ vs') (hn ▸ h2) vs' rfl h1
      | exit id => exact h
      | ret => exact h
  rw [h]
  have := key _ vs rfl hJ
  rwa [h0] at this
/-- A loop that writes memory. -/
theorem loop_h (h : at' c p = .loop (at' c (0 :: p))) (ks : List Nat) (J : List AV → Heap → Prop) (μ : List AV → Heap → Nat) (vs : List AV) (h0 : upd loc (ks.zip vs) = loc) (hJ : J vs H)
    (round : ∀ vs H, J vs H → W S lim dr (at' c (0 :: p)) ⟨upd loc (ks.zip vs), H⟩ (thenQ (fun s' => ∃ vs' H', s' = ⟨upd loc (ks.zip vs'), H'⟩ ∧ J vs' H' ∧ μ vs' H' < μ vs H) Q)) : W S lim dr (at' c p) ⟨loc, H⟩ Q := by
  have key : ∀ n vs H, μ vs H = n → J vs H → W S lim dr (.loop (at' c (0 :: p))) ⟨upd loc (ks.zip vs), H⟩ Q := by
    intro n
    induction n using Nat.strongRecOn with
    | _ n ih =>
      intro vs H hn hI
      refine W_loop (W_mono (round vs H hI) fun e s' h => ?_)
      cases e with
      | normal =>
        obtain ⟨vs', H', rfl, h1, h2⟩ := h
        exact ih (μ vs' H') (hn ▸ h2) vs' H' rfl h1
      | exit id => exact h
      | ret => exact h
  rw [h]
  have := key _ vs H rfl hJ
  rwa [h0] at this
/-- A loop: kv is what the slots that change hold at a round's head, J what is known of them and of the memory there, m a number that every round lowers. -/
theorem loop_n (h : at' c p = .loop (at' c (0 :: p))) (J : Nat → Env → Heap → Prop) {m : Nat} {kv : Env} (hJ : J m kv H) (h0 : upd loc kv = loc)
    (round : ∀ m kv H, J m kv H → W S lim dr (at' c (0 :: p)) ⟨upd loc kv, H⟩ (thenQ (fun s' => ∃ m' kv', J m' kv' s'.H ∧ s'.loc = upd loc kv' ∧ m' < m) Q)) : W S lim dr (at' c p) ⟨loc, H⟩ Q := by
  have key : ∀ m kv H, J m kv H → W S lim dr (.loop (at' c (0 :: p))) ⟨upd loc kv, H⟩ Q := by
    intro m
    induction m using Nat.strongRecOn with
    | _ m ih =>
      intro kv H hI
      refine W_loop (W_mono (round m kv H hI) fun e s' h => ?_)
      cases e with
      | normal =>
        obtain ⟨m', kv', h1, h2, h3⟩ := h
        obtain ⟨l', H'⟩ := s'
        have h2' : l' = upd loc kv' := h2
        subst h2'
        exact ih m' h3 kv' H' h1
      | exit id => exact h
      | ret => exact h
  rw [h]
  have := key _ kv H hJ
  rwa [h0] at this
theorem then_x {N : St → Prop} {s : St} {i : Nat} (h : Q (.exit i) s) : thenQ N Q (.exit i) s := h
theorem then_r {N : St → Prop} {s : St} (h : Q .ret s) : thenQ N Q .ret s := h
theorem blk_n {s : St} {i : Nat} (h : Q .normal s) : blockQ i Q .normal s := h
theorem blk_r {s : St} {i : Nat} (h : Q .ret s) : blockQ i Q .ret s := h
theorem blk_x {s : St} {i : Nat} (h : Q .normal s) : blockQ i Q (.exit i) s := by simp only [blockQ, if_true]; exact h
theorem blk_p {s : St} {i j : Nat} (hij : j ≠ i) (h : Q (.exit j) s) : blockQ i Q (.exit j) s := by simp only [blockQ, if_neg hij]; exact h
theorem at_cond_t {s : St} {o : Operand} (h : at' c p = .cond o (at' c (0 :: p)) (at' c (1 :: p))) (hc : evO s.loc o = .v (.bool true)) (h1 : W S lim dr (at' c (0 :: p)) s Q) : W S lim dr (at' c p) s Q := at_cond h hc (fun _ => h1) (fun h => nomatch h)
theorem at_cond_f {s : St} {o : Operand} (h : at' c p = .cond o (at' c (0 :: p)) (at' c (1 :: p))) (hc : evO s.loc o = .v (.bool false)) (h1 : W S lim dr (at' c (1 :: p)) s Q) : W S lim dr (at' c p) s Q := at_cond h hc (fun h => nomatch h) (fun _ => h1)
theorem Rp_split {ops : Array Oper} {l : List Oper} {e : Env} {K : Env → Heap → Prop} {t : Nat} {b : Bool} (h1 : b = true → Rp S lim ops l ((t, .v (.bool true)) :: e) H K) (h2 : b = false → Rp S lim ops l ((t, .v (.bool false)) :: e) H K) :
    Rp S lim ops l (Env.put e (some t) (.v (.bool b))) H K := by
  cases b with
  | true => exact h1 rfl
  | false => exact h2 rfl
theorem Qp_split {ops : Array Oper} {l : List Oper} {e : Env} {K : Env → Prop} {t : Nat} {b : Bool} (h1 : b = true → Qp S ops l ((t, .v (.bool true)) :: e) H K) (h2 : b = false → Qp S ops l ((t, .v (.bool false)) :: e) H K) :
    Qp S ops l (Env.put e (some t) (.v (.bool b))) H K := by
  cases b with
  | true => exact h1 rfl
  | false => exact h2 rfl
theorem Rp_to {ops : Array Oper} {l : List Oper} {e e' : Env} {K : Env → Heap → Prop} (he : e = e') (h : Rp S lim ops l e' H K) : Rp S lim ops l e H K := by subst he; exact h
theorem rg {id : Nat} {ops : Array Oper} (h : at' c p = .region id ops false) (hw : Rp S lim ops ops.toList loc H fun e H => Q .normal ⟨trim e loc, H⟩) : W S lim dr (at' c p) ⟨loc, H⟩ Q := at_region h hw
theorem rd {id n : Nat} {ops : Array Oper} (h : at' c p = .region id ops true) (hd : dr.lookup id = some (.quiet n))
    (hw : Qp S ops (ops.toList.take n) loc H fun e => Rp S lim ops (ops.toList.drop n) e H fun e H => Q .normal ⟨trim e loc, H⟩) : W S lim dr (at' c p) ⟨loc, H⟩ Q := at_draw h hd hw
theorem rl {id : Nat} {ops : Array Oper} {lead m fin live keep : List Nat} (h : at' c p = .region id ops true) (hd : dr.lookup id = some (.led lead [m] fin live keep))
    (hw : Lp S ops H (fun e R => Mp S lim ops R (fun e1 H1 => Rp S lim ops (pick ops fin) e1 H1 fun e' H' => Q .normal ⟨trim e' loc, H'⟩) (pick ops m) e H) (pick ops lead) loc []) : W S lim dr (at' c p) ⟨loc, H⟩ Q := at_led h hd hw
theorem rls {id : Nat} {ops : Array Oper} {lead m m2 fin live keep : List Nat} {ms : List (List Nat)} (h : at' c p = .region id ops true) (hd : dr.lookup id = some (.led lead (m :: m2 :: ms) fin live keep))
    (hw : Lp S ops H (fun e _ => ∃ e1 H1, Rp S H.length ops (pick ops m) e H (fun e' H' => e' = e1 ∧ H' = H1) ∧ Alts S ops live keep H.length e H e1 H1 (m2 :: ms) ∧
      Rp S lim ops (pick ops fin) (cutE ops live loc e1) (keepOnly keep H.length H1) fun e' H' => Q .normal ⟨trim e' loc, H'⟩) (pick ops lead) loc []) : W S lim dr (at' c p) ⟨loc, H⟩ Q := at_leds h hd hw
theorem Lp_split {ops : Array Oper} {l : List Oper} {e : Env} {R : List Nat} {K : Env → List Nat → Prop} {t : Nat} {b : Bool} (h1 : b = true → Lp S ops H K l ((t, .v (.bool true)) :: e) R) (h2 : b = false → Lp S ops H K l ((t, .v (.bool false)) :: e) R) :
    Lp S ops H K l (Env.put e (some t) (.v (.bool b))) R := by
  cases b with
  | true => exact h1 rfl
  | false => exact h2 rfl
theorem cd {o : Operand} {t : Bool} (h : at' c p = .cond o (at' c (0 :: p)) (at' c (1 :: p))) (hc : evO loc o = .v (.bool t)) (h1 : t = true → W S lim dr (at' c (0 :: p)) ⟨loc, H⟩ Q) (h2 : t = false → W S lim dr (at' c (1 :: p)) ⟨loc, H⟩ Q) : W S lim dr (at' c p) ⟨loc, H⟩ Q := at_cond h hc h1 h2
theorem cd_t {o : Operand} (h : at' c p = .cond o (at' c (0 :: p)) (at' c (1 :: p))) (hc : evO loc o = .v (.bool true)) (h1 : W S lim dr (at' c (0 :: p)) ⟨loc, H⟩ Q) : W S lim dr (at' c p) ⟨loc, H⟩ Q := at_cond h hc (fun _ => h1) (fun h => nomatch h)
theorem cd_f {o : Operand} (h : at' c p = .cond o (at' c (0 :: p)) (at' c (1 :: p))) (hc : evO loc o = .v (.bool false)) (h1 : W S lim dr (at' c (1 :: p)) ⟨loc, H⟩ Q) : W S lim dr (at' c p) ⟨loc, H⟩ Q := at_cond h hc (fun h => nomatch h) (fun _ => h1)
theorem then_n {N : St → Prop} {s : St} (h : N s) : thenQ N Q .normal s := h
/-- The state spelled out. -/
theorem W_to {loc' : Env} (h : loc = loc') (hw : W S lim dr (at' c p) ⟨loc', H⟩ Q) : W S lim dr (at' c p) ⟨loc, H⟩ Q := by subst h; exact hw
/-- Ways that meet again: what holds of the state behind the left part. -/
theorem seq_cut {s : St} (h : at' c p = .seq (at' c (0 :: p)) (at' c (1 :: p))) (M : St → Prop) (h1 : W S lim dr (at' c (0 :: p)) s (thenQ M Q)) (h2 : ∀ s', M s' → W S lim dr (at' c (1 :: p)) s' Q) : W S lim dr (at' c p) s Q := by
  refine at_seq h (W_mono h1 fun e s' hm => ?_)
  cases e with
  | normal => exact h2 s' hm
  | exit id => exact hm
  | ret => exact hm
theorem fin_pure {fa : FnA} {H0 : Heap} {K : AV → Heap → Prop} {s : St} {rs : List ResultVar} (hrs : fa.fn.results.toList = rs) {l : List AV} (hl : resAll S.P s.loc s.H rs = some l) {v : AV} (hv : frz s.H H0.length 8 (oneOr l) = v) (hk : K v H0) : retP S false fa H0 K .ret s := by
  rw [ret_ret, hrs, hl, optP_some]
  simp only [Bool.false_eq_true, if_false]
  rw [hv]; exact hk
theorem fin_own {fa : FnA} {H0 : Heap} {K : AV → Heap → Prop} {s : St} {rs : List ResultVar} (hrs : fa.fn.results.toList = rs) {l : List AV} (hl : resAll S.P s.loc s.H rs = some l) (hk : K (oneOr l) s.H) : retP S true fa H0 K .ret s := by
  rw [ret_ret, hrs, hl, optP_some]
  simp only [if_true]
  exact hk
theorem fin_own_n {fa : FnA} {H0 : Heap} {K : AV → Heap → Prop} {s : St} {rs : List ResultVar} (hrs : fa.fn.results.toList = rs) {l : List AV} (hl : resAll S.P s.loc s.H rs = some l) (hk : K (oneOr l) s.H) : retP S true fa H0 K .normal s := fin_own hrs hl hk
theorem ACall_eq {f : FuncId} {vs : List AV} {K : AV → Heap → Prop} {v : AV} (h : ACall S lim f vs H fun r H' => r = v ∧ H' = H) (hk : K v H) : ACall S lim f vs H K :=
  ACall_mono h fun r H' ⟨h1, h2⟩ => by rw [h1, h2]; exact hk
end
end
end Go.Am
