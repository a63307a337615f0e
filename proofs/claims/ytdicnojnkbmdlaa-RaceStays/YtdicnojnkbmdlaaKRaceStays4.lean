/-
  Texts of RaceStays, part 5 of 16. The abstract machine, symbolically: the laws by which simp walks a region.
-/
import Derived.Test.YtdicnojnkbmdlaaKRaceStays3
import Derived.Attr
section
namespace Go.Am
open Go
section
variable {S : Sig}

/-! ### Slots -/
theorem get_cons (k : Nat) (x : AV) (r : Env) (t : Nat) : Env.get ((k, x) :: r) t = if t = k then x else Env.get r t := rfl
theorem get_nil (t : Nat) : Env.get [] t = .any := rfl
theorem getD_cons (k : Nat) (x : AV) (r : Env) (t : Nat) (d : AV) : Env.getD ((k, x) :: r) t d = if t = k then x else Env.getD r t d := rfl
theorem getD_nil (t : Nat) (d : AV) : Env.getD [] t d = d := rfl
theorem put_some (e : Env) (t : Nat) (x : AV) : Env.put e (some t) x = (t, x) :: e := rfl
theorem put_none (e : Env) (x : AV) : Env.put e none x = e := rfl
theorem ev_tmp (e : Env) (t : Nat) : evO e (.tmp t) = e.get t := rfl
theorem ev_int (e : Env) (k : IntKind) (n : Int) : evO e (.const (.int k n)) = .v (.int k n) := rfl
theorem ev_bool (e : Env) (b : Bool) : evO e (.const (.bool b)) = .v (.bool b) := rfl
theorem ev_str (e : Env) (s : ByteArray) : evO e (.const (.string s)) = .v (.string s) := rfl
theorem ev_nil (e : Env) : evO e (.const (.slice none 0 0)) = .v (.slice none 0 0) := rfl
theorem ev_func (e : Env) (f : FuncId) : evO e (.func f) = .clo f [] := rfl
theorem ev_agg (e : Env) (cs : Array Value) : evO e (.const (.agg cs)) = .agg (cs.toList.map .v) := rfl
theorem trim_def (e loc : Env) : trim e loc = loc.map fun p => (p.1, Env.getD (e.take (e.length - loc.length)) p.1 p.2) := rfl

/-! ### Memory -/
theorem hget_app (H : Heap) (l : List (Option Blk)) : hget (H ++ l) H.length = (l[0]?).join := by
  simp [hget, List.getElem?_append_right]
theorem hget_app' (H : Heap) (l : List (Option Blk)) (k : Nat) : hget (H ++ l) (H.length + k) = (l[k]?).join := by
  simp [hget, List.getElem?_append_right]
theorem hset_app (H : Heap) (l : List (Option Blk)) (x : Option Blk) : hset (H ++ l) H.length x = H ++ l.set 0 x := by simp [hset]
theorem hset_app' (H : Heap) (l : List (Option Blk)) (k : Nat) (x : Option Blk) : hset (H ++ l) (H.length + k) x = H ++ l.set k x := by simp [hset]
theorem len_app1 (H : Heap) (x : Option Blk) : (H ++ [x]).length = H.length + 1 := by simp

/-! ### The operations -/
section
variable (lim : Nat) (e : Env) (H : Heap) (K : AV → Heap → Prop)
theorem opP_load (t : TypeId) (a : Operand) : opP S lim (.load t a) e H K = optP (loadV S.P H t (evO e a)) (K · H) := rfl
theorem opP_move (x : Operand) : opP S lim (.move x) e H K = K (evO e x) H := rfl
theorem opP_assign (x : Operand) : opP S lim (.assign x) e H K = K (evO e x) H := rfl
theorem opP_call (f : FuncId) (args : Array Operand) (ts : Array TypeId) : opP S lim (.call ⟨.value (.func f), args, ts⟩) e H K = ACall S lim f (args.toList.map (evO e)) H K := by
  simp only [opP, evO, List.append_nil]
def cloP (x : AV) (K : FuncId → List AV → Prop) : Prop :=
  match x with
  | .clo g l => K g l
  | _ => False
@[congr] theorem cloP_congr {x x' : AV} (K : FuncId → List AV → Prop) (h : x = x') : cloP x K = cloP x' K := by rw [h]
theorem cloP_clo (g : FuncId) (l : List AV) (K : FuncId → List AV → Prop) : cloP (.clo g l) K = K g l := rfl
theorem opP_callv (t : Nat) (args : Array Operand) (ts : Array TypeId) : opP S lim (.call ⟨.value (.tmp t), args, ts⟩) e H K = cloP (e.get t) fun g l => ACall S lim g (args.toList.map (evO e) ++ l) H K := by
  simp only [opP, evO, cloP]
  cases e.get t <;> rfl
theorem opP_alloc (t : TypeId) : opP S lim (.alloc t) e H K = optP ((tyOf S.P t).bind fun ty => ty.zero) fun z => K (.ptr H.length 0) (H ++ [some (z.map .v)]) := by
  simp only [opP, effV, optP]
  cases tyOf S.P t with
  | none => rfl
  | some ty =>
    simp only [Option.bind_some]
    cases ty.zero <;> rfl
theorem opP_box (t : TypeId) (x : Operand) : opP S lim (.box t x) e H K = optP (tyOf S.P t) fun _ => optP (cellsOf (evO e x)) fun c => K (.ptr H.length 0) (H ++ [some c]) := by
  simp only [opP, effV, optP]
  cases tyOf S.P t with
  | none => rfl
  | some ty => cases cellsOf (evO e x) <;> rfl
def storeP (lim size : Nat) (a : AV) (c : Option (List AV)) (H : Heap) (K : AV → Heap → Prop) : Prop :=
  match a with
  | .ptr b o => optP c fun c => optP (hget H b) fun k => (lim ≤ b ∧ c.length = size ∧ o + size ≤ k.length) ∧ K (.v undef) (hset H b (some (setL k o c)))
  | _ => False
@[congr] theorem storeP_congr (lim size : Nat) {a a' : AV} {c c' : Option (List AV)} (H : Heap) (K : AV → Heap → Prop) (h : a = a') (h' : c = c') : storeP lim size a c H K = storeP lim size a' c' H K := by rw [h, h']
theorem storeP_ptr (size b o : Nat) (c : List AV) : storeP lim size (.ptr b o) (some c) H K = optP (hget H b) fun k => (lim ≤ b ∧ c.length = size ∧ o + size ≤ k.length) ∧ K (.v undef) (hset H b (some (setL k o c))) := rfl
theorem opP_store (t : TypeId) (a x : Operand) : opP S lim (.store t a x) e H K = optP (tyOf S.P t) fun ty => storeP lim ty.size (evO e a) (cellsOf (evO e x)) H K := by
  simp only [opP, effV, optP, storeP]
  cases tyOf S.P t with
  | none => rfl
  | some ty =>
    simp only
    cases evO e a <;> try rfl
    cases cellsOf (evO e x) with
    | none => rfl
    | some c =>
      simp only
      rename_i b o
      cases hget H b with
      | none => rfl
      | some k =>
        simp only
        by_cases h : lim ≤ b ∧ c.length = ty.size ∧ o + ty.size ≤ List.length k
        · simp only [if_pos h]; simp [h]
        · simp only [if_neg h]; simp [h]
theorem opP_buildSlice (t : TypeId) (n : Nat) (parts : Array (Nat × Operand)) : opP S lim (.buildSlice t n parts) e H K = optP (effV S.P lim (.buildSlice t n parts) (evO e) H) fun r => K r.1 r.2 := rfl
theorem opP_makeSlice (t : TypeId) (l c : Operand) : opP S lim (.makeSlice t l c) e H K = optP (effV S.P lim (.makeSlice t l c) (evO e) H) fun r => K r.1 r.2 := rfl
theorem opP_append (x y : Operand) (t : TypeId) : opP S lim (.call ⟨.builtin .append, #[x, y], #[t, t]⟩) e H K = optP (appendV S.P lim H t (evO e x) (evO e y)) fun r => K r.1 r.2 := by
  simp [opP, effV]
theorem opP_binOp (op : BinOp) (t : TypeId) (x y : Operand) (ty : TypeId) : opP S lim (.binOp op t x y ty) e H K = optP (binV S.P op t (evO e x) (evO e y)) (K · H) := rfl
theorem opP_unOp (op : UnOp) (t : TypeId) (x : Operand) : opP S lim (.unOp op t x) e H K = optP (unV op (evO e x)) (K · H) := rfl
def pickP (c a b : AV) (K : AV → Prop) : Prop :=
  match c with
  | .v (.bool t) => K (if t then a else b)
  | _ => False
@[congr] theorem pickP_congr {c c' a a' b b' : AV} (K : AV → Prop) (h : c = c') (h1 : a = a') (h2 : b = b') : pickP c a b K = pickP c' a' b' K := by rw [h, h1, h2]
theorem pickP_bool (t : Bool) (a b : AV) (K : AV → Prop) : pickP (.v (.bool t)) a b K = K (if t then a else b) := rfl
theorem opP_pick (c a b : Operand) : opP S lim (.pick c a b) e H K = pickP (evO e c) (evO e a) (evO e b) (K · H) := by
  simp only [opP, popV, pickP, optP]
  cases evO e c with
  | v x => cases x <;> rfl
  | _ => rfl
theorem opP_build (t : TypeId) (parts : Array (Nat × Operand)) : opP S lim (.build t parts) e H K = optP (buildV S.P t (parts.toList.map fun p => (p.1, evO e p.2))) (K · H) := rfl
theorem opP_nilCheck (x : Operand) : opP S lim (.nilCheck x) e H K = optP (popV S.P (.nilCheck x) (evO e)) (K · H) := rfl
theorem opP_convert (s d : TypeId) (x : Operand) : opP S lim (.convert s d x) e H K = optP (convV S.P s d (evO e x)) (K · H) := rfl
theorem opP_makeFunc (f : FuncId) (c : Array Operand) : opP S lim (.makeFunc (.func f) #[] c) e H K = K (.clo f (c.toList.map (evO e))) H := rfl
theorem opP_slice (t : TypeId) (x : Operand) (lo hi : Option Operand) : opP S lim (.slice t x lo hi none) e H K = optP (sliceV S.P t (evO e x) (lo.map (evO e)) (hi.map (evO e))) (K · H) := rfl
theorem opP_fieldAddr (s : TypeId) (x : Operand) (f : Nat) : opP S lim (.fieldAddr s x f) e H K = optP (fieldAddrV S.P s (evO e x) f) (K · H) := rfl
theorem opP_field (s : TypeId) (x : Operand) (f : Nat) : opP S lim (.field s x f) e H K = optP (fieldV S.P s (evO e x) f) (K · H) := rfl
theorem opP_indexAddr (t : TypeId) (x i : Operand) : opP S lim (.indexAddr t x i) e H K = optP (indexAddrV S.P t (evO e x) (evO e i)) (K · H) := rfl
theorem opP_index (t : TypeId) (x i : Operand) : opP S lim (.index t x i) e H K = optP (indexV S.P t (evO e x) (evO e i)) (K · H) := rfl
def tupP (x : AV) (i : Nat) (K : AV → Prop) : Prop :=
  match x with
  | .tup l => optP l[i]? K
  | _ => False
@[congr] theorem tupP_congr {x x' : AV} (i : Nat) (K : AV → Prop) (h : x = x') : tupP x i K = tupP x' i K := by rw [h]
theorem tupP_tup (l : List AV) (i : Nat) (K : AV → Prop) : tupP (.tup l) i K = optP l[i]? K := rfl
theorem opP_extract (t : Operand) (i : Nat) : opP S lim (.extract t i) e H K = tupP (evO e t) i (K · H) := by
  simp only [opP, popV, tupP, optP]
  cases evO e t <;> rfl
theorem opP_len (x : Operand) (t : TypeId) : opP S lim (.call ⟨.builtin .len, #[x], #[t]⟩) e H K = optP (lenV (tyOf S.P t) (evO e x)) (K · H) := rfl
theorem opP_max (args : Array Operand) (ts : Array TypeId) : opP S lim (.call ⟨.builtin .max, args, ts⟩) e H K = optP (popV S.P (.call ⟨.builtin .max, args, ts⟩) (evO e)) (K · H) := rfl
theorem opP_min (args : Array Operand) (ts : Array TypeId) : opP S lim (.call ⟨.builtin .min, args, ts⟩) e H K = optP (popV S.P (.call ⟨.builtin .min, args, ts⟩) (evO e)) (K · H) := rfl
theorem pop_max2 (P : Program) (x y : Operand) (ts : Array TypeId) : popV P (.call ⟨.builtin .max, #[x, y], ts⟩) (evO e) = max2 (evO e x) (evO e y) := by
  simp only [popV, List.map, foldA]
  cases max2 (evO e x) (evO e y) <;> rfl
theorem pop_min2 (P : Program) (x y : Operand) (ts : Array TypeId) : popV P (.call ⟨.builtin .min, #[x, y], ts⟩) (evO e) = min2 (evO e x) (evO e y) := by
  simp only [popV, List.map, foldA]
  cases min2 (evO e x) (evO e y) <;> rfl
end

/-! ### Values -/
section
variable (P : Program)
theorem max2_int (k k' : IntKind) (x y : Int) : max2 (.v (.int k x)) (.v (.int k' y)) = some (.v (.int k (max x y))) := by
  simp only [max2]; congr 3; omega
theorem min2_int (k k' : IntKind) (x y : Int) : min2 (.v (.int k x)) (.v (.int k' y)) = some (.v (.int k (min x y))) := by
  simp only [min2]; congr 3; omega
theorem bin_add (t : TypeId) (k : IntKind) (a b : Int) : binV P .add t (.v (.int k a)) (.v (.int k b)) = some (.v (.int k (k.wrap (a + b)))) := by simp [binV, intBin]
theorem bin_sub (t : TypeId) (k : IntKind) (a b : Int) : binV P .sub t (.v (.int k a)) (.v (.int k b)) = some (.v (.int k (k.wrap (a - b)))) := by simp [binV, intBin]
theorem bin_mul (t : TypeId) (k : IntKind) (a b : Int) : binV P .mul t (.v (.int k a)) (.v (.int k b)) = some (.v (.int k (k.wrap (a * b)))) := by simp [binV, intBin]
theorem bin_quo (t : TypeId) (k : IntKind) (a b : Int) : binV P .quo t (.v (.int k a)) (.v (.int k b)) = if b = 0 then none else some (.v (.int k (k.wrap (a.tdiv b)))) := by
  simp only [binV, intBin, if_true]; split <;> rfl
theorem bin_rem (t : TypeId) (k : IntKind) (a b : Int) : binV P .rem t (.v (.int k a)) (.v (.int k b)) = if b = 0 then none else some (.v (.int k (a.tmod b))) := by
  simp only [binV, intBin, if_true]; split <;> rfl
theorem bin_eql (t : TypeId) (k : IntKind) (a b : Int) : binV P .eql t (.v (.int k a)) (.v (.int k b)) = some (.v (.bool (a == b))) := by simp [binV, intBin]
theorem bin_neq (t : TypeId) (k : IntKind) (a b : Int) : binV P .neq t (.v (.int k a)) (.v (.int k b)) = some (.v (.bool (!(a == b)))) := by simp [binV, intBin, bne]
theorem bin_lss (t : TypeId) (k : IntKind) (a b : Int) : binV P .lss t (.v (.int k a)) (.v (.int k b)) = some (.v (.bool (decide (a < b)))) := by simp [binV, intBin]
theorem bin_leq (t : TypeId) (k : IntKind) (a b : Int) : binV P .leq t (.v (.int k a)) (.v (.int k b)) = some (.v (.bool (decide (a ≤ b)))) := by simp [binV, intBin]
theorem bin_gtr (t : TypeId) (k : IntKind) (a b : Int) : binV P .gtr t (.v (.int k a)) (.v (.int k b)) = some (.v (.bool (decide (b < a)))) := by simp [binV, intBin]
theorem bin_geq (t : TypeId) (k : IntKind) (a b : Int) : binV P .geq t (.v (.int k a)) (.v (.int k b)) = some (.v (.bool (decide (b ≤ a)))) := by simp [binV, intBin]
theorem un_not (b : Bool) : unV .not (.v (.bool b)) = some (.v (.bool (!b))) := rfl
theorem un_neg (k : IntKind) (n : Int) : unV .neg (.v (.int k n)) = some (.v (.int k (k.wrap (0 - n)))) := rfl
theorem len_sl (ty : Ty) (e : TypeId) (n : Nat) (l : List AV) (h : ty.k = .slice e) : lenV (some ty) (.sl n l) = some (.v (.int .i64 n)) := by simp [lenV, kOf, h]
theorem len_own (ty : Ty) (e : TypeId) (z b o n : Nat) (h : ty.k = .slice e) : lenV (some ty) (.own z b o n) = some (.v (.int .i64 n)) := by simp [lenV, kOf, h]
theorem len_nil (ty : Ty) (e : TypeId) (n : Nat) (h : ty.k = .slice e) : lenV (some ty) (.v (.slice none n 0)) = some (.v (.int .i64 n)) := by simp [lenV, kOf, h]
theorem len_str (ty : Ty) (s : ByteArray) (h : ty.k = .string) : lenV (some ty) (.v (.string s)) = some (.v (.int .i64 s.size)) := by simp [lenV, kOf, h]

theorem ite_v {c : Prop} [Decidable c] (x y : Value) : (if c then AV.v x else AV.v y) = AV.v (if c then x else y) := by split <;> rfl
theorem ite_bool {c : Prop} [Decidable c] (x y : Bool) : (if c then Value.bool x else Value.bool y) = Value.bool (if c then x else y) := by split <;> rfl
theorem ite_int {c : Prop} [Decidable c] (k : IntKind) (x y : Int) : (if c then Value.int k x else Value.int k y) = Value.int k (if c then x else y) := by split <;> rfl

theorem cells_v (x : Value) (h : x.oneCell' = true) : cellsOf (.v x) = some [.v x] := by simp [cellsOf, storable, h]
theorem cells_sl (n : Nat) (l : List AV) : cellsOf (.sl n l) = some [.sl n l] := rfl
theorem cells_own (z b o n : Nat) : cellsOf (.own z b o n) = some [.own z b o n] := rfl
theorem cells_ptr (b o : Nat) : cellsOf (.ptr b o) = some [.ptr b o] := rfl
theorem cells_clo (f : FuncId) (l : List AV) : cellsOf (.clo f l) = some [.clo f l] := rfl
theorem cells_agg (l : List AV) : cellsOf (.agg l) = if l.all storable then some l else none := rfl
theorem st_v (x : Value) : storable (.v x) = x.oneCell' := rfl
theorem st_int (k : IntKind) (n : Int) : Value.oneCell' (.int k n) = true := rfl
theorem st_bool (b : Bool) : Value.oneCell' (.bool b) = true := rfl
theorem st_string (s : ByteArray) : Value.oneCell' (.string s) = true := rfl
theorem st_slice (p : Option Addr) (n c : Nat) : Value.oneCell' (.slice p n c) = true := rfl
theorem st_sl (n : Nat) (l : List AV) : storable (.sl n l) = true := rfl
theorem st_own (z b o n : Nat) : storable (.own z b o n) = true := rfl
theorem st_ptr (b o : Nat) : storable (.ptr b o) = true := rfl
theorem st_clo (f : FuncId) (l : List AV) : storable (.clo f l) = true := rfl

theorem partL_one (ty : Ty) (l : List AV) (o : Nat) (h : ty.agg = false) : partL ty l o = l[o]? := by simp [partL, h]
theorem partL_agg (ty : Ty) (l : List AV) (o : Nat) (h : ty.agg = true) : partL ty l o = if o + ty.size ≤ l.length then some (.agg ((l.drop o).take ty.size)) else none := by simp [partL, h]
theorem load_ptr (H : Heap) (t : TypeId) (ty : Ty) (h : tyOf P t = some ty) (b o : Nat) : loadV P H t (.ptr b o) = (hget H b).bind fun k => partL ty k o := by
  simp only [loadV, h]; cases hget H b <;> rfl
theorem load_ele (H : Heap) (t : TypeId) (ty : Ty) (h : tyOf P t = some ty) (l : List AV) (o : Nat) : loadV P H t (.ele l o) = partL ty l o := by
  simp only [loadV, h]
theorem ia_sl (t e : TypeId) (te : Ty) (h : tk P t = some (.slice e)) (he : tyOf P e = some te) (n : Nat) (l : List AV) (k : IntKind) (i : Int) :
    indexAddrV P t (.sl n l) (.v (.int k i)) = if 0 ≤ i ∧ i < n then some (.ele l (i.toNat * te.size)) else none := by simp only [indexAddrV, h, he]
theorem ia_own (t e : TypeId) (te : Ty) (h : tk P t = some (.slice e)) (he : tyOf P e = some te) (z b o n : Nat) (k : IntKind) (i : Int) :
    indexAddrV P t (.own z b o n) (.v (.int k i)) = if 0 ≤ i ∧ i < n then some (.ptr b (o + i.toNat * te.size)) else none := by simp only [indexAddrV, h, he]
theorem ia_ptr (t e : TypeId) (te : Ty) (m : Nat) (h : tk P t = some (.array m e)) (he : tyOf P e = some te) (b o : Nat) (k : IntKind) (i : Int) :
    indexAddrV P t (.ptr b o) (.v (.int k i)) = if 0 ≤ i ∧ i < m then some (.ptr b (o + i.toNat * te.size)) else none := by simp only [indexAddrV, h, he]
theorem fa_ptr (s : TypeId) (fs : List (Nat × TypeId)) (h : tk P s = some (.struct fs)) (b o f off : Nat) (ft : TypeId) (ty : Ty) (hf : fs[f]? = some (off, ft)) (ht : tyOf P ft = some ty) (hz : ty.size ≠ 0) :
    fieldAddrV P s (.ptr b o) f = some (.ptr b (o + off)) := by simp only [fieldAddrV, h, hf, ht]; simp [hz]
theorem fa_ele (s : TypeId) (fs : List (Nat × TypeId)) (h : tk P s = some (.struct fs)) (l : List AV) (o f off : Nat) (ft : TypeId) (ty : Ty) (hf : fs[f]? = some (off, ft)) (ht : tyOf P ft = some ty) (hz : ty.size ≠ 0) :
    fieldAddrV P s (.ele l o) f = some (.ele l (o + off)) := by simp only [fieldAddrV, h, hf, ht]; simp [hz]
theorem fd_agg (s : TypeId) (fs : List (Nat × TypeId)) (h : tk P s = some (.struct fs)) (l : List AV) (f off : Nat) (ft : TypeId) (ty : Ty) (hf : fs[f]? = some (off, ft)) (ht : tyOf P ft = some ty) :
    fieldV P s (.agg l) f = partL ty l off := by simp only [fieldV, h, hf, ht]

theorem frz_v (H : Heap) (b d : Nat) (x : Value) : frz H b (d + 1) (.v x) = .v x := rfl
theorem frz_tup (H : Heap) (b d : Nat) (l : List AV) : frz H b (d + 1) (.tup l) = .tup (l.map (frz H b d)) := rfl
theorem frz_agg (H : Heap) (b d : Nat) (l : List AV) : frz H b (d + 1) (.agg l) = .agg (l.map (frz H b d)) := rfl
theorem frz_sl (H : Heap) (b d : Nat) (n : Nat) (l : List AV) : frz H b (d + 1) (.sl n l) = .sl n (l.map (frz H b d)) := rfl
theorem frz_vs (H : Heap) (b d : Nat) {α : Type} (l : List α) (g : α → Value) : (l.map fun x => AV.v (g x)).map (frz H b (d + 1)) = l.map fun x => AV.v (g x) := by
  rw [List.map_map]; rfl
theorem frz_own (H : Heap) (b d : Nat) (z k o n : Nat) (h : ¬ k < b) : frz H b (d + 1) (.own z k o n) = (match hget H k with | some c => .sl n ((c.drop o).map (frz H b d)) | none => .any) := by
  simp only [frz, if_neg h]
  cases hget H k <;> rfl
end

/-! ### Numbers that fit -/
theorem wrap_i64 (n : Int) (h : -9223372036854775808 ≤ n ∧ n ≤ 9223372036854775807) : IntKind.i64.wrap n = n := by
  rw [IntKind.wrap_i64]; omega
theorem wrap_u64 (n : Int) (h : 0 ≤ n ∧ n ≤ 18446744073709551615) : IntKind.u64.wrap n = n := by
  simp only [IntKind.wrap, IntKind.bits, IntKind.signed]; simp; omega
theorem wrap_u8 (n : Int) (h : 0 ≤ n ∧ n ≤ 255) : IntKind.u8.wrap n = n := by
  simp only [IntKind.wrap, IntKind.bits, IntKind.signed]; simp; omega
theorem tdiv_nonneg (a b : Int) (h : 0 ≤ a) : a.tdiv b = a / b := Int.tdiv_eq_ediv_of_nonneg h
theorem tmod_nonneg (a b : Int) (h : 0 ≤ a) : a.tmod b = a % b := Int.tmod_eq_emod_of_nonneg h

theorem ret_fin {own : Bool} {fa : FnA} {H0 : Heap} {K : AV → Heap → Prop} (x : Ex) (s : St) (hx : ∀ id, x ≠ .exit id) :
    retP S own fa H0 K x s = optP (resAll S.P s.loc s.H fa.fn.results.toList) fun l => if own then K (oneOr l) s.H else K (frz s.H H0.length 8 (oneOr l)) H0 := by
  cases x with
  | exit id => exact absurd rfl (hx id)
  | _ => rfl
theorem ret_ret (own : Bool) (fa : FnA) (H0 : Heap) (K : AV → Heap → Prop) (s : St) :
    retP S own fa H0 K .ret s = optP (resAll S.P s.loc s.H fa.fn.results.toList) fun l => if own then K (oneOr l) s.H else K (frz s.H H0.length 8 (oneOr l)) H0 := rfl
theorem res_nil (P : Program) (e : Env) (H : Heap) : resAll P e H [] = some [] := rfl
theorem res_tmp (P : Program) (e : Env) (H : Heap) (t : Tmp) (rs : List ResultVar) : resAll P e H (.tmp t :: rs) = (resAll P e H rs).map (e.get t :: ·) := by
  simp only [resAll, resA]; cases resAll P e H rs <;> rfl
theorem res_cell (P : Program) (e : Env) (H : Heap) (a : Tmp) (t : TypeId) (rs : List ResultVar) : resAll P e H (.cell a t :: rs) = (loadV P H t (e.get a)).bind fun x => (resAll P e H rs).map (x :: ·) := by
  simp only [resAll, resA]; cases loadV P H t (e.get a) <;> cases resAll P e H rs <;> rfl
theorem one_one (x : AV) : oneOr [x] = x := rfl
theorem one_two (x y : AV) (l : List AV) : oneOr (x :: y :: l) = .tup (x :: y :: l) := rfl

/-! ### A region, operation by operation: each law wants what the operation yields, and hands on -/
section
variable {lim : Nat} {ops : Array Oper} {l : List Oper} {e : Env} {H : Heap} {K : Env → Heap → Prop} {d : Option Tmp} {op : Op} {ty : TypeId} {pos : String} {af : Array Edge} {g : Option (Nat × Bool)}

/-- What an operation that makes and writes nothing yields. -/
def qV (P : Program) (H : Heap) (o : Op) (e : Env) : Option AV :=
  match o with
  | .load t a => loadV P H t (evO e a)
  | o => popV P o (evO e)
theorem q_load (P : Program) (H : Heap) (e : Env) (t : TypeId) (a : Operand) : qV P H (.load t a) e = loadV P H t (evO e a) := rfl
theorem q_move (P : Program) (H : Heap) (e : Env) (x : Operand) : qV P H (.move x) e = some (evO e x) := rfl
theorem q_assign (P : Program) (H : Heap) (e : Env) (x : Operand) : qV P H (.assign x) e = some (evO e x) := rfl
theorem q_binOp (P : Program) (H : Heap) (e : Env) (op : BinOp) (t : TypeId) (x y : Operand) (ty : TypeId) : qV P H (.binOp op t x y ty) e = binV P op t (evO e x) (evO e y) := rfl
theorem q_unOp (P : Program) (H : Heap) (e : Env) (op : UnOp) (t : TypeId) (x : Operand) : qV P H (.unOp op t x) e = unV op (evO e x) := rfl
theorem q_pick (P : Program) (H : Heap) (e : Env) (c a b : Operand) : qV P H (.pick c a b) e = match evO e c with | .v (.bool t) => some (if t then evO e a else evO e b) | _ => none := rfl
theorem q_build (P : Program) (H : Heap) (e : Env) (t : TypeId) (parts : Array (Nat × Operand)) : qV P H (.build t parts) e = buildV P t (parts.toList.map fun p => (p.1, evO e p.2)) := rfl
theorem q_nilCheck (P : Program) (H : Heap) (e : Env) (x : Operand) : qV P H (.nilCheck x) e = popV P (.nilCheck x) (evO e) := rfl
theorem q_convert (P : Program) (H : Heap) (e : Env) (s d : TypeId) (x : Operand) : qV P H (.convert s d x) e = convV P s d (evO e x) := rfl
theorem q_makeFunc (P : Program) (H : Heap) (e : Env) (f : FuncId) (c : Array Operand) : qV P H (.makeFunc (.func f) #[] c) e = some (.clo f (c.toList.map (evO e))) := rfl
theorem q_slice (P : Program) (H : Heap) (e : Env) (t : TypeId) (x : Operand) (lo hi : Option Operand) : qV P H (.slice t x lo hi none) e = sliceV P t (evO e x) (lo.map (evO e)) (hi.map (evO e)) := rfl
theorem q_fieldAddr (P : Program) (H : Heap) (e : Env) (s : TypeId) (x : Operand) (f : Nat) : qV P H (.fieldAddr s x f) e = fieldAddrV P s (evO e x) f := rfl
theorem q_field (P : Program) (H : Heap) (e : Env) (s : TypeId) (x : Operand) (f : Nat) : qV P H (.field s x f) e = fieldV P s (evO e x) f := rfl
theorem q_indexAddr (P : Program) (H : Heap) (e : Env) (t : TypeId) (x i : Operand) : qV P H (.indexAddr t x i) e = indexAddrV P t (evO e x) (evO e i) := rfl
theorem q_index (P : Program) (H : Heap) (e : Env) (t : TypeId) (x i : Operand) : qV P H (.index t x i) e = indexV P t (evO e x) (evO e i) := rfl
theorem q_extract (P : Program) (H : Heap) (e : Env) (t : Operand) (i : Nat) : qV P H (.extract t i) e = match evO e t with | .tup l => l[i]? | _ => none := rfl
theorem q_len (P : Program) (H : Heap) (e : Env) (x : Operand) (t : TypeId) : qV P H (.call ⟨.builtin .len, #[x], #[t]⟩) e = lenV (tyOf P t) (evO e x) := rfl
theorem q_max (P : Program) (H : Heap) (e : Env) (x y : Operand) (ts : Array TypeId) : qV P H (.call ⟨.builtin .max, #[x, y], ts⟩) e = max2 (evO e x) (evO e y) := pop_max2 e P x y ts
theorem q_min (P : Program) (H : Heap) (e : Env) (x y : Operand) (ts : Array TypeId) : qV P H (.call ⟨.builtin .min, #[x, y], ts⟩) e = min2 (evO e x) (evO e y) := pop_min2 e P x y ts
theorem q_max3 (P : Program) (H : Heap) (e : Env) (x y z : Operand) (ts : Array TypeId) : qV P H (.call ⟨.builtin .max, #[x, y, z], ts⟩) e = (max2 (evO e x) (evO e y)).bind fun u => max2 u (evO e z) := by
  simp only [qV, popV, List.map, foldA]
  cases max2 (evO e x) (evO e y) with
  | none => rfl
  | some u => simp only [Option.bind_some]; cases max2 u (evO e z) <;> rfl

/-- Does this operation only read? -/
def isQ : Op → Bool
  | .load .. | .move _ | .assign _ | .pick .. | .build .. | .nilCheck _ | .binOp .. | .unOp .. | .convert .. | .makeFunc .. | .slice .. | .fieldAddr .. | .field .. | .indexAddr .. | .index .. | .extract .. => true
  | .call { callee := .builtin .len, args := _, argTypes := _ } | .call { callee := .builtin .max, args := _, argTypes := _ } | .call { callee := .builtin .min, args := _, argTypes := _ } => true
  | _ => false

theorem opP_q {K : AV → Heap → Prop} (hq : isQ op = true) {r : AV} (h : qV S.P H op e = some r) (hk : K r H) : opP S lim op e H K := by
  unfold isQ at hq
  split at hq <;> first | (cases hq; done) | skip
  all_goals first
    | (simp only [qV] at h; simp only [opP, h, optP]; exact hk)
    | (simp only [qV, popV, Option.some.injEq] at h; subst h; exact hk)

theorem takeV_q {P : Program} (hq : isQ op = true) {r : AV} (h : qV P H op e = some r) : takeV P op e H = some r := by
  unfold isQ at hq
  split at hq <;> first | (cases hq; done) | skip
  all_goals simpa [takeV, isLoad, callV, qV, popV] using h
theorem Lp_cons {ops : Array Oper} {l : List Oper} {R : List Nat} {K : Env → List Nat → Prop} (o : Oper) : Lp S ops H K (o :: l) e R = guardP ops e o (optP (takeV S.P o.op e H) fun x => Lp S ops H K l (e.put o.dst x) (rdV o.op e ++ R)) (Lp S ops H K l (e.put o.dst (.v undef)) R) := rfl
theorem L_q {ops : Array Oper} {l : List Oper} {R R' : List Nat} {K : Env → List Nat → Prop} (hq : isQ op = true) {r : AV} (h : qV S.P H op e = some r) (hr : rdV op e ++ R = R') (hk : Lp S ops H K l (e.put d r) R') : Lp S ops H K (⟨d, op, ty, pos, af, none⟩ :: l) e R := by
  subst hr
  rw [Lp_cons, guardP_free, takeV_q hq h]; exact hk
theorem L_nil {ops : Array Oper} {R : List Nat} {K : Env → List Nat → Prop} (hk : K e R) : Lp S ops H K [] e R := hk
theorem L_yes {ops : Array Oper} {l : List Oper} {R : List Nat} {K : Env → List Nat → Prop} {j t : Nat} {want : Bool} {b : Bool} (hj : (ops[j]?).bind (·.dst) = some t) (hb : e.get t = .v (.bool b)) (h : b = want) (hy : Lp S ops H K (⟨d, op, ty, pos, af, none⟩ :: l) e R) : Lp S ops H K (⟨d, op, ty, pos, af, some (j, want)⟩ :: l) e R := by
  rw [Lp_cons, guardP_on ops e d op ty pos af j want _ _ hj, hb]
  rw [Lp_cons, guardP_free] at hy
  subst h
  exact ⟨fun _ => hy, fun h => (by cases b <;> cases h)⟩
theorem L_no {ops : Array Oper} {l : List Oper} {R : List Nat} {K : Env → List Nat → Prop} {j t : Nat} {want : Bool} {b : Bool} (hj : (ops[j]?).bind (·.dst) = some t) (hb : e.get t = .v (.bool b)) (h : b = !want) (hy : Lp S ops H K l (e.put d (.v undef)) R) : Lp S ops H K (⟨d, op, ty, pos, af, some (j, want)⟩ :: l) e R := by
  rw [Lp_cons, guardP_on ops e d op ty pos af j want _ _ hj, hb]
  subst h
  exact ⟨fun h => (by cases want <;> cases h), fun _ => hy⟩
theorem L_un {ops : Array Oper} {l : List Oper} {R : List Nat} {K : Env → List Nat → Prop} {j t : Nat} {want : Bool} (hj : (ops[j]?).bind (·.dst) = some t) (hb : e.get t = .v undef) (hy : Lp S ops H K l (e.put d (.v undef)) R) : Lp S ops H K (⟨d, op, ty, pos, af, some (j, want)⟩ :: l) e R := by
  rw [Lp_cons, guardP_on ops e d op ty pos af j want _ _ hj, hb]
  exact hy
theorem M_nil {ops : Array Oper} {R : List Nat} {K : Env → Heap → Prop} (hk : K e H) : Mp S lim ops R K [] e H := hk
theorem M_step {ops : Array Oper} {R : List Nat} {K : Env → Heap → Prop} {o : Oper} {l : List Oper} (hc : wrC R o e = true) (h : Rp S lim ops [o] e H fun e' H' => Mp S lim ops R K l e' H') : Mp S lim ops R K (o :: l) e H := ⟨hc, h⟩
theorem R_end {K : Env → Heap → Prop} (hk : K e H) : Rp S lim ops [] e H K := hk
theorem R_q (hq : isQ op = true) {r : AV} (h : qV S.P H op e = some r) (hk : Rp S lim ops l (e.put d r) H K) : Rp S lim ops (⟨d, op, ty, pos, af, none⟩ :: l) e H K := by rw [Rp_cons, guardP_free]; exact opP_q hq h hk
theorem R_nil {Q : Ex → St → Prop} {loc loc' : Env} (h : trim e loc = loc') (hk : Q .normal ⟨loc', H⟩) : Rp S lim ops [] e H fun e H => Q .normal ⟨trim e loc, H⟩ := by
  show Q .normal ⟨trim e loc, H⟩
  rw [h]; exact hk
theorem R_call {f : FuncId} {args : Array Operand} {ts : Array TypeId} {vs : List AV} (h : args.toList.map (evO e) = vs) (hk : ACall S lim f vs H fun x H' => Rp S lim ops l (e.put d x) H' K) :
    Rp S lim ops (⟨d, .call ⟨.value (.func f), args, ts⟩, ty, pos, af, none⟩ :: l) e H K := by
  rw [Rp_cons, guardP_free, opP_call, h]; exact hk
theorem R_callv {t : Nat} {f : FuncId} {cap : List AV} {args : Array Operand} {ts : Array TypeId} {vs : List AV} (hf : e.get t = .clo f cap) (h : args.toList.map (evO e) ++ cap = vs) (hk : ACall S lim f vs H fun x H' => Rp S lim ops l (e.put d x) H' K) :
    Rp S lim ops (⟨d, .call ⟨.value (.tmp t), args, ts⟩, ty, pos, af, none⟩ :: l) e H K := by
  rw [Rp_cons, guardP_free, opP_callv, hf, cloP_clo, h]; exact hk
theorem R_alloc {t : TypeId} {z : List Value} (hz : (tyOf S.P t).bind (fun ty => ty.zero) = some z) {n : Nat} (hn : H.length = n) {H' : Heap} (hH : H ++ [some (z.map .v)] = H') (hk : Rp S lim ops l (e.put d (.ptr n 0)) H' K) : Rp S lim ops (⟨d, .alloc t, ty, pos, af, none⟩ :: l) e H K := by
  subst hn; subst hH
  rw [Rp_cons, guardP_free, opP_alloc, hz]; exact hk
theorem R_box {t : TypeId} {x : Operand} {c : List AV} (ht : (tyOf S.P t).isSome = true) (hc : cellsOf (evO e x) = some c) {n : Nat} (hn : H.length = n) {H' : Heap} (hH : H ++ [some c] = H') (hk : Rp S lim ops l (e.put d (.ptr n 0)) H' K) : Rp S lim ops (⟨d, .box t x, ty, pos, af, none⟩ :: l) e H K := by
  subst hn; subst hH
  rw [Rp_cons, guardP_free, opP_box, hc]
  cases h : tyOf S.P t with
  | none => rw [h] at ht; cases ht
  | some ty => exact hk
theorem R_store {t : TypeId} {tyy : Ty} {a x : Operand} {b o : Nat} {c : List AV} {k : Blk} (ht : tyOf S.P t = some tyy) (ha : evO e a = .ptr b o) (hc : cellsOf (evO e x) = some c) (hb : hget H b = some k) (hl : lim ≤ b ∧ c.length = tyy.size ∧ o + tyy.size ≤ k.length) {k' : Blk} (hk' : setL k o c = k') {H' : Heap} (hH : hset H b (some k') = H') (hk : Rp S lim ops l (e.put d (.v undef)) H' K) :
    Rp S lim ops (⟨d, .store t a x, ty, pos, af, none⟩ :: l) e H K := by
  subst hk'; subst hH
  rw [Rp_cons, guardP_free, opP_store, ht, optP_some, ha, hc, storeP_ptr, hb, optP_some]
  exact ⟨hl, hk⟩
theorem R_append {x y : Operand} {t : TypeId} {r : AV} {H' : Heap} (h : appendV S.P lim H t (evO e x) (evO e y) = some (r, H')) (hk : Rp S lim ops l (e.put d r) H' K) : Rp S lim ops (⟨d, .call ⟨.builtin .append, #[x, y], #[t, t]⟩, ty, pos, af, none⟩ :: l) e H K := by
  rw [Rp_cons, guardP_free, opP_append, h]; exact hk
theorem R_buildSlice {t : TypeId} {n : Nat} {parts : Array (Nat × Operand)} {r : AV} {H' : Heap} (h : effV S.P lim (.buildSlice t n parts) (evO e) H = some (r, H')) (hk : Rp S lim ops l (e.put d r) H' K) : Rp S lim ops (⟨d, .buildSlice t n parts, ty, pos, af, none⟩ :: l) e H K := by
  rw [Rp_cons, guardP_free, opP_buildSlice, h]; exact hk
theorem R_makeSlice {t : TypeId} {n c : Operand} {r : AV} {H' : Heap} (h : effV S.P lim (.makeSlice t n c) (evO e) H = some (r, H')) (hk : Rp S lim ops l (e.put d r) H' K) : Rp S lim ops (⟨d, .makeSlice t n c, ty, pos, af, none⟩ :: l) e H K := by
  rw [Rp_cons, guardP_free, opP_makeSlice, h]; exact hk
theorem R_yes {j t : Nat} {want : Bool} {b : Bool} (hj : (ops[j]?).bind (·.dst) = some t) (hb : e.get t = .v (.bool b)) (h : b = want) (hy : Rp S lim ops (⟨d, op, ty, pos, af, none⟩ :: l) e H K) : Rp S lim ops (⟨d, op, ty, pos, af, some (j, want)⟩ :: l) e H K := by
  rw [Rp_cons, guardP_on ops e d op ty pos af j want _ _ hj, hb]
  rw [Rp_cons, guardP_free] at hy
  subst h
  exact ⟨fun _ => hy, fun h => (by cases b <;> cases h)⟩
theorem R_no {j t : Nat} {want : Bool} {b : Bool} (hj : (ops[j]?).bind (·.dst) = some t) (hb : e.get t = .v (.bool b)) (h : b = !want) (hy : Rp S lim ops l (e.put d (.v undef)) H K) : Rp S lim ops (⟨d, op, ty, pos, af, some (j, want)⟩ :: l) e H K := by
  rw [Rp_cons, guardP_on ops e d op ty pos af j want _ _ hj, hb]
  subst h
  exact ⟨fun h => (by cases want <;> cases h), fun _ => hy⟩
theorem R_un {j t : Nat} {want : Bool} (hj : (ops[j]?).bind (·.dst) = some t) (hb : e.get t = .v undef) (hy : Rp S lim ops l (e.put d (.v undef)) H K) : Rp S lim ops (⟨d, op, ty, pos, af, some (j, want)⟩ :: l) e H K := by
  rw [Rp_cons, guardP_on ops e d op ty pos af j want _ _ hj, hb]
  exact hy
end

/-! ### The same where the order is drawn -/
section
variable {ops : Array Oper} {l : List Oper} {e : Env} {H : Heap} {K : Env → Prop} {d : Option Tmp} {op : Op} {ty : TypeId} {pos : String} {af : Array Edge}
theorem Qp_cons (o : Oper) : Qp S ops (o :: l) e H K = guardP ops e o (opQ S o.op e H fun x => Qp S ops l (e.put o.dst x) H K) (Qp S ops l (e.put o.dst (.v undef)) H K) := rfl
theorem opQ_q {K : AV → Prop} (hq : isQ op = true) {r : AV} (h : qV S.P H op e = some r) (hk : K r) : opQ S op e H K := by
  unfold isQ at hq
  split at hq <;> first | (cases hq; done) | skip
  all_goals first
    | (simp only [qV] at h; simp only [opQ, h, optP]; exact hk)
    | (simp only [qV, popV, Option.some.injEq] at h; subst h; exact hk)
theorem Q_q (hq : isQ op = true) {r : AV} (h : qV S.P H op e = some r) (hk : Qp S ops l (e.put d r) H K) : Qp S ops (⟨d, op, ty, pos, af, none⟩ :: l) e H K := by rw [Qp_cons, guardP_free]; exact opQ_q hq h hk
theorem Q_nil (hk : K e) : Qp S ops [] e H K := hk
theorem Q_call {f : FuncId} {args : Array Operand} {ts : Array TypeId} {vs : List AV} (hp : S.own f = false) (h : args.toList.map (evO e) = vs) (hk : ACall S H.length f vs H fun x _ => exacts x = true ∧ Qp S ops l (e.put d x) H K) :
    Qp S ops (⟨d, .call ⟨.value (.func f), args, ts⟩, ty, pos, af, none⟩ :: l) e H K := by
  rw [Qp_cons, guardP_free]
  refine ⟨by simp [Sig.pure, hp], ?_⟩
  simp only [List.append_nil, h]
  exact hk
theorem Q_yes {j t : Nat} {want : Bool} {b : Bool} (hj : (ops[j]?).bind (·.dst) = some t) (hb : e.get t = .v (.bool b)) (h : b = want) (hy : Qp S ops (⟨d, op, ty, pos, af, none⟩ :: l) e H K) : Qp S ops (⟨d, op, ty, pos, af, some (j, want)⟩ :: l) e H K := by
  rw [Qp_cons, guardP_on ops e d op ty pos af j want _ _ hj, hb]
  rw [Qp_cons, guardP_free] at hy
  subst h
  exact ⟨fun _ => hy, fun h => (by cases b <;> cases h)⟩
theorem Q_no {j t : Nat} {want : Bool} {b : Bool} (hj : (ops[j]?).bind (·.dst) = some t) (hb : e.get t = .v (.bool b)) (h : b = !want) (hy : Qp S ops l (e.put d (.v undef)) H K) : Qp S ops (⟨d, op, ty, pos, af, some (j, want)⟩ :: l) e H K := by
  rw [Qp_cons, guardP_on ops e d op ty pos af j want _ _ hj, hb]
  subst h
  exact ⟨fun h => (by cases want <;> cases h), fun _ => hy⟩
theorem Q_un {j t : Nat} {want : Bool} (hj : (ops[j]?).bind (·.dst) = some t) (hb : e.get t = .v undef) (hy : Qp S ops l (e.put d (.v undef)) H K) : Qp S ops (⟨d, op, ty, pos, af, some (j, want)⟩ :: l) e H K := by
  rw [Qp_cons, guardP_on ops e d op ty pos af j want _ _ hj, hb]
  exact hy
end

/-! ### Loops and ends -/
def upd (loc : Env) (kv : Env) : Env := loc.map fun p => (p.1, Env.getD kv p.1 p.2)
theorem upd_def (loc kv : Env) : upd loc kv = loc.map fun p => (p.1, Env.getD kv p.1 p.2) := rfl

section
variable {lim : Nat} {dr : List (Nat × Draw)} {loc : Env} {H : Heap} {Q : Ex → St → Prop} {c : Code} {p : List Nat}
/-- A loop that leaves the memory alone: the slots ks hold what J says of them at every round's head. -/
theorem loop_c (h : at' c p = .loop (at' c (0 :: p))) (ks : List Nat) (J : List AV → Prop) (μ : List AV → Nat) (vs : List AV) (h0 : upd loc (ks.zip vs) = loc) (hJ : J vs)
    (round : ∀ vs, J vs → W S lim dr (at' c (0 :: p)) ⟨upd loc (ks.zip vs), H⟩ (thenQ (fun s' => ∃ vs', s' = ⟨upd loc (ks.zip vs'), H⟩ ∧ J vs' ∧ μ vs' < μ vs) Q)) : W S lim dr (at' c p) ⟨loc, H⟩ Q := by
  have key : ∀ n vs, μ vs = n → J vs → W S lim dr (.loop (at' c (0 :: p))) ⟨upd loc (ks.zip vs), H⟩ Q := by
    intro n
    induction n using Nat.strongRecOn with
    | _ n ih =>
      intro vs hn hI
      refine W_loop (W_mono (round vs hI) fun e s' h => ?_)
      cases e with
      | normal =>
        obtain ⟨vs', rfl, h1, h2⟩ := h
        exact ih (μ vs') (hn ▸ h2) vs' rfl h1
      | exit id => exact h
      | ret => exact h
  rw [h]
  have := key _ vs rfl hJ
  rwa [h0] at this
/-- A loop that writes memory. -/
theorem loop_h (h : at' c p = .loop (at' c (0 :: p))) (ks : List Nat) (J : List AV → Heap → Prop) (μ : List AV → Heap → Nat) (vs : List AV) (h0 : upd loc (ks.zip vs) = loc) (hJ : J vs H)
    (round : ∀ vs H, J vs H → W S lim dr (at' c (0 :: p)) ⟨upd loc (ks.zip vs), H⟩ (thenQ (fun s' => ∃ vs' H', s' = ⟨upd loc (ks.zip vs'), H'⟩ ∧ J vs' H' ∧ μ vs' H' < μ vs H) Q)) : W S lim dr (at' c p) ⟨loc, H⟩ Q := by
  have key : ∀ n vs H, μ vs H = n → J vs H → W S lim dr (.loop (at' c (0 :: p))) ⟨upd loc (ks.zip vs), H⟩ Q := by
    intro n
    induction n using Nat.strongRecOn with
    | _ n ih =>
      intro vs H hn hI
      refine W_loop (W_mono (round vs H hI) fun e s' h => ?_)
      cases e with
      | normal =>
        obtain ⟨vs', H', rfl, h1, h2⟩ := h
        exact ih (μ vs' H') (hn ▸ h2) vs' H' rfl h1
      | exit id => exact h
      | ret => exact h
  rw [h]
  have := key _ vs H rfl hJ
  rwa [h0] at this
/-- A loop: kv is what the slots that change hold at a round's head, J what is known of them and of the memory there, m a number that every round lowers. -/
theorem loop_n (h : at' c p = .loop (at' c (0 :: p))) (J : Nat → Env → Heap → Prop) {m : Nat} {kv : Env} (hJ : J m kv H) (h0 : upd loc kv = loc)
    (round : ∀ m kv H, J m kv H → W S lim dr (at' c (0 :: p)) ⟨upd loc kv, H⟩ (thenQ (fun s' => ∃ m' kv', J m' kv' s'.H ∧ s'.loc = upd loc kv' ∧ m' < m) Q)) : W S lim dr (at' c p) ⟨loc, H⟩ Q := by
  have key : ∀ m kv H, J m kv H → W S lim dr (.loop (at' c (0 :: p))) ⟨upd loc kv, H⟩ Q := by
    intro m
    induction m using Nat.strongRecOn with
    | _ m ih =>
      intro kv H hI
      refine W_loop (W_mono (round m kv H hI) fun e s' h => ?_)
      cases e with
      | normal =>
        obtain ⟨m', kv', h1, h2, h3⟩ := h
        obtain ⟨l', H'⟩ := s'
        have h2' : l' = upd loc kv' := h2
        subst h2'
        exact ih m' h3 kv' H' h1
      | exit id => exact h
      | ret => exact h
  rw [h]
  have := key _ kv H hJ
  rwa [h0] at this
theorem then_x {N : St → Prop} {s : St} {i : Nat} (h : Q (.exit i) s) : thenQ N Q (.exit i) s := h
theorem then_r {N : St → Prop} {s : St} (h : Q .ret s) : thenQ N Q .ret s := h
theorem blk_n {s : St} {i : Nat} (h : Q .normal s) : blockQ i Q .normal s := h
theorem blk_r {s : St} {i : Nat} (h : Q .ret s) : blockQ i Q .ret s := h
theorem blk_x {s : St} {i : Nat} (h : Q .normal s) : blockQ i Q (.exit i) s := by simp only [blockQ, if_true]; exact h
theorem blk_p {s : St} {i j : Nat} (hij : j ≠ i) (h : Q (.exit j) s) : blockQ i Q (.exit j) s := by simp only [blockQ, if_neg hij]; exact h
theorem at_cond_t {s : St} {o : Operand} (h : at' c p = .cond o (at' c (0 :: p)) (at' c (1 :: p))) (hc : evO s.loc o = .v (.bool true)) (h1 : W S lim dr (at' c (0 :: p)) s Q) : W S lim dr (at' c p) s Q := at_cond h hc (fun _ => h1) (fun h => nomatch h)
theorem at_cond_f {s : St} {o : Operand} (h : at' c p = .cond o (at' c (0 :: p)) (at' c (1 :: p))) (hc : evO s.loc o = .v (.bool false)) (h1 : W S lim dr (at' c (1 :: p)) s Q) : W S lim dr (at' c p) s Q := at_cond h hc (fun h => nomatch h) (fun _ => h1)
theorem Rp_split {ops : Array Oper} {l : List Oper} {e : Env} {K : Env → Heap → Prop} {t : Nat} {b : Bool} (h1 : b = true → Rp S lim ops l ((t, .v (.bool true)) :: e) H K) (h2 : b = false → Rp S lim ops l ((t, .v (.bool false)) :: e) H K) :
    Rp S lim ops l (Env.put e (some t) (.v (.bool b))) H K := by
  cases b with
  | true => exact h1 rfl
  | false => exact h2 rfl
theorem Qp_split {ops : Array Oper} {l : List Oper} {e : Env} {K : Env → Prop} {t : Nat} {b : Bool} (h1 : b = true → Qp S ops l ((t, .v (.bool true)) :: e) H K) (h2 : b = false → Qp S ops l ((t, .v (.bool false)) :: e) H K) :
    Qp S ops l (Env.put e (some t) (.v (.bool b))) H K := by
  cases b with
  | true => exact h1 rfl
  | false => exact h2 rfl
theorem Rp_to {ops : Array Oper} {l : List Oper} {e e' : Env} {K : Env → Heap → Prop} (he : e = e') (h : Rp S lim ops l e' H K) : Rp S lim ops l e H K := by subst he; exact h
theorem rg {id : Nat} {ops : Array Oper} (h : at' c p = .region id ops false) (hw : Rp S lim ops ops.toList loc H fun e H => Q .normal ⟨trim e loc, H⟩) : W S lim dr (at' c p) ⟨loc, H⟩ Q := at_region h hw
theorem rd {id n : Nat} {ops : Array Oper} (h : at' c p = .region id ops true) (hd : dr.lookup id = some (.quiet n))
    (hw : Qp S ops (ops.toList.take n) loc H fun e => Rp S lim ops (ops.toList.drop n) e H fun e H => Q .normal ⟨trim e loc, H⟩) : W S lim dr (at' c p) ⟨loc, H⟩ Q := at_draw h hd hw
theorem rl {id : Nat} {ops : Array Oper} {lead m fin live keep : List Nat} (h : at' c p = .region id ops true) (hd : dr.lookup id = some (.led lead [m] fin live keep))
    (hw : Lp S ops H (fun e R => Mp S lim ops R (fun e1 H1 => Rp S lim ops (pick ops fin) e1 H1 fun e' H' => Q .normal ⟨trim e' loc, H'⟩) (pick ops m) e H) (pick ops lead) loc []) : W S lim dr (at' c p) ⟨loc, H⟩ Q := at_led h hd hw
theorem rls {id : Nat} {ops : Array Oper} {lead m m2 fin live keep : List Nat} {ms : List (List Nat)} (h : at' c p = .region id ops true) (hd : dr.lookup id = some (.led lead (m :: m2 :: ms) fin live keep))
    (hw : Lp S ops H (fun e _ => ∃ e1 H1, Rp S H.length ops (pick ops m) e H (fun e' H' => e' = e1 ∧ H' = H1) ∧ Alts S ops live keep H.length e H e1 H1 (m2 :: ms) ∧
      Rp S lim ops (pick ops fin) (cutE ops live loc e1) (keepOnly keep H.length H1) fun e' H' => Q .normal ⟨trim e' loc, H'⟩) (pick ops lead) loc []) : W S lim dr (at' c p) ⟨loc, H⟩ Q := at_leds h hd hw
theorem Lp_split {ops : Array Oper} {l : List Oper} {e : Env} {R : List Nat} {K : Env → List Nat → Prop} {t : Nat} {b : Bool} (h1 : b = true → Lp S ops H K l ((t, .v (.bool true)) :: e) R) (h2 : b = false → Lp S ops H K l ((t, .v (.bool false)) :: e) R) :
    Lp S ops H K l (Env.put e (some t) (.v (.bool b))) R := by
  cases b with
  | true => exact h1 rfl
  | false => exact h2 rfl
theorem cd {o : Operand} {t : Bool} (h : at' c p = .cond o (at' c (0 :: p)) (at' c (1 :: p))) (hc : evO loc o = .v (.bool t)) (h1 : t = true → W S lim dr (at' c (0 :: p)) ⟨loc, H⟩ Q) (h2 : t = false → W S lim dr (at' c (1 :: p)) ⟨loc, H⟩ Q) : W S lim dr (at' c p) ⟨loc, H⟩ Q := at_cond h hc h1 h2
theorem cd_t {o : Operand} (h : at' c p = .cond o (at' c (0 :: p)) (at' c (1 :: p))) (hc : evO loc o = .v (.bool true)) (h1 : W S lim dr (at' c (0 :: p)) ⟨loc, H⟩ Q) : W S lim dr (at' c p) ⟨loc, H⟩ Q := at_cond h hc (fun _ => h1) (fun h => nomatch h)
theorem cd_f {o : Operand} (h : at' c p = .cond o (at' c (0 :: p)) (at' c (1 :: p))) (hc : evO loc o = .v (.bool false)) (h1 : W S lim dr (at' c (1 :: p)) ⟨loc, H⟩ Q) : W S lim dr (at' c p) ⟨loc, H⟩ Q := at_cond h hc (fun h => nomatch h) (fun _ => h1)
theorem then_n {N : St → Prop} {s : St} (h : N s) : thenQ N Q .normal s := h
/-- The state spelled out. -/
theorem W_to {loc' : Env} (h : loc = loc') (hw : W S lim dr (at' c p) ⟨loc', H⟩ Q) : W S lim dr (at' c p) ⟨loc, H⟩ Q := by subst h; exact hw
/-- Ways that meet again: what holds of the state behind the left part. -/
theorem seq_cut {s : St} (h : at' c p = .seq (at' c (0 :: p)) (at' c (1 :: p))) (M : St → Prop) (h1 : W S lim dr (at' c (0 :: p)) s (thenQ M Q)) (h2 : ∀ s', M s' → W S lim dr (at' c (1 :: p)) s' Q) : W S lim dr (at' c p) s Q := by
  refine at_seq h (W_mono h1 fun e s' hm => ?_)
  cases e with
  | normal => exact h2 s' hm
  | exit id => exact hm
  | ret => exact hm
theorem fin_pure {fa : FnA} {H0 : Heap} {K : AV → Heap → Prop} {s : St} {rs : List ResultVar} (hrs : fa.fn.results.toList = rs) {l : List AV} (hl : resAll S.P s.loc s.H rs = some l) {v : AV} (hv : frz s.H H0.length 8 (oneOr l) = v) (hk : K v H0) : retP S false fa H0 K .ret s := by
  rw [ret_ret, hrs, hl, optP_some]
  simp only [Bool.false_eq_true, if_false]
  rw [hv]; exact hk
theorem fin_own {fa : FnA} {H0 : Heap} {K : AV → Heap → Prop} {s : St} {rs : List ResultVar} (hrs : fa.fn.results.toList = rs) {l : List AV} (hl : resAll S.P s.loc s.H rs = some l) (hk : K (oneOr l) s.H) : retP S true fa H0 K .ret s := by
  rw [ret_ret, hrs, hl, optP_some]
  simp only [if_true]
  exact hk
theorem fin_own_n {fa : FnA} {H0 : Heap} {K : AV → Heap → Prop} {s : St} {rs : List ResultVar} (hrs : fa.fn.results.toList = rs) {l : List AV} (hl : resAll S.P s.loc s.H rs = some l) (hk : K (oneOr l) s.H) : retP S true fa H0 K .normal s := fin_own hrs hl hk
theorem ACall_eq {f : FuncId} {vs : List AV} {K : AV → Heap → Prop} {v : AV} (h : ACall S lim f vs H fun r H' => r = v ∧ H' = H) (hk : K v H) : ACall S lim f vs H K :=
  ACall_mono h fun r H' ⟨h1, h2⟩ => by rw [h1, h2]; exact hk
end
end
end Go.Am
end
section
namespace Go.Am
open Go
attribute [go_sem] get_cons get_nil getD_cons getD_nil put_some put_none ev_tmp ev_int ev_bool ev_str ev_nil ev_func ev_agg
  max2_int min2_int bin_add bin_sub bin_mul bin_eql bin_neq bin_lss bin_leq bin_gtr bin_geq un_not un_neg
  q_load q_move q_assign q_binOp q_unOp q_pick q_build q_nilCheck q_convert q_makeFunc q_slice q_fieldAddr q_field q_indexAddr q_index q_extract q_len q_max q_min q_max3
  hget_app hset_app frz_v frz_tup frz_agg frz_sl res_nil res_tmp res_cell one_one one_two
  cells_sl cells_own cells_ptr cells_clo cells_agg st_v st_int st_bool st_string st_slice st_sl st_own st_ptr st_clo
/-- What a list holds at a place. -/
def gt {α : Type} [Inhabited α] (l : List α) (i : Nat) : α := l.getD i default
theorem gt_eq {α : Type} [Inhabited α] (l : List α) (i : Nat) (h : i < l.length) : gt l i = l[i] := by simp [gt, List.getD_eq_getElem?_getD, h]
theorem all_step {P : Nat → Prop} {u : Nat} (h : ∀ i, i < u → P i) (hu : P u) : ∀ i, i < u + 1 → P i := by
  intro i hi
  by_cases h1 : i < u
  · exact h i h1
  · have : i = u := by omega
    subst this; exact hu
theorem gt_set {α : Type} [Inhabited α] (l : List α) (i j : Nat) (x : α) (h : i < l.length) : gt (l.set i x) j = if i = j then x else gt l j := by
  simp only [gt, List.getD_eq_getElem?_getD, List.getElem?_set]
  by_cases hij : i = j
  · subst hij; simp [h]
  · simp [hij]
theorem ext_gt {α : Type} [Inhabited α] {l m : List α} (h : l.length = m.length) (hg : ∀ i, i < l.length → gt l i = gt m i) : l = m := by
  apply List.ext_getElem h
  intro i h1 h2
  rw [← gt_eq l i h1, ← gt_eq m i h2]; exact hg i h1
theorem drop_gt {α : Type} [Inhabited α] (l : List α) (i : Nat) (h : i < l.length) : l.drop i = gt l i :: l.drop (i + 1) := by rw [gt_eq l i h]; exact List.drop_eq_getElem_cons h
section
variable (P : Program)
theorem bin_quo' (t : TypeId) (k : IntKind) (a b : Int) (h : 0 ≤ a) (hb : 0 < b) : binV P .quo t (.v (.int k a)) (.v (.int k b)) = some (.v (.int k (k.wrap (a / b)))) := by
  rw [bin_quo, if_neg (by omega), Int.tdiv_eq_ediv_of_nonneg h]
theorem bin_rem' (t : TypeId) (k : IntKind) (a b : Int) (h : 0 ≤ a) (hb : 0 < b) : binV P .rem t (.v (.int k a)) (.v (.int k b)) = some (.v (.int k (a % b))) := by
  rw [bin_rem, if_neg (by omega), Int.tmod_eq_emod_of_nonneg h]
theorem wr_i64 (n : Int) (h : -9223372036854775808 ≤ n) (h' : n ≤ 9223372036854775807) : IntKind.i64.wrap n = n := wrap_i64 n ⟨h, h'⟩
theorem wr_u64 (n : Int) (h : 0 ≤ n) (h' : n ≤ 18446744073709551615) : IntKind.u64.wrap n = n := wrap_u64 n ⟨h, h'⟩
theorem wr_u8 (n : Int) (h : 0 ≤ n) (h' : n ≤ 255) : IntKind.u8.wrap n = n := wrap_u8 n ⟨h, h'⟩
theorem nat_get {α : Type} [Inhabited α] (f : α → AV) (l : List α) (i : Nat) (h : i < l.length) : (l.map f)[i]? = some (f (gt l i)) := by
  simp [gt, List.getD_eq_getElem?_getD, h]
theorem nat_get1 {α : Type} [Inhabited α] (f : α → AV) (l : List α) (i : Nat) (h : i < l.length) : ((l.map f).drop i).take 1 = [f (gt l i)] := by
  rw [List.take_one, List.head?_drop, nat_get f l i h]; rfl
theorem hget_low (H X : Heap) (b : Nat) (h : b < H.length) : hget (H ++ X) b = hget H b := by simp [hget, List.getElem?_append_left h]
theorem hset_low (H X : Heap) (b : Nat) (x : Option Blk) (h : b < H.length) : hset (H ++ X) b x = hset H b x ++ X := by simp [hset, List.set_append_left _ _ h]
theorem setL_one (l : List AV) (o : Nat) (x : AV) : setL l o [x] = l.set o x := rfl
theorem take1 {α : Type} (a : α) (l : List α) : (a :: l).take 1 = [a] := rfl
theorem toNat_nat (u : Nat) : Int.toNat (u : Int) = u := rfl
theorem toNat_add (u k : Nat) : Int.toNat ((u : Int) + (k : Int)) = u + k := rfl
theorem toNat_succ (u : Nat) : Int.toNat ((u : Int) + 1) = u + 1 := rfl
theorem toNat_zero : Int.toNat 0 = 0 := rfl
theorem toNat_pred (u : Nat) (h : 0 < u) : Int.toNat ((u : Int) - 1) = u - 1 := by omega
theorem toNat_pred2 (u : Nat) (h : 2 ≤ u) : Int.toNat ((u : Int) - 2) = u - 2 := by omega
theorem opt_one {α β : Type} (x : α) (f : α → β) : Option.map f (some x) = some (f x) := rfl
theorem cells_i (k : IntKind) (n : Int) : cellsOf (.v (.int k n)) = some [.v (.int k n)] := rfl
theorem cells_b (b : Bool) : cellsOf (.v (.bool b)) = some [.v (.bool b)] := rfl
theorem cells_n : cellsOf (.v (.slice none 0 0)) = some [.v (.slice none 0 0)] := rfl
end
attribute [go_sem] bin_quo' bin_rem' wr_i64 wr_u64 wr_u8 toNat_nat toNat_succ toNat_zero toNat_pred toNat_pred2 Nat.mul_one Nat.zero_add Nat.add_zero Nat.one_mul opt_one cells_i cells_b cells_n take1 Option.bind_some Bool.not_true Bool.not_false nat_get nat_get1 hget_low hset_low setL_one List.set_cons_zero List.set_cons_succ List.getElem?_cons_zero List.getElem?_cons_succ List.length_map List.all_cons List.all_nil Bool.and_true Bool.and_self List.map_cons List.map_nil List.drop_zero List.length_cons List.length_nil
end Go.Am
namespace Go.Am
open Go
/-! ### The steps with their side goals filled in -/
section
variable {S : Sig} {lim : Nat} {ops : Array Oper} {l : List Oper} {e : Env} {H : Heap} {d : Option Tmp} {op : Op} {ty : TypeId} {pos : String} {af : Array Edge}
theorem Rq {K : Env → Heap → Prop} {r : AV} (hk : Rp S lim ops l (e.put d r) H K) (hq : isQ op = true := by rfl)
    (h : qV S.P H op e = some r := by simp (disch := first | omega | (simp only [List.length_map, List.length_append, List.length_set, List.length_cons, List.length_nil, List.length_take, List.length_drop]; omega)) only [go_sem, ↓reduceIte, Nat.reduceEqDiff, reduceCtorEq] <;> rfl) :
    Rp S lim ops (⟨d, op, ty, pos, af, none⟩ :: l) e H K := R_q hq h hk
theorem Qq {K : Env → Prop} {r : AV} (hk : Qp S ops l (e.put d r) H K) (hq : isQ op = true := by rfl)
    (h : qV S.P H op e = some r := by simp (disch := first | omega | (simp only [List.length_map, List.length_append, List.length_set, List.length_cons, List.length_nil, List.length_take, List.length_drop]; omega)) only [go_sem, ↓reduceIte, Nat.reduceEqDiff, reduceCtorEq] <;> rfl) :
    Qp S ops (⟨d, op, ty, pos, af, none⟩ :: l) e H K := Q_q hq h hk
theorem Lq {R R' : List Nat} {K : Env → List Nat → Prop} {r : AV} (hk : Lp S ops H K l (e.put d r) R') (hq : isQ op = true := by rfl)
    (h : qV S.P H op e = some r := by simp (disch := first | omega | (simp only [List.length_map, List.length_append, List.length_set, List.length_cons, List.length_nil, List.length_take, List.length_drop]; omega)) only [go_sem, ↓reduceIte, Nat.reduceEqDiff, reduceCtorEq] <;> rfl) (hr : rdV op e ++ R = R' := by rfl) :
    Lp S ops H K (⟨d, op, ty, pos, af, none⟩ :: l) e R := L_q hq h hr hk
theorem Ly {R : List Nat} {K : Env → List Nat → Prop} {j t : Nat} {want : Bool} (hy : Lp S ops H K (⟨d, op, ty, pos, af, none⟩ :: l) e R) (hj : (ops[j]?).bind (·.dst) = some t := by rfl)
    (hb : e.get t = .v (.bool want) := by simp only [go_sem, ↓reduceIte, Nat.reduceEqDiff]) : Lp S ops H K (⟨d, op, ty, pos, af, some (j, want)⟩ :: l) e R := L_yes hj hb rfl hy
theorem Ln {R : List Nat} {K : Env → List Nat → Prop} {j t : Nat} {want : Bool} (hy : Lp S ops H K l (e.put d (.v undef)) R) (hj : (ops[j]?).bind (·.dst) = some t := by rfl)
    (hb : e.get t = .v (.bool (!want)) := by simp only [go_sem, ↓reduceIte, Nat.reduceEqDiff, Bool.not_true, Bool.not_false]) : Lp S ops H K (⟨d, op, ty, pos, af, some (j, want)⟩ :: l) e R := L_no hj hb rfl hy
theorem Lu {R : List Nat} {K : Env → List Nat → Prop} {j t : Nat} {want : Bool} (hy : Lp S ops H K l (e.put d (.v undef)) R) (hj : (ops[j]?).bind (·.dst) = some t := by rfl)
    (hb : e.get t = .v undef := by simp only [go_sem, ↓reduceIte, Nat.reduceEqDiff]) : Lp S ops H K (⟨d, op, ty, pos, af, some (j, want)⟩ :: l) e R := L_un hj hb hy
theorem Ms {R : List Nat} {K : Env → Heap → Prop} {o : Oper} {l : List Oper} (h : Rp S lim ops [o] e H fun e' H' => Mp S lim ops R K l e' H') (hc : wrC R o e = true := by rfl) : Mp S lim ops R K (o :: l) e H := M_step hc h
theorem Ry {K : Env → Heap → Prop} {j t : Nat} {want : Bool} (hy : Rp S lim ops (⟨d, op, ty, pos, af, none⟩ :: l) e H K) (hj : (ops[j]?).bind (·.dst) = some t := by rfl)
    (hb : e.get t = .v (.bool want) := by simp only [go_sem, ↓reduceIte, Nat.reduceEqDiff]) : Rp S lim ops (⟨d, op, ty, pos, af, some (j, want)⟩ :: l) e H K := R_yes hj hb rfl hy
theorem Rn {K : Env → Heap → Prop} {j t : Nat} {want : Bool} (hy : Rp S lim ops l (e.put d (.v undef)) H K) (hj : (ops[j]?).bind (·.dst) = some t := by rfl)
    (hb : e.get t = .v (.bool (!want)) := by simp only [go_sem, ↓reduceIte, Nat.reduceEqDiff, Bool.not_true, Bool.not_false]) : Rp S lim ops (⟨d, op, ty, pos, af, some (j, want)⟩ :: l) e H K := R_no hj hb rfl hy
theorem Ru {K : Env → Heap → Prop} {j t : Nat} {want : Bool} (hy : Rp S lim ops l (e.put d (.v undef)) H K) (hj : (ops[j]?).bind (·.dst) = some t := by rfl)
    (hb : e.get t = .v undef := by simp only [go_sem, ↓reduceIte, Nat.reduceEqDiff]) : Rp S lim ops (⟨d, op, ty, pos, af, some (j, want)⟩ :: l) e H K := R_un hj hb hy
theorem Qy {K : Env → Prop} {j t : Nat} {want : Bool} (hy : Qp S ops (⟨d, op, ty, pos, af, none⟩ :: l) e H K) (hj : (ops[j]?).bind (·.dst) = some t := by rfl)
    (hb : e.get t = .v (.bool want) := by simp only [go_sem, ↓reduceIte, Nat.reduceEqDiff]) : Qp S ops (⟨d, op, ty, pos, af, some (j, want)⟩ :: l) e H K := Q_yes hj hb rfl hy
theorem Qn {K : Env → Prop} {j t : Nat} {want : Bool} (hy : Qp S ops l (e.put d (.v undef)) H K) (hj : (ops[j]?).bind (·.dst) = some t := by rfl)
    (hb : e.get t = .v (.bool (!want)) := by simp only [go_sem, ↓reduceIte, Nat.reduceEqDiff, Bool.not_true, Bool.not_false]) : Qp S ops (⟨d, op, ty, pos, af, some (j, want)⟩ :: l) e H K := Q_no hj hb rfl hy
theorem Qu {K : Env → Prop} {j t : Nat} {want : Bool} (hy : Qp S ops l (e.put d (.v undef)) H K) (hj : (ops[j]?).bind (·.dst) = some t := by rfl)
    (hb : e.get t = .v undef := by simp only [go_sem, ↓reduceIte, Nat.reduceEqDiff]) : Qp S ops (⟨d, op, ty, pos, af, some (j, want)⟩ :: l) e H K := Q_un hj hb hy
theorem Rcall {K : Env → Heap → Prop} {f : FuncId} {args : Array Operand} {ts : Array TypeId} {vs : List AV} (hk : ACall S lim f vs H fun x H' => Rp S lim ops l (e.put d x) H' K)
    (h : args.toList.map (evO e) = vs := by simp only [List.map_cons, List.map_nil, go_sem, ↓reduceIte, Nat.reduceEqDiff]; rfl) :
    Rp S lim ops (⟨d, .call ⟨.value (.func f), args, ts⟩, ty, pos, af, none⟩ :: l) e H K := R_call h hk
theorem Qcall {K : Env → Prop} {f : FuncId} {args : Array Operand} {ts : Array TypeId} {vs : List AV} (hk : ACall S H.length f vs H fun x _ => exacts x = true ∧ Qp S ops l (e.put d x) H K) (hp : S.own f = false := by rfl)
    (h : args.toList.map (evO e) = vs := by simp only [List.map_cons, List.map_nil, go_sem, ↓reduceIte, Nat.reduceEqDiff]; rfl) :
    Qp S ops (⟨d, .call ⟨.value (.func f), args, ts⟩, ty, pos, af, none⟩ :: l) e H K := Q_call hp h hk
variable {dr : List (Nat × Draw)} {loc : Env} {Q : Ex → St → Prop} {c : Code} {p : List Nat}
theorem cdd {o : Operand} {t : Bool} (h1 : t = true → W S lim dr (at' c (0 :: p)) ⟨loc, H⟩ Q) (h2 : t = false → W S lim dr (at' c (1 :: p)) ⟨loc, H⟩ Q) (h : at' c p = .cond o (at' c (0 :: p)) (at' c (1 :: p)) := by rfl)
    (hc : evO loc o = .v (.bool t) := by simp only [go_sem, ↓reduceIte, Nat.reduceEqDiff]; rfl) : W S lim dr (at' c p) ⟨loc, H⟩ Q := cd h hc h1 h2
theorem cdt {o : Operand} (h1 : W S lim dr (at' c (0 :: p)) ⟨loc, H⟩ Q) (h : at' c p = .cond o (at' c (0 :: p)) (at' c (1 :: p)) := by rfl) (hc : evO loc o = .v (.bool true) := by simp only [go_sem, ↓reduceIte, Nat.reduceEqDiff]) : W S lim dr (at' c p) ⟨loc, H⟩ Q := cd_t h hc h1
theorem cdf {o : Operand} (h1 : W S lim dr (at' c (1 :: p)) ⟨loc, H⟩ Q) (h : at' c p = .cond o (at' c (0 :: p)) (at' c (1 :: p)) := by rfl) (hc : evO loc o = .v (.bool false) := by simp only [go_sem, ↓reduceIte, Nat.reduceEqDiff]) : W S lim dr (at' c p) ⟨loc, H⟩ Q := cd_f h hc h1
theorem bin_prem {t : Bool} {p : Prop} (h : t = true) (h' : (t = true) = p) : p := h' ▸ h
theorem fpure {fa : FnA} {H0 : Heap} {K : AV → Heap → Prop} {s : St} {l : List AV} {v : AV} (hk : K v H0) (hl : resAll S.P s.loc s.H fa.fn.results.toList = some l := by simp only [go_sem, ↓reduceIte, Nat.reduceEqDiff]; rfl)
    (hv : frz s.H H0.length 8 (oneOr l) = v := by simp only [go_sem, ↓reduceIte, Nat.reduceEqDiff]; rfl) : retP S false fa H0 K .ret s := fin_pure rfl hl hv hk
end
end Go.Am
end
section
namespace Go.Proofs.Ytdicnojnkbmdlaa
open Go Go.Am

theorem sigP : sig.P = Try.prog := rfl
theorem ldp1 (H : Heap) (b o : Nat) : loadV Try.prog H 1 (.ptr b o) = (hget H b).bind fun k => k[o]? := by rw [load_ptr _ H 1 _ ty1 b o]; rfl
theorem lde1 (H : Heap) (l : List AV) (o : Nat) : loadV Try.prog H 1 (.ele l o) = l[o]? := by rw [load_ele _ H 1 _ ty1 l o]; rfl
theorem zr1 : (tyOf Try.prog 1).bind (fun ty => ty.zero) = some [.nilFunc] := by rw [ty1]; rfl
theorem ldp2 (H : Heap) (b o : Nat) : loadV Try.prog H 2 (.ptr b o) = (hget H b).bind fun k => k[o]? := by rw [load_ptr _ H 2 _ ty2 b o]; rfl
theorem lde2 (H : Heap) (l : List AV) (o : Nat) : loadV Try.prog H 2 (.ele l o) = l[o]? := by rw [load_ele _ H 2 _ ty2 l o]; rfl
theorem zr2 : (tyOf Try.prog 2).bind (fun ty => ty.zero) = some [.int .i64 0] := by rw [ty2]; rfl
theorem ldp3 (H : Heap) (b o : Nat) : loadV Try.prog H 3 (.ptr b o) = (hget H b).bind fun k => k[o]? := by rw [load_ptr _ H 3 _ ty3 b o]; rfl
theorem lde3 (H : Heap) (l : List AV) (o : Nat) : loadV Try.prog H 3 (.ele l o) = l[o]? := by rw [load_ele _ H 3 _ ty3 l o]; rfl
theorem zr3 : (tyOf Try.prog 3).bind (fun ty => ty.zero) = some [.int .i64 0] := by rw [ty3]; rfl
theorem ldp4 (H : Heap) (b o : Nat) : loadV Try.prog H 4 (.ptr b o) = (hget H b).bind fun k => k[o]? := by rw [load_ptr _ H 4 _ ty4 b o]; rfl
theorem lde4 (H : Heap) (l : List AV) (o : Nat) : loadV Try.prog H 4 (.ele l o) = l[o]? := by rw [load_ele _ H 4 _ ty4 l o]; rfl
theorem zr4 : (tyOf Try.prog 4).bind (fun ty => ty.zero) = some [.bool false] := by rw [ty4]; rfl
theorem beq4 (a b : Bool) : binV Try.prog .eql 4 (.v (.bool a)) (.v (.bool b)) = some (.v (.bool (a == b))) := by simp only [binV, tk4]
theorem bne4 (a b : Bool) : binV Try.prog .neq 4 (.v (.bool a)) (.v (.bool b)) = some (.v (.bool (!(a == b)))) := by simp only [binV, tk4]
theorem ldp5 (H : Heap) (b o : Nat) : loadV Try.prog H 5 (.ptr b o) = (hget H b).bind fun k => k[o]? := by rw [load_ptr _ H 5 _ ty5 b o]; rfl
theorem lde5 (H : Heap) (l : List AV) (o : Nat) : loadV Try.prog H 5 (.ele l o) = l[o]? := by rw [load_ele _ H 5 _ ty5 l o]; rfl
theorem zr5 : (tyOf Try.prog 5).bind (fun ty => ty.zero) = some [.int .u8 0] := by rw [ty5]; rfl
theorem ldp9 (H : Heap) (b o : Nat) : loadV Try.prog H 9 (.ptr b o) = (hget H b).bind fun k => k[o]? := by rw [load_ptr _ H 9 _ ty9 b o]; rfl
theorem lde9 (H : Heap) (l : List AV) (o : Nat) : loadV Try.prog H 9 (.ele l o) = l[o]? := by rw [load_ele _ H 9 _ ty9 l o]; rfl
theorem zr9 : (tyOf Try.prog 9).bind (fun ty => ty.zero) = some [.string ⟨#[]⟩] := by rw [ty9]; rfl
theorem lnt9 (s : ByteArray) : lenV (tyOf Try.prog 9) (.v (.string s)) = some (.v (.int .i64 s.size)) := by rw [ty9]; exact len_str _ _ rfl
theorem ldp22 (H : Heap) (b o : Nat) : loadV Try.prog H 22 (.ptr b o) = (hget H b).bind fun k => k[o]? := by rw [load_ptr _ H 22 _ ty22 b o]; rfl
theorem lde22 (H : Heap) (l : List AV) (o : Nat) : loadV Try.prog H 22 (.ele l o) = l[o]? := by rw [load_ele _ H 22 _ ty22 l o]; rfl
theorem zr22 : (tyOf Try.prog 22).bind (fun ty => ty.zero) = some [.slice none 0 0] := by rw [ty22]; rfl
theorem ias22 (n : Nat) (l : List AV) (k : IntKind) (i : Int) (h0 : 0 ≤ i) (h1 : i < n) : indexAddrV Try.prog 22 (.sl n l) (.v (.int k i)) = some (.ele l (i.toNat * 3)) := by rw [ia_sl _ 22 66 _ tk22 ty66, if_pos ⟨h0, h1⟩]
theorem iao22 (z b o n : Nat) (k : IntKind) (i : Int) (h0 : 0 ≤ i) (h1 : i < n) : indexAddrV Try.prog 22 (.own z b o n) (.v (.int k i)) = some (.ptr b (o + i.toNat * 3)) := by rw [ia_own _ 22 66 _ tk22 ty66, if_pos ⟨h0, h1⟩]
theorem lns22 (n : Nat) (l : List AV) : lenV (tyOf Try.prog 22) (.sl n l) = some (.v (.int .i64 n)) := by rw [ty22]; exact len_sl _ 66 _ _ rfl
theorem lno22 (z b o n : Nat) : lenV (tyOf Try.prog 22) (.own z b o n) = some (.v (.int .i64 n)) := by rw [ty22]; exact len_own _ 66 _ _ _ _ rfl
theorem lnn22 (n : Nat) : lenV (tyOf Try.prog 22) (.v (.slice none n 0)) = some (.v (.int .i64 n)) := by rw [ty22]; exact len_nil _ 66 _ rfl
theorem ldp24 (H : Heap) (b o : Nat) : loadV Try.prog H 24 (.ptr b o) = (hget H b).bind fun k => partL { size := 4, bytes := 48, agg := true, k := .struct [(0, 3), (1, 3), (2, 3), (3, 22)], zero := some [.int .i64 0, .int .i64 0, .int .i64 0, .slice none 0 0] } k o := load_ptr _ H 24 _ ty24 b o
theorem lde24 (H : Heap) (l : List AV) (o : Nat) : loadV Try.prog H 24 (.ele l o) = partL { size := 4, bytes := 48, agg := true, k := .struct [(0, 3), (1, 3), (2, 3), (3, 22)], zero := some [.int .i64 0, .int .i64 0, .int .i64 0, .slice none 0 0] } l o := load_ele _ H 24 _ ty24 l o
theorem pl24 (l : List AV) (o : Nat) (h : o + 4 ≤ l.length) : partL { size := 4, bytes := 48, agg := true, k := .struct [(0, 3), (1, 3), (2, 3), (3, 22)], zero := some [.int .i64 0, .int .i64 0, .int .i64 0, .slice none 0 0] } l o = some (.agg ((l.drop o).take 4)) := by rw [partL_agg _ _ _ rfl, if_pos h]
theorem zr24 : (tyOf Try.prog 24).bind (fun ty => ty.zero) = some [.int .i64 0, .int .i64 0, .int .i64 0, .slice none 0 0] := by rw [ty24]; rfl
theorem fap24_0 (b o : Nat) : fieldAddrV Try.prog 24 (.ptr b o) 0 = some (.ptr b (o)) := fa_ptr _ 24 _ tk24 b o 0 0 3 _ rfl ty3 (by decide)
theorem fae24_0 (l : List AV) (o : Nat) : fieldAddrV Try.prog 24 (.ele l o) 0 = some (.ele l (o)) := fa_ele _ 24 _ tk24 l o 0 0 3 _ rfl ty3 (by decide)
theorem fd24_0 (l : List AV) : fieldV Try.prog 24 (.agg l) 0 = l[0]? := by rw [fd_agg _ 24 _ tk24 l 0 0 3 _ rfl ty3]; rfl
theorem fap24_1 (b o : Nat) : fieldAddrV Try.prog 24 (.ptr b o) 1 = some (.ptr b (o + 1)) := fa_ptr _ 24 _ tk24 b o 1 1 3 _ rfl ty3 (by decide)
theorem fae24_1 (l : List AV) (o : Nat) : fieldAddrV Try.prog 24 (.ele l o) 1 = some (.ele l (o + 1)) := fa_ele _ 24 _ tk24 l o 1 1 3 _ rfl ty3 (by decide)
theorem fd24_1 (l : List AV) : fieldV Try.prog 24 (.agg l) 1 = l[1]? := by rw [fd_agg _ 24 _ tk24 l 1 1 3 _ rfl ty3]; rfl
theorem fap24_2 (b o : Nat) : fieldAddrV Try.prog 24 (.ptr b o) 2 = some (.ptr b (o + 2)) := fa_ptr _ 24 _ tk24 b o 2 2 3 _ rfl ty3 (by decide)
theorem fae24_2 (l : List AV) (o : Nat) : fieldAddrV Try.prog 24 (.ele l o) 2 = some (.ele l (o + 2)) := fa_ele _ 24 _ tk24 l o 2 2 3 _ rfl ty3 (by decide)
theorem fd24_2 (l : List AV) : fieldV Try.prog 24 (.agg l) 2 = l[2]? := by rw [fd_agg _ 24 _ tk24 l 2 2 3 _ rfl ty3]; rfl
theorem fap24_3 (b o : Nat) : fieldAddrV Try.prog 24 (.ptr b o) 3 = some (.ptr b (o + 3)) := fa_ptr _ 24 _ tk24 b o 3 3 22 _ rfl ty22 (by decide)
theorem fae24_3 (l : List AV) (o : Nat) : fieldAddrV Try.prog 24 (.ele l o) 3 = some (.ele l (o + 3)) := fa_ele _ 24 _ tk24 l o 3 3 22 _ rfl ty22 (by decide)
theorem fd24_3 (l : List AV) : fieldV Try.prog 24 (.agg l) 3 = l[3]? := by rw [fd_agg _ 24 _ tk24 l 3 3 22 _ rfl ty22]; rfl
theorem ldp27 (H : Heap) (b o : Nat) : loadV Try.prog H 27 (.ptr b o) = (hget H b).bind fun k => k[o]? := by rw [load_ptr _ H 27 _ ty27 b o]; rfl
theorem lde27 (H : Heap) (l : List AV) (o : Nat) : loadV Try.prog H 27 (.ele l o) = l[o]? := by rw [load_ele _ H 27 _ ty27 l o]; rfl
theorem zr27 : (tyOf Try.prog 27).bind (fun ty => ty.zero) = some [.slice none 0 0] := by rw [ty27]; rfl
theorem ias27 (n : Nat) (l : List AV) (k : IntKind) (i : Int) (h0 : 0 ≤ i) (h1 : i < n) : indexAddrV Try.prog 27 (.sl n l) (.v (.int k i)) = some (.ele l (i.toNat)) := by rw [ia_sl _ 27 2 _ tk27 ty2, if_pos ⟨h0, h1⟩]; rw [Nat.mul_one]
theorem iao27 (z b o n : Nat) (k : IntKind) (i : Int) (h0 : 0 ≤ i) (h1 : i < n) : indexAddrV Try.prog 27 (.own z b o n) (.v (.int k i)) = some (.ptr b (o + i.toNat)) := by rw [ia_own _ 27 2 _ tk27 ty2, if_pos ⟨h0, h1⟩]; rw [Nat.mul_one]
theorem lns27 (n : Nat) (l : List AV) : lenV (tyOf Try.prog 27) (.sl n l) = some (.v (.int .i64 n)) := by rw [ty27]; exact len_sl _ 2 _ _ rfl
theorem lno27 (z b o n : Nat) : lenV (tyOf Try.prog 27) (.own z b o n) = some (.v (.int .i64 n)) := by rw [ty27]; exact len_own _ 2 _ _ _ _ rfl
theorem lnn27 (n : Nat) : lenV (tyOf Try.prog 27) (.v (.slice none n 0)) = some (.v (.int .i64 n)) := by rw [ty27]; exact len_nil _ 2 _ rfl
theorem ldp28 (H : Heap) (b o : Nat) : loadV Try.prog H 28 (.ptr b o) = (hget H b).bind fun k => k[o]? := by rw [load_ptr _ H 28 _ ty28 b o]; rfl
theorem lde28 (H : Heap) (l : List AV) (o : Nat) : loadV Try.prog H 28 (.ele l o) = l[o]? := by rw [load_ele _ H 28 _ ty28 l o]; rfl
theorem zr28 : (tyOf Try.prog 28).bind (fun ty => ty.zero) = some [.slice none 0 0] := by rw [ty28]; rfl
theorem ias28 (n : Nat) (l : List AV) (k : IntKind) (i : Int) (h0 : 0 ≤ i) (h1 : i < n) : indexAddrV Try.prog 28 (.sl n l) (.v (.int k i)) = some (.ele l (i.toNat)) := by rw [ia_sl _ 28 4 _ tk28 ty4, if_pos ⟨h0, h1⟩]; rw [Nat.mul_one]
theorem iao28 (z b o n : Nat) (k : IntKind) (i : Int) (h0 : 0 ≤ i) (h1 : i < n) : indexAddrV Try.prog 28 (.own z b o n) (.v (.int k i)) = some (.ptr b (o + i.toNat)) := by rw [ia_own _ 28 4 _ tk28 ty4, if_pos ⟨h0, h1⟩]; rw [Nat.mul_one]
theorem lns28 (n : Nat) (l : List AV) : lenV (tyOf Try.prog 28) (.sl n l) = some (.v (.int .i64 n)) := by rw [ty28]; exact len_sl _ 4 _ _ rfl
theorem lno28 (z b o n : Nat) : lenV (tyOf Try.prog 28) (.own z b o n) = some (.v (.int .i64 n)) := by rw [ty28]; exact len_own _ 4 _ _ _ _ rfl
theorem lnn28 (n : Nat) : lenV (tyOf Try.prog 28) (.v (.slice none n 0)) = some (.v (.int .i64 n)) := by rw [ty28]; exact len_nil _ 4 _ rfl
theorem ldp29 (H : Heap) (b o : Nat) : loadV Try.prog H 29 (.ptr b o) = (hget H b).bind fun k => k[o]? := by rw [load_ptr _ H 29 _ ty29 b o]; rfl
theorem lde29 (H : Heap) (l : List AV) (o : Nat) : loadV Try.prog H 29 (.ele l o) = l[o]? := by rw [load_ele _ H 29 _ ty29 l o]; rfl
theorem zr29 : (tyOf Try.prog 29).bind (fun ty => ty.zero) = some [.int .i64 0] := by rw [ty29]; rfl
theorem ldp40 (H : Heap) (b o : Nat) : loadV Try.prog H 40 (.ptr b o) = (hget H b).bind fun k => k[o]? := by rw [load_ptr _ H 40 _ ty40 b o]; rfl
theorem lde40 (H : Heap) (l : List AV) (o : Nat) : loadV Try.prog H 40 (.ele l o) = l[o]? := by rw [load_ele _ H 40 _ ty40 l o]; rfl
theorem zr40 : (tyOf Try.prog 40).bind (fun ty => ty.zero) = some [.slice none 0 0] := by rw [ty40]; rfl
theorem ias40 (n : Nat) (l : List AV) (k : IntKind) (i : Int) (h0 : 0 ≤ i) (h1 : i < n) : indexAddrV Try.prog 40 (.sl n l) (.v (.int k i)) = some (.ele l (i.toNat)) := by rw [ia_sl _ 40 3 _ tk40 ty3, if_pos ⟨h0, h1⟩]; rw [Nat.mul_one]
theorem iao40 (z b o n : Nat) (k : IntKind) (i : Int) (h0 : 0 ≤ i) (h1 : i < n) : indexAddrV Try.prog 40 (.own z b o n) (.v (.int k i)) = some (.ptr b (o + i.toNat)) := by rw [ia_own _ 40 3 _ tk40 ty3, if_pos ⟨h0, h1⟩]; rw [Nat.mul_one]
theorem lns40 (n : Nat) (l : List AV) : lenV (tyOf Try.prog 40) (.sl n l) = some (.v (.int .i64 n)) := by rw [ty40]; exact len_sl _ 3 _ _ rfl
theorem lno40 (z b o n : Nat) : lenV (tyOf Try.prog 40) (.own z b o n) = some (.v (.int .i64 n)) := by rw [ty40]; exact len_own _ 3 _ _ _ _ rfl
theorem lnn40 (n : Nat) : lenV (tyOf Try.prog 40) (.v (.slice none n 0)) = some (.v (.int .i64 n)) := by rw [ty40]; exact len_nil _ 3 _ rfl
theorem ldp41 (H : Heap) (b o : Nat) : loadV Try.prog H 41 (.ptr b o) = (hget H b).bind fun k => k[o]? := by rw [load_ptr _ H 41 _ ty41 b o]; rfl
theorem lde41 (H : Heap) (l : List AV) (o : Nat) : loadV Try.prog H 41 (.ele l o) = l[o]? := by rw [load_ele _ H 41 _ ty41 l o]; rfl
theorem zr41 : (tyOf Try.prog 41).bind (fun ty => ty.zero) = some [.slice none 0 0] := by rw [ty41]; rfl
theorem ias41 (n : Nat) (l : List AV) (k : IntKind) (i : Int) (h0 : 0 ≤ i) (h1 : i < n) : indexAddrV Try.prog 41 (.sl n l) (.v (.int k i)) = some (.ele l (i.toNat * 2)) := by rw [ia_sl _ 41 58 _ tk41 ty58, if_pos ⟨h0, h1⟩]
theorem iao41 (z b o n : Nat) (k : IntKind) (i : Int) (h0 : 0 ≤ i) (h1 : i < n) : indexAddrV Try.prog 41 (.own z b o n) (.v (.int k i)) = some (.ptr b (o + i.toNat * 2)) := by rw [ia_own _ 41 58 _ tk41 ty58, if_pos ⟨h0, h1⟩]
theorem lns41 (n : Nat) (l : List AV) : lenV (tyOf Try.prog 41) (.sl n l) = some (.v (.int .i64 n)) := by rw [ty41]; exact len_sl _ 58 _ _ rfl
theorem lno41 (z b o n : Nat) : lenV (tyOf Try.prog 41) (.own z b o n) = some (.v (.int .i64 n)) := by rw [ty41]; exact len_own _ 58 _ _ _ _ rfl
theorem lnn41 (n : Nat) : lenV (tyOf Try.prog 41) (.v (.slice none n 0)) = some (.v (.int .i64 n)) := by rw [ty41]; exact len_nil _ 58 _ rfl
theorem ldp43 (H : Heap) (b o : Nat) : loadV Try.prog H 43 (.ptr b o) = (hget H b).bind fun k => partL { size := 2, bytes := 48, agg := true, k := .struct [(0, 40), (1, 41)], zero := some [.slice none 0 0, .slice none 0 0] } k o := load_ptr _ H 43 _ ty43 b o
theorem lde43 (H : Heap) (l : List AV) (o : Nat) : loadV Try.prog H 43 (.ele l o) = partL { size := 2, bytes := 48, agg := true, k := .struct [(0, 40), (1, 41)], zero := some [.slice none 0 0, .slice none 0 0] } l o := load_ele _ H 43 _ ty43 l o
theorem pl43 (l : List AV) (o : Nat) (h : o + 2 ≤ l.length) : partL { size := 2, bytes := 48, agg := true, k := .struct [(0, 40), (1, 41)], zero := some [.slice none 0 0, .slice none 0 0] } l o = some (.agg ((l.drop o).take 2)) := by rw [partL_agg _ _ _ rfl, if_pos h]
theorem zr43 : (tyOf Try.prog 43).bind (fun ty => ty.zero) = some [.slice none 0 0, .slice none 0 0] := by rw [ty43]; rfl
theorem fap43_0 (b o : Nat) : fieldAddrV Try.prog 43 (.ptr b o) 0 = some (.ptr b (o)) := fa_ptr _ 43 _ tk43 b o 0 0 40 _ rfl ty40 (by decide)
theorem fae43_0 (l : List AV) (o : Nat) : fieldAddrV Try.prog 43 (.ele l o) 0 = some (.ele l (o)) := fa_ele _ 43 _ tk43 l o 0 0 40 _ rfl ty40 (by decide)
theorem fd43_0 (l : List AV) : fieldV Try.prog 43 (.agg l) 0 = l[0]? := by rw [fd_agg _ 43 _ tk43 l 0 0 40 _ rfl ty40]; rfl
theorem fap43_1 (b o : Nat) : fieldAddrV Try.prog 43 (.ptr b o) 1 = some (.ptr b (o + 1)) := fa_ptr _ 43 _ tk43 b o 1 1 41 _ rfl ty41 (by decide)
theorem fae43_1 (l : List AV) (o : Nat) : fieldAddrV Try.prog 43 (.ele l o) 1 = some (.ele l (o + 1)) := fa_ele _ 43 _ tk43 l o 1 1 41 _ rfl ty41 (by decide)
theorem fd43_1 (l : List AV) : fieldV Try.prog 43 (.agg l) 1 = l[1]? := by rw [fd_agg _ 43 _ tk43 l 1 1 41 _ rfl ty41]; rfl
theorem ldp46 (H : Heap) (b o : Nat) : loadV Try.prog H 46 (.ptr b o) = (hget H b).bind fun k => partL { size := 3, bytes := 56, agg := true, k := .struct [(0, 4), (1, 40), (2, 40)], zero := some [.bool false, .slice none 0 0, .slice none 0 0] } k o := load_ptr _ H 46 _ ty46 b o
theorem lde46 (H : Heap) (l : List AV) (o : Nat) : loadV Try.prog H 46 (.ele l o) = partL { size := 3, bytes := 56, agg := true, k := .struct [(0, 4), (1, 40), (2, 40)], zero := some [.bool false, .slice none 0 0, .slice none 0 0] } l o := load_ele _ H 46 _ ty46 l o
theorem pl46 (l : List AV) (o : Nat) (h : o + 3 ≤ l.length) : partL { size := 3, bytes := 56, agg := true, k := .struct [(0, 4), (1, 40), (2, 40)], zero := some [.bool false, .slice none 0 0, .slice none 0 0] } l o = some (.agg ((l.drop o).take 3)) := by rw [partL_agg _ _ _ rfl, if_pos h]
theorem zr46 : (tyOf Try.prog 46).bind (fun ty => ty.zero) = some [.bool false, .slice none 0 0, .slice none 0 0] := by rw [ty46]; rfl
theorem fap46_0 (b o : Nat) : fieldAddrV Try.prog 46 (.ptr b o) 0 = some (.ptr b (o)) := fa_ptr _ 46 _ tk46 b o 0 0 4 _ rfl ty4 (by decide)
theorem fae46_0 (l : List AV) (o : Nat) : fieldAddrV Try.prog 46 (.ele l o) 0 = some (.ele l (o)) := fa_ele _ 46 _ tk46 l o 0 0 4 _ rfl ty4 (by decide)
theorem fd46_0 (l : List AV) : fieldV Try.prog 46 (.agg l) 0 = l[0]? := by rw [fd_agg _ 46 _ tk46 l 0 0 4 _ rfl ty4]; rfl
theorem fap46_1 (b o : Nat) : fieldAddrV Try.prog 46 (.ptr b o) 1 = some (.ptr b (o + 1)) := fa_ptr _ 46 _ tk46 b o 1 1 40 _ rfl ty40 (by decide)
theorem fae46_1 (l : List AV) (o : Nat) : fieldAddrV Try.prog 46 (.ele l o) 1 = some (.ele l (o + 1)) := fa_ele _ 46 _ tk46 l o 1 1 40 _ rfl ty40 (by decide)
theorem fd46_1 (l : List AV) : fieldV Try.prog 46 (.agg l) 1 = l[1]? := by rw [fd_agg _ 46 _ tk46 l 1 1 40 _ rfl ty40]; rfl
theorem fap46_2 (b o : Nat) : fieldAddrV Try.prog 46 (.ptr b o) 2 = some (.ptr b (o + 2)) := fa_ptr _ 46 _ tk46 b o 2 2 40 _ rfl ty40 (by decide)
theorem fae46_2 (l : List AV) (o : Nat) : fieldAddrV Try.prog 46 (.ele l o) 2 = some (.ele l (o + 2)) := fa_ele _ 46 _ tk46 l o 2 2 40 _ rfl ty40 (by decide)
theorem fd46_2 (l : List AV) : fieldV Try.prog 46 (.agg l) 2 = l[2]? := by rw [fd_agg _ 46 _ tk46 l 2 2 40 _ rfl ty40]; rfl
theorem ldp58 (H : Heap) (b o : Nat) : loadV Try.prog H 58 (.ptr b o) = (hget H b).bind fun k => partL { size := 2, bytes := 16, agg := true, k := .array 2 3, zero := some [.int .i64 0, .int .i64 0] } k o := load_ptr _ H 58 _ ty58 b o
theorem lde58 (H : Heap) (l : List AV) (o : Nat) : loadV Try.prog H 58 (.ele l o) = partL { size := 2, bytes := 16, agg := true, k := .array 2 3, zero := some [.int .i64 0, .int .i64 0] } l o := load_ele _ H 58 _ ty58 l o
theorem pl58 (l : List AV) (o : Nat) (h : o + 2 ≤ l.length) : partL { size := 2, bytes := 16, agg := true, k := .array 2 3, zero := some [.int .i64 0, .int .i64 0] } l o = some (.agg ((l.drop o).take 2)) := by rw [partL_agg _ _ _ rfl, if_pos h]
theorem zr58 : (tyOf Try.prog 58).bind (fun ty => ty.zero) = some [.int .i64 0, .int .i64 0] := by rw [ty58]; rfl
theorem ldp66 (H : Heap) (b o : Nat) : loadV Try.prog H 66 (.ptr b o) = (hget H b).bind fun k => partL { size := 3, bytes := 24, agg := true, k := .struct [(0, 3), (1, 3), (2, 2)], zero := some [.int .i64 0, .int .i64 0, .int .i64 0] } k o := load_ptr _ H 66 _ ty66 b o
theorem lde66 (H : Heap) (l : List AV) (o : Nat) : loadV Try.prog H 66 (.ele l o) = partL { size := 3, bytes := 24, agg := true, k := .struct [(0, 3), (1, 3), (2, 2)], zero := some [.int .i64 0, .int .i64 0, .int .i64 0] } l o := load_ele _ H 66 _ ty66 l o
theorem pl66 (l : List AV) (o : Nat) (h : o + 3 ≤ l.length) : partL { size := 3, bytes := 24, agg := true, k := .struct [(0, 3), (1, 3), (2, 2)], zero := some [.int .i64 0, .int .i64 0, .int .i64 0] } l o = some (.agg ((l.drop o).take 3)) := by rw [partL_agg _ _ _ rfl, if_pos h]
theorem zr66 : (tyOf Try.prog 66).bind (fun ty => ty.zero) = some [.int .i64 0, .int .i64 0, .int .i64 0] := by rw [ty66]; rfl
theorem fap66_0 (b o : Nat) : fieldAddrV Try.prog 66 (.ptr b o) 0 = some (.ptr b (o)) := fa_ptr _ 66 _ tk66 b o 0 0 3 _ rfl ty3 (by decide)
theorem fae66_0 (l : List AV) (o : Nat) : fieldAddrV Try.prog 66 (.ele l o) 0 = some (.ele l (o)) := fa_ele _ 66 _ tk66 l o 0 0 3 _ rfl ty3 (by decide)
theorem fd66_0 (l : List AV) : fieldV Try.prog 66 (.agg l) 0 = l[0]? := by rw [fd_agg _ 66 _ tk66 l 0 0 3 _ rfl ty3]; rfl
theorem fap66_1 (b o : Nat) : fieldAddrV Try.prog 66 (.ptr b o) 1 = some (.ptr b (o + 1)) := fa_ptr _ 66 _ tk66 b o 1 1 3 _ rfl ty3 (by decide)
theorem fae66_1 (l : List AV) (o : Nat) : fieldAddrV Try.prog 66 (.ele l o) 1 = some (.ele l (o + 1)) := fa_ele _ 66 _ tk66 l o 1 1 3 _ rfl ty3 (by decide)
theorem fd66_1 (l : List AV) : fieldV Try.prog 66 (.agg l) 1 = l[1]? := by rw [fd_agg _ 66 _ tk66 l 1 1 3 _ rfl ty3]; rfl
theorem fap66_2 (b o : Nat) : fieldAddrV Try.prog 66 (.ptr b o) 2 = some (.ptr b (o + 2)) := fa_ptr _ 66 _ tk66 b o 2 2 2 _ rfl ty2 (by decide)
theorem fae66_2 (l : List AV) (o : Nat) : fieldAddrV Try.prog 66 (.ele l o) 2 = some (.ele l (o + 2)) := fa_ele _ 66 _ tk66 l o 2 2 2 _ rfl ty2 (by decide)
theorem fd66_2 (l : List AV) : fieldV Try.prog 66 (.agg l) 2 = l[2]? := by rw [fd_agg _ 66 _ tk66 l 2 2 2 _ rfl ty2]; rfl
theorem ldp67 (H : Heap) (b o : Nat) : loadV Try.prog H 67 (.ptr b o) = (hget H b).bind fun k => k[o]? := by rw [load_ptr _ H 67 _ ty67 b o]; rfl
theorem lde67 (H : Heap) (l : List AV) (o : Nat) : loadV Try.prog H 67 (.ele l o) = l[o]? := by rw [load_ele _ H 67 _ ty67 l o]; rfl
theorem zr67 : (tyOf Try.prog 67).bind (fun ty => ty.zero) = some [.slice none 0 0] := by rw [ty67]; rfl
theorem ias67 (n : Nat) (l : List AV) (k : IntKind) (i : Int) (h0 : 0 ≤ i) (h1 : i < n) : indexAddrV Try.prog 67 (.sl n l) (.v (.int k i)) = some (.ele l (i.toNat * 2)) := by rw [ia_sl _ 67 71 _ tk67 ty71, if_pos ⟨h0, h1⟩]
theorem iao67 (z b o n : Nat) (k : IntKind) (i : Int) (h0 : 0 ≤ i) (h1 : i < n) : indexAddrV Try.prog 67 (.own z b o n) (.v (.int k i)) = some (.ptr b (o + i.toNat * 2)) := by rw [ia_own _ 67 71 _ tk67 ty71, if_pos ⟨h0, h1⟩]
theorem lns67 (n : Nat) (l : List AV) : lenV (tyOf Try.prog 67) (.sl n l) = some (.v (.int .i64 n)) := by rw [ty67]; exact len_sl _ 71 _ _ rfl
theorem lno67 (z b o n : Nat) : lenV (tyOf Try.prog 67) (.own z b o n) = some (.v (.int .i64 n)) := by rw [ty67]; exact len_own _ 71 _ _ _ _ rfl
theorem lnn67 (n : Nat) : lenV (tyOf Try.prog 67) (.v (.slice none n 0)) = some (.v (.int .i64 n)) := by rw [ty67]; exact len_nil _ 71 _ rfl
theorem ldp71 (H : Heap) (b o : Nat) : loadV Try.prog H 71 (.ptr b o) = (hget H b).bind fun k => partL { size := 2, bytes := 16, agg := true, k := .struct [(0, 3), (1, 4)], zero := some [.int .i64 0, .bool false] } k o := load_ptr _ H 71 _ ty71 b o
theorem lde71 (H : Heap) (l : List AV) (o : Nat) : loadV Try.prog H 71 (.ele l o) = partL { size := 2, bytes := 16, agg := true, k := .struct [(0, 3), (1, 4)], zero := some [.int .i64 0, .bool false] } l o := load_ele _ H 71 _ ty71 l o
theorem pl71 (l : List AV) (o : Nat) (h : o + 2 ≤ l.length) : partL { size := 2, bytes := 16, agg := true, k := .struct [(0, 3), (1, 4)], zero := some [.int .i64 0, .bool false] } l o = some (.agg ((l.drop o).take 2)) := by rw [partL_agg _ _ _ rfl, if_pos h]
theorem zr71 : (tyOf Try.prog 71).bind (fun ty => ty.zero) = some [.int .i64 0, .bool false] := by rw [ty71]; rfl
theorem fap71_0 (b o : Nat) : fieldAddrV Try.prog 71 (.ptr b o) 0 = some (.ptr b (o)) := fa_ptr _ 71 _ tk71 b o 0 0 3 _ rfl ty3 (by decide)
theorem fae71_0 (l : List AV) (o : Nat) : fieldAddrV Try.prog 71 (.ele l o) 0 = some (.ele l (o)) := fa_ele _ 71 _ tk71 l o 0 0 3 _ rfl ty3 (by decide)
theorem fd71_0 (l : List AV) : fieldV Try.prog 71 (.agg l) 0 = l[0]? := by rw [fd_agg _ 71 _ tk71 l 0 0 3 _ rfl ty3]; rfl
theorem fap71_1 (b o : Nat) : fieldAddrV Try.prog 71 (.ptr b o) 1 = some (.ptr b (o + 1)) := fa_ptr _ 71 _ tk71 b o 1 1 4 _ rfl ty4 (by decide)
theorem fae71_1 (l : List AV) (o : Nat) : fieldAddrV Try.prog 71 (.ele l o) 1 = some (.ele l (o + 1)) := fa_ele _ 71 _ tk71 l o 1 1 4 _ rfl ty4 (by decide)
theorem fd71_1 (l : List AV) : fieldV Try.prog 71 (.agg l) 1 = l[1]? := by rw [fd_agg _ 71 _ tk71 l 1 1 4 _ rfl ty4]; rfl
theorem ldp78 (H : Heap) (b o : Nat) : loadV Try.prog H 78 (.ptr b o) = (hget H b).bind fun k => k[o]? := by rw [load_ptr _ H 78 _ ty78 b o]; rfl
theorem lde78 (H : Heap) (l : List AV) (o : Nat) : loadV Try.prog H 78 (.ele l o) = l[o]? := by rw [load_ele _ H 78 _ ty78 l o]; rfl
theorem zr78 : (tyOf Try.prog 78).bind (fun ty => ty.zero) = some [.slice none 0 0] := by rw [ty78]; rfl
theorem ias78 (n : Nat) (l : List AV) (k : IntKind) (i : Int) (h0 : 0 ≤ i) (h1 : i < n) : indexAddrV Try.prog 78 (.sl n l) (.v (.int k i)) = some (.ele l (i.toNat * 3)) := by rw [ia_sl _ 78 93 _ tk78 ty93, if_pos ⟨h0, h1⟩]
theorem iao78 (z b o n : Nat) (k : IntKind) (i : Int) (h0 : 0 ≤ i) (h1 : i < n) : indexAddrV Try.prog 78 (.own z b o n) (.v (.int k i)) = some (.ptr b (o + i.toNat * 3)) := by rw [ia_own _ 78 93 _ tk78 ty93, if_pos ⟨h0, h1⟩]
theorem lns78 (n : Nat) (l : List AV) : lenV (tyOf Try.prog 78) (.sl n l) = some (.v (.int .i64 n)) := by rw [ty78]; exact len_sl _ 93 _ _ rfl
theorem lno78 (z b o n : Nat) : lenV (tyOf Try.prog 78) (.own z b o n) = some (.v (.int .i64 n)) := by rw [ty78]; exact len_own _ 93 _ _ _ _ rfl
theorem lnn78 (n : Nat) : lenV (tyOf Try.prog 78) (.v (.slice none n 0)) = some (.v (.int .i64 n)) := by rw [ty78]; exact len_nil _ 93 _ rfl
theorem ldp93 (H : Heap) (b o : Nat) : loadV Try.prog H 93 (.ptr b o) = (hget H b).bind fun k => partL { size := 3, bytes := 24, agg := true, k := .struct [(0, 3), (1, 3), (2, 3)], zero := some [.int .i64 0, .int .i64 0, .int .i64 0] } k o := load_ptr _ H 93 _ ty93 b o
theorem lde93 (H : Heap) (l : List AV) (o : Nat) : loadV Try.prog H 93 (.ele l o) = partL { size := 3, bytes := 24, agg := true, k := .struct [(0, 3), (1, 3), (2, 3)], zero := some [.int .i64 0, .int .i64 0, .int .i64 0] } l o := load_ele _ H 93 _ ty93 l o
theorem pl93 (l : List AV) (o : Nat) (h : o + 3 ≤ l.length) : partL { size := 3, bytes := 24, agg := true, k := .struct [(0, 3), (1, 3), (2, 3)], zero := some [.int .i64 0, .int .i64 0, .int .i64 0] } l o = some (.agg ((l.drop o).take 3)) := by rw [partL_agg _ _ _ rfl, if_pos h]
theorem zr93 : (tyOf Try.prog 93).bind (fun ty => ty.zero) = some [.int .i64 0, .int .i64 0, .int .i64 0] := by rw [ty93]; rfl
theorem fap93_0 (b o : Nat) : fieldAddrV Try.prog 93 (.ptr b o) 0 = some (.ptr b (o)) := fa_ptr _ 93 _ tk93 b o 0 0 3 _ rfl ty3 (by decide)
theorem fae93_0 (l : List AV) (o : Nat) : fieldAddrV Try.prog 93 (.ele l o) 0 = some (.ele l (o)) := fa_ele _ 93 _ tk93 l o 0 0 3 _ rfl ty3 (by decide)
theorem fd93_0 (l : List AV) : fieldV Try.prog 93 (.agg l) 0 = l[0]? := by rw [fd_agg _ 93 _ tk93 l 0 0 3 _ rfl ty3]; rfl
theorem fap93_1 (b o : Nat) : fieldAddrV Try.prog 93 (.ptr b o) 1 = some (.ptr b (o + 1)) := fa_ptr _ 93 _ tk93 b o 1 1 3 _ rfl ty3 (by decide)
theorem fae93_1 (l : List AV) (o : Nat) : fieldAddrV Try.prog 93 (.ele l o) 1 = some (.ele l (o + 1)) := fa_ele _ 93 _ tk93 l o 1 1 3 _ rfl ty3 (by decide)
theorem fd93_1 (l : List AV) : fieldV Try.prog 93 (.agg l) 1 = l[1]? := by rw [fd_agg _ 93 _ tk93 l 1 1 3 _ rfl ty3]; rfl
theorem fap93_2 (b o : Nat) : fieldAddrV Try.prog 93 (.ptr b o) 2 = some (.ptr b (o + 2)) := fa_ptr _ 93 _ tk93 b o 2 2 3 _ rfl ty3 (by decide)
theorem fae93_2 (l : List AV) (o : Nat) : fieldAddrV Try.prog 93 (.ele l o) 2 = some (.ele l (o + 2)) := fa_ele _ 93 _ tk93 l o 2 2 3 _ rfl ty3 (by decide)
theorem fd93_2 (l : List AV) : fieldV Try.prog 93 (.agg l) 2 = l[2]? := by rw [fd_agg _ 93 _ tk93 l 2 2 3 _ rfl ty3]; rfl
theorem ldp104 (H : Heap) (b o : Nat) : loadV Try.prog H 104 (.ptr b o) = (hget H b).bind fun k => k[o]? := by rw [load_ptr _ H 104 _ ty104 b o]; rfl
theorem lde104 (H : Heap) (l : List AV) (o : Nat) : loadV Try.prog H 104 (.ele l o) = l[o]? := by rw [load_ele _ H 104 _ ty104 l o]; rfl
theorem zr104 : (tyOf Try.prog 104).bind (fun ty => ty.zero) = some [.nilFunc] := by rw [ty104]; rfl

attribute [go_sem] sigP ldp1 lde1 zr1 ldp2 lde2 zr2 ldp3 lde3 zr3 ldp4 lde4 zr4 beq4 bne4 ldp5 lde5 zr5 ldp9 lde9
  zr9 lnt9 ldp22 lde22 zr22 ias22 iao22 lns22 lno22 lnn22 ldp24 lde24 pl24 zr24 fap24_0 fae24_0 fd24_0 fap24_1 fae24_1 fd24_1
  fap24_2 fae24_2 fd24_2 fap24_3 fae24_3 fd24_3 ldp27 lde27 zr27 ias27 iao27 lns27 lno27 lnn27 ldp28 lde28 zr28 ias28 iao28 lns28
  lno28 lnn28 ldp29 lde29 zr29 ldp40 lde40 zr40 ias40 iao40 lns40 lno40 lnn40 ldp41 lde41 zr41 ias41 iao41 lns41 lno41
  lnn41 ldp43 lde43 pl43 zr43 fap43_0 fae43_0 fd43_0 fap43_1 fae43_1 fd43_1 ldp46 lde46 pl46 zr46 fap46_0 fae46_0 fd46_0 fap46_1 fae46_1
  fd46_1 fap46_2 fae46_2 fd46_2 ldp58 lde58 pl58 zr58 ldp66 lde66 pl66 zr66 fap66_0 fae66_0 fd66_0 fap66_1 fae66_1 fd66_1 fap66_2 fae66_2
  fd66_2 ldp67 lde67 zr67 ias67 iao67 lns67 lno67 lnn67 ldp71 lde71 pl71 zr71 fap71_0 fae71_0 fd71_0 fap71_1 fae71_1 fd71_1 ldp78
  lde78 zr78 ias78 iao78 lns78 lno78 lnn78 ldp93 lde93 pl93 zr93 fap93_0 fae93_0 fd93_0 fap93_1 fae93_1 fd93_1 fap93_2 fae93_2 fd93_2
  ldp104 lde104 zr104
end Go.Proofs.Ytdicnojnkbmdlaa
end
section
set_option linter.unusedVariables false
namespace Go.Proofs.Ytdicnojnkbmdlaa
open Go Go.Am

structure Ed where
  a : Int
  b : Int
  c : Int
deriving DecidableEq
instance : Inhabited Ed := ⟨⟨0, 0, 0⟩⟩
abbrev edC (s : Ed) : List AV := [AV.i s.a, AV.i s.b, AV.i s.c]
def flatE (l : List Ed) : List AV := (l.map edC).flatten
abbrev edgesAV (l : List Ed) : AV := .sl l.length (flatE l)
abbrev graphC (n s t : Int) (E : List Ed) : List AV := [AV.i n, AV.i s, AV.i t, edgesAV E]
abbrev intsAV (l : List Int) : AV := .sl l.length (l.map AV.i)
abbrev boolsAV (l : List Bool) : AV := .sl l.length (l.map AV.b)
theorem flat_get : ∀ (l : List Ed) (u k : Nat), u < l.length → k < 3 → (flatE l)[u * 3 + k]? = (edC (gt l u))[k]?
  | [], u, k, h, _ => by simp at h
  | s :: l, 0, k, _, hk => by
    unfold flatE
    rw [List.map_cons, List.flatten_cons, Nat.zero_mul, Nat.zero_add, List.getElem?_append_left (by simpa using hk)]
    rfl
  | s :: l, u + 1, k, h, hk => by
    have ih := flat_get l u k (by simpa using h) hk
    unfold flatE at ih ⊢
    rw [List.map_cons, List.flatten_cons, List.getElem?_append_right (by simp; omega)]
    rw [show (u + 1) * 3 + k - (edC s).length = u * 3 + k by simp; omega, ih]
    rfl
theorem flat_len (l : List Ed) : (flatE l).length = l.length * 3 := by
  induction l with
  | nil => rfl
  | cons s l ih => unfold flatE at ih ⊢; rw [List.map_cons, List.flatten_cons, List.length_append, ih]; simp; omega
theorem flat0 (l : List Ed) (u : Nat) (h : u < l.length) : (flatE l)[u * 3]? = some (AV.i (gt l u).a) := flat_get l u 0 h (by omega)
theorem flat1 (l : List Ed) (u : Nat) (h : u < l.length) : (flatE l)[u * 3 + 1]? = some (AV.i (gt l u).b) := flat_get l u 1 h (by omega)
theorem flat2 (l : List Ed) (u : Nat) (h : u < l.length) : (flatE l)[u * 3 + 2]? = some (AV.i (gt l u).c) := flat_get l u 2 h (by omega)
theorem ld_ed (l : List Ed) (u : Nat) (h : u < l.length) : partL { size := 3, bytes := 24, agg := true, k := TyK.struct [(0, 3), (1, 3), (2, 2)], zero := some [.int .i64 0, .int .i64 0, .int .i64 0] } (flatE l) (u * 3) = some (.agg (edC (gt l u))) := by
  rw [pl66 _ _ (by rw [flat_len]; omega)]
  congr 2
  apply List.ext_getElem?
  intro j
  rw [List.getElem?_take, List.getElem?_drop]
  by_cases hj : j < 3
  · rw [if_pos hj, flat_get l u j h hj]
  · rw [if_neg hj, List.getElem?_eq_none (by simp; omega)]
attribute [go_sem] flat0 flat1 flat2 ld_ed

/-- The first error of some that come in order. -/
def ferr (f : Nat → Int) : Nat → Int
  | 0 => 0
  | n + 1 => if ferr f n ≠ 0 then ferr f n else f n
theorem ferr_at {f : Nat → Int} {u : Nat} (h : ferr f u = 0) (hf : f u ≠ 0) : ∀ n, u < n → ferr f n = f u
  | 0, hn => by omega
  | n + 1, hn => by
    unfold ferr
    by_cases hu : u = n
    · subst hu; rw [if_neg (by omega)]
    · rw [ferr_at h hf n (by omega), if_pos hf]
theorem ferr_ok {f : Nat → Int} {u : Nat} (h : ferr f u = 0) (hf : f u = 0) : ferr f (u + 1) = 0 := by
  unfold ferr
  rw [if_neg (by omega), hf]
theorem ferr_all {f : Nat → Int} : ∀ {n : Nat}, ferr f n = 0 → ∀ i, i < n → f i = 0
  | 0, _, i, hi => by omega
  | n + 1, h, i, hi => by
    unfold ferr at h
    by_cases h0 : ferr f n ≠ 0
    · rw [if_pos h0] at h; omega
    · rw [if_neg h0] at h
      by_cases hn : i = n
      · subst hn; exact h
      · exact ferr_all (Decidable.not_not.mp h0) i (by omega)

def edErr (n : Int) (e : Ed) : Int := if e.a < 0 ∨ n ≤ e.a ∨ e.b < 0 ∨ n ≤ e.b ∨ e.a = e.b then 1 else if e.c < 0 ∨ 1073741824 < e.c then 2 else 0
def gchkS (n s t : Int) (E : List Ed) : Int :=
  if n < 2 ∨ 64 < n then 2 else if s < 0 ∨ n ≤ s ∨ t < 0 ∨ n ≤ t ∨ s = t then 1 else if 600 < E.length then 9 else ferr (fun i => edErr n (gt E i)) E.length
/-- What a graph without an error is. -/
structure GOK (n s t : Int) (E : List Ed) : Prop where
  n2 : 2 ≤ n
  n64 : n ≤ 64
  s0 : 0 ≤ s
  s1 : s < n
  t0 : 0 ≤ t
  t1 : t < n
  st : s ≠ t
  el : E.length ≤ 600
  ed : ∀ i, i < E.length → 0 ≤ (gt E i).a ∧ (gt E i).a < n ∧ 0 ≤ (gt E i).b ∧ (gt E i).b < n ∧ (gt E i).a ≠ (gt E i).b ∧ 0 ≤ (gt E i).c ∧ (gt E i).c ≤ 1073741824
theorem gok_of {n s t : Int} {E : List Ed} (h : gchkS n s t E = 0) : GOK n s t E := by
  unfold gchkS at h
  split at h
  · cases h
  split at h
  · cases h
  split at h
  · cases h
  rename_i h1 h2 h3
  refine ⟨by omega, by omega, by omega, by omega, by omega, by omega, by omega, by omega, fun i hi => ?_⟩
  have := ferr_all h i hi
  simp only [edErr] at this
  split at this
  · cases this
  split at this
  · cases this
  exact ⟨by omega, by omega, by omega, by omega, by omega, by omega, by omega⟩
theorem setL_map (l : List Int) (w : Nat) (x : Int) : setL (l.map AV.i) w [AV.i x] = (l.set w x).map AV.i := by
  rw [setL_one, List.map_set]
theorem ms27 (lim : Nat) (H : Heap) (n : Int) (x y : Operand) (ev : Operand → AV) (h0 : 0 ≤ n) (hn : n ≤ 1000000) (h : ev x = AV.i n) (h' : ev y = AV.i n) :
    effV Try.prog lim (.makeSlice 27 x y) ev H = some (.own 1 H.length 0 n.toNat, H ++ [some ((List.replicate n.toNat (0 : Int)).map AV.i)]) := by
  simp only [effV, tk27, ty2, h, h']
  rw [if_pos ⟨rfl, by decide, by omega, by omega, by omega, by omega⟩]
  have key : ∀ k, (List.replicate k ([Value.int .i64 0].map AV.v)).flatten = (List.replicate k (0 : Int)).map AV.i := by
    intro k
    induction k with
    | zero => rfl
    | succ k ih => rw [List.replicate_succ, List.flatten_cons, ih, List.replicate_succ]; rfl
  rw [key]
theorem hget_at (H : Heap) (a b : Option Blk) (X : Heap) (c : Option Blk) : hget (H ++ [a] ++ [b] ++ X ++ [c]) (H.length + 2 + X.length) = c := by
  have e : H.length + 2 + X.length = (H ++ [a] ++ [b] ++ X).length := by simp; omega
  rw [e, hget, List.getElem?_append_right (Nat.le_refl _), Nat.sub_self]
  rfl
theorem hget_mid (A : Heap) (b : Option Blk) (X : Heap) : hget (A ++ [b] ++ X) A.length = b := by
  simp [hget]
theorem hget_last (A : Heap) (b : Option Blk) : hget (A ++ [b]) A.length = b := by
  simp [hget]
theorem frz_own {H : Heap} {base d z b o n : Nat} {k : Blk} (hb : ¬ b < base) (hk : hget H b = some k) : frz H base (d + 1) (.own z b o n) = .sl n ((k.drop o).map (frz H base d)) := by
  simp [frz, hb, hk]
theorem frz_ints (H : Heap) (b d : Nat) (l : List Int) : (l.map AV.i).map (frz H b (d + 1)) = l.map AV.i := by
  rw [List.map_map]; rfl
theorem frz_bools (H : Heap) (b d : Nat) (l : List Bool) : (l.map AV.b).map (frz H b (d + 1)) = l.map AV.b := by
  rw [List.map_map]; rfl

theorem frz_ownI {H : Heap} {base d b n : Nat} {l : List Int} (hb : ¬ b < base) (hk : hget H b = some (l.map AV.i)) (hn : n = l.length) : frz H base (d + 2) (.own 1 b 0 n) = intsAV l := by
  rw [frz_own hb hk, List.drop_zero, frz_ints, hn]
theorem frz_ownB {H : Heap} {base d b n : Nat} {l : List Bool} (hb : ¬ b < base) (hk : hget H b = some (l.map AV.b)) (hn : n = l.length) : frz H base (d + 2) (.own 1 b 0 n) = boolsAV l := by
  rw [frz_own hb hk, List.drop_zero, frz_bools, hn]

/-- What begins at each node less what ends there, over the first edges. -/
def surp1 (E : List Ed) (f : List Int) (u : Nat) (o : List Int) : List Int := o.set (gt E u).a.toNat (gt o (gt E u).a.toNat + gt f u)
def surp2 (E : List Ed) (f : List Int) (u : Nat) (o : List Int) : List Int := o.set (gt E u).b.toNat (gt o (gt E u).b.toNat - gt f u)
def surpN (N : Nat) (E : List Ed) (f : List Int) : Nat → List Int
  | 0 => List.replicate N 0
  | u + 1 => surp2 E f u (surp1 E f u (surpN N E f u))
theorem surp1_len {E : List Ed} {f : List Int} {u : Nat} {o : List Int} : (surp1 E f u o).length = o.length := by rw [surp1, List.length_set]
theorem surp2_len {E : List Ed} {f : List Int} {u : Nat} {o : List Int} : (surp2 E f u o).length = o.length := by rw [surp2, List.length_set]
theorem surp_len (N : Nat) (E : List Ed) (f : List Int) (u : Nat) : (surpN N E f u).length = N := by
  induction u with
  | zero => simp [surpN]
  | succ u ih => rw [surpN, surp2_len, surp1_len, ih]
theorem gt_rep (N j : Nat) : gt (List.replicate N (0 : Int)) j = 0 := by
  unfold gt
  rw [List.getD_eq_getElem?_getD, List.getElem?_replicate]
  split <;> rfl
theorem surp_rng {n : Int} {E : List Ed} {f : List Int} (he : ∀ i, i < E.length → 0 ≤ (gt E i).a ∧ (gt E i).a < n ∧ 0 ≤ (gt E i).b ∧ (gt E i).b < n) (hf : ∀ i, i < E.length → 0 ≤ gt f i ∧ gt f i ≤ 1073741824) :
    ∀ u, u ≤ E.length → (∀ j, -(1073741824 * (u : Int)) ≤ gt (surpN n.toNat E f u) j ∧ gt (surpN n.toNat E f u) j ≤ 1073741824 * (u : Int))
  | 0, _ => fun j => by rw [surpN, gt_rep]; omega
  | u + 1, h => fun j => by
    have ih := surp_rng he hf u (by omega)
    have h1 := he u (by omega)
    have h2 := hf u (by omega)
    have hl := surp_len n.toNat E f u
    have i1 := ih (gt E u).a.toNat
    have key : ∀ k, -(1073741824 * (u : Int)) ≤ gt (surp1 E f u (surpN n.toNat E f u)) k ∧ gt (surp1 E f u (surpN n.toNat E f u)) k ≤ 1073741824 * (u : Int) + 1073741824 := by
      intro k
      have ik := ih k
      rw [surp1, gt_set _ _ _ _ (by rw [hl]; omega)]
      split <;> omega
    have i2 := key (gt E u).b.toNat
    have i3 := key j
    rw [surpN, surp2, gt_set _ _ _ _ (by rw [surp1_len, hl]; omega)]
    split <;> omega
def fRng (E : List Ed) (f : List Int) : Prop := ∀ i, i < E.length → 0 ≤ gt f i ∧ gt f i ≤ (gt E i).c
def sumBad (s t : Int) (o : List Int) : Prop := ∃ j, j < o.length ∧ gt o j ≠ 0 ∧ (j : Int) ≠ s ∧ (j : Int) ≠ t
abbrev surpS (n : Int) (E : List Ed) (f : List Int) : List Int := surpN n.toNat E f E.length
open Classical in
noncomputable def feasS (n s t : Int) (E : List Ed) (f : List Int) : Int :=
  if gchkS n s t E ≠ 0 then gchkS n s t E else if f.length ≠ E.length then 1 else if ¬ fRng E f then 2 else if sumBad s t (surpS n E f) then 12 else 0
theorem feas_of {n s t : Int} {E : List Ed} {f : List Int} (h : feasS n s t E f = 0) : GOK n s t E ∧ f.length = E.length ∧ fRng E f ∧ ¬ sumBad s t (surpS n E f) := by
  unfold feasS at h
  split at h
  · rename_i h1; exact absurd h h1
  split at h
  · cases h
  split at h
  · cases h
  split at h
  · cases h
  rename_i h1 h2 h3 h4
  exact ⟨gok_of (Classical.not_not.mp h1), Classical.not_not.mp h2, Classical.not_not.mp h3, h4⟩
theorem fRng_cap {n s t : Int} {E : List Ed} {f : List Int} (g : GOK n s t E) (h : fRng E f) : ∀ i, i < E.length → 0 ≤ gt f i ∧ gt f i ≤ 1073741824 := fun i hi => by
  have h1 := h i hi
  have h2 := g.ed i hi
  omega
noncomputable def valueS (n s t : Int) (E : List Ed) (f : List Int) : Int × Int := if feasS n s t E f ≠ 0 then (0, feasS n s t E f) else (gt (surpS n E f) s.toNat, 0)
/-- The capacity of the first edges that a cut severs. -/
def capN (E : List Ed) (cut : List Bool) : Nat → Int
  | 0 => 0
  | u + 1 => capN E cut u + if gt cut (gt E u).a.toNat = true ∧ gt cut (gt E u).b.toNat = false then (gt E u).c else 0
theorem capN_rng {E : List Ed} {cut : List Bool} (ge : ∀ i, i < E.length → 0 ≤ (gt E i).c ∧ (gt E i).c ≤ 1073741824) : ∀ u, u ≤ E.length → 0 ≤ capN E cut u ∧ capN E cut u ≤ 1073741824 * (u : Int)
  | 0, _ => by simp [capN]
  | u + 1, h => by
    have ih := capN_rng (cut := cut) ge u (by omega)
    have := ge u (by omega)
    rw [capN]
    split <;> omega
noncomputable def capS (n s t : Int) (E : List Ed) (cut : List Bool) : Int × Int :=
  if gchkS n s t E ≠ 0 then (0, gchkS n s t E) else if (cut.length : Int) ≠ n ∨ gt cut s.toNat = false ∨ gt cut t.toNat = true then (0, 1) else (capN E cut E.length, 0)
noncomputable def acceptS (n s t : Int) (E : List Ed) (f : List Int) (cut : List Bool) : Int :=
  if (valueS n s t E f).2 ≠ 0 then (valueS n s t E f).2 else if (capS n s t E cut).2 ≠ 0 then (capS n s t E cut).2 else if (valueS n s t E f).1 ≠ (capS n s t E cut).1 then 13 else 0
end Go.Proofs.Ytdicnojnkbmdlaa
end
section
namespace Go.Am
open Go
/-- One block was made, the others are as they were. -/
structure MNew (H H' : Heap) (k : Blk) : Prop where
  len : H'.length = H.length + 1
  new : hget H' H.length = some k
  old : ∀ b, b < H.length → hget H' b = hget H b
/-- One block was written. -/
structure MWrote (H : Heap) (b : Nat) (H' : Heap) (k : Blk) : Prop where
  len : H'.length = H.length
  new : hget H' b = some k
  old : ∀ c, c ≠ b → hget H' c = hget H c
/-- One block was made in place of another one. -/
structure MGrew (H : Heap) (b : Nat) (H' : Heap) (k : Blk) : Prop where
  len : H'.length = H.length + 1
  new : hget H' H.length = some k
  old : ∀ c, c ≠ b → c < H.length → hget H' c = hget H c
theorem MNew.of (H : Heap) (k : Blk) : MNew H (H ++ [some k]) k := ⟨by simp, by simp [hget], fun b hb => hget_low _ _ _ hb⟩
theorem MWrote.of (H : Heap) {b : Nat} (k : Blk) (hb : b < H.length) : MWrote H b (hset H b (some k)) k :=
  ⟨by simp [hset], by simp [hget, hset, hb], fun c hc => by simp [hget, hset, Ne.symm hc]⟩
theorem MGrew.of (H : Heap) (b : Nat) (k : Blk) : MGrew H b (hset H b none ++ [some k]) k :=
  ⟨by simp [hset], by simp [hget, hset], fun c hc hl => by
    rw [hget_low _ _ _ (by simpa [hset] using hl)]
    simp [hget, hset, Ne.symm hc]⟩
theorem MGrew.ofNew {H H' : Heap} {k : Blk} (b : Nat) (h : MNew H H' k) : MGrew H b H' k := ⟨h.len, h.new, fun c _ hl => h.old c hl⟩
section
variable {S : Sig} {lim : Nat} {ops : Array Oper} {l : List Oper} {e : Env} {H : Heap} {K : Env → Heap → Prop} {d : Option Tmp} {ty : TypeId} {pos : String} {af : Array Edge}
theorem A_alloc {t : TypeId} {z : List Value} (hz : (tyOf S.P t).bind (fun ty => ty.zero) = some z) (hk : ∀ H', MNew H H' (z.map .v) → Rp S lim ops l (e.put d (.ptr H.length 0)) H' K) : Rp S lim ops (⟨d, .alloc t, ty, pos, af, none⟩ :: l) e H K :=
  R_alloc hz rfl rfl (hk _ (MNew.of _ _))
theorem A_box {t : TypeId} {x : Operand} {c : List AV} (ht : (tyOf S.P t).isSome = true) (hc : cellsOf (evO e x) = some c) (hk : ∀ H', MNew H H' c → Rp S lim ops l (e.put d (.ptr H.length 0)) H' K) : Rp S lim ops (⟨d, .box t x, ty, pos, af, none⟩ :: l) e H K :=
  R_box ht hc rfl rfl (hk _ (MNew.of _ _))
theorem A_store {t : TypeId} {tyy : Ty} {a x : Operand} {b o : Nat} {c : List AV} {k : Blk} (ht : tyOf S.P t = some tyy) (ha : evO e a = .ptr b o) (hc : cellsOf (evO e x) = some c) (hb : hget H b = some k) (hl : lim ≤ b ∧ c.length = tyy.size ∧ o + tyy.size ≤ k.length) {k' : Blk} (hk' : setL k o c = k')
    (hk : ∀ H', MWrote H b H' k' → Rp S lim ops l (e.put d (.v undef)) H' K) : Rp S lim ops (⟨d, .store t a x, ty, pos, af, none⟩ :: l) e H K :=
  R_store ht ha hc hb hl hk' rfl (hk _ (MWrote.of _ _ (hget_lt hb)))
theorem A_append {x y : Operand} {t : TypeId} {r : AV} {b : Nat} {k : Blk} (h : ∃ H', appendV S.P lim H t (evO e x) (evO e y) = some (r, H') ∧ MGrew H b H' k) (hk : ∀ H', MGrew H b H' k → Rp S lim ops l (e.put d r) H' K) :
    Rp S lim ops (⟨d, .call ⟨.builtin .append, #[x, y], #[t, t]⟩, ty, pos, af, none⟩ :: l) e H K := by
  obtain ⟨H', h1, h2⟩ := h
  exact R_append h1 (hk _ h2)
theorem A_buildSlice {t : TypeId} {n : Nat} {parts : Array (Nat × Operand)} {r : AV} {k : Blk} (h : effV S.P lim (.buildSlice t n parts) (evO e) H = some (r, H ++ [some k])) (hk : ∀ H', MNew H H' k → Rp S lim ops l (e.put d r) H' K) : Rp S lim ops (⟨d, .buildSlice t n parts, ty, pos, af, none⟩ :: l) e H K :=
  R_buildSlice h (hk _ (MNew.of _ _))
theorem A_makeSlice {t : TypeId} {n c : Operand} {r : AV} {k : Blk} (h : effV S.P lim (.makeSlice t n c) (evO e) H = some (r, H ++ [some k])) (hk : ∀ H', MNew H H' k → Rp S lim ops l (e.put d r) H' K) : Rp S lim ops (⟨d, .makeSlice t n c, ty, pos, af, none⟩ :: l) e H K :=
  R_makeSlice h (hk _ (MNew.of _ _))
theorem Rp_env {e' : Env} (h : e = e') (hk : Rp S lim ops l e' H K) : Rp S lim ops l e H K := h ▸ hk
end
theorem wrC_store {R : List Nat} {d : Option Tmp} {ty : TypeId} {pos : String} {af : Array Edge} {g : Option (Nat × Bool)} {t : TypeId} {a x : Operand} {e : Env} {b o : Nat} (h : evO e a = .ptr b o) (hb : b ∉ R) : wrC R ⟨d, .store t a x, ty, pos, af, g⟩ e = true := by
  simp only [wrC, wrV, h]
  simpa using hb
theorem rls2 {S : Sig} {lim : Nat} {dr : List (Nat × Draw)} {loc : Env} {H : Heap} {Q : Ex → St → Prop} {c : Code} {p : List Nat} {id : Nat} {ops : Array Oper} {lead m m2 fin live keep : List Nat} {ms : List (List Nat)} (h : at' c p = .region id ops true) (hd : dr.lookup id = some (.led lead (m :: m2 :: ms) fin live keep))
    (hw : Lp S ops H (fun e _ => Rp S H.length ops (pick ops m) e H (fun e1 H1 => Alts S ops live keep H.length e H e1 H1 (m2 :: ms) ∧
      Rp S lim ops (pick ops fin) (cutE ops live loc e1) (keepOnly keep H.length H1) fun e' H' => Q .normal ⟨trim e' loc, H'⟩)) (pick ops lead) loc []) : W S lim dr (at' c p) ⟨loc, H⟩ Q := by
  rw [h]
  obtain ⟨e, R, h1, hw⟩ := runLead_of_Lp _ _ _ hw
  obtain ⟨n1, e1', H1', h2, ha, hf⟩ := runOps_of_Rp _ _ _ _ hw
  obtain ⟨n2, h3⟩ := altsOK_of _ ha
  obtain ⟨n3, e3, H3, h4, hw⟩ := runOps_of_Rp _ _ _ _ hf
  refine ⟨max n1 (max n2 n3) + 1, .normal, ⟨trim e3 loc, H3⟩, ?_, hw⟩
  simp only [exec, region, if_true, hd, led, h1, runOps_mono (acall_mono S n1 (max n1 (max n2 n3) + 1) (by omega)) _ _ _ _ h2, altsOK_mono (acall_mono S n2 (max n1 (max n2 n3) + 1) (by omega)) _ h3, runOps_mono (acall_mono S n3 (max n1 (max n2 n3) + 1) (by omega)) _ _ _ _ h4, Option.map_some]
/-- Two blocks that are made in either order. -/
theorem two_same {H : Heap} {live : List Nat} {e0 e1 : Env} {A B : Blk} (hA : ∀ f, A.map (ren f 8) = A) (hB : ∀ f, B.map (ren f 8) = B)
    (hl : ∀ t ∈ live, (ren (rnB H.length [1, 0]) 8 (e1.get t)) = e0.get t) : SameUp H.length live [0, 1] e0 (H ++ [some A] ++ [some B]) e1 (H ++ [some B] ++ [some A]) := by
  refine ⟨[1, 0], by simp, by simp, by simp, by decide, by decide, by decide, hl, ?_⟩
  intro k hk
  simp only [List.mem_cons, List.not_mem_nil, or_false] at hk
  rcases hk with rfl | rfl
  · simp [hget, hA]
  · simp [hget, hB]
theorem two_id {H : Heap} {live : List Nat} {e0 e1 : Env} {A B : Blk} (hA : ∀ f, A.map (ren f 8) = A) (hB : ∀ f, B.map (ren f 8) = B)
    (hl : ∀ t ∈ live, (ren (rnB H.length [0, 1]) 8 (e1.get t)) = e0.get t) : SameUp H.length live [0, 1] e0 (H ++ [some A] ++ [some B]) e1 (H ++ [some A] ++ [some B]) := by
  refine ⟨[0, 1], by simp, by simp, by simp, by decide, by decide, by decide, hl, ?_⟩
  intro k hk
  simp only [List.mem_cons, List.not_mem_nil, or_false] at hk
  rcases hk with rfl | rfl
  · simp [hget, hA]
  · simp [hget, hB]
theorem keep_two (H : Heap) (A B : Option Blk) : keepOnly [0, 1] H.length (H ++ [A] ++ [B]) = H ++ [A] ++ [B] := by
  unfold keepOnly
  apply List.ext_getElem?
  intro i
  rw [List.getElem?_mapIdx]
  by_cases h : i < H.length
  · simp [h]
  · by_cases h2 : i < (H ++ [A] ++ [B]).length
    · have : i - H.length = 0 ∨ i - H.length = 1 := by simp at h2; omega
      rcases this with h3 | h3 <;> simp [h3]
    · rw [List.getElem?_eq_none (by omega)]; rfl
end Go.Am
end
