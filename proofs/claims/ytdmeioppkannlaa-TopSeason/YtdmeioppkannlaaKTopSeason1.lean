/-
  Texts of TopSeason, part 2 of 16. The abstract machine, symbolically: the laws by which simp walks a region.
-/
import Derived.Test.YtdmeioppkannlaaKTopSeason0
import Derived.Attr
import Derived.Laws.StructEq
section
namespace Go.Am
open Go
section
variable {S : Sig}

/-! ### Slots -/
theorem get_cons (k : Nat) (x : AV) (r : Env) (t : Nat) : Env.get ((k, x) :: r) t = if t = k then x else Env.get r t := rfl
theorem get_nil (t : Nat) : Env.get [] t = .any := rfl
theorem getD_cons (k : Nat) (x : AV) (r : Env) (t : Nat) (d : AV) : Env.getD ((k, x) :: r) t d = if t = k then x else Env.getD r t d := rfl
theorem getD_nil (t : Nat) (d : AV) : Env.getD [] t d = d := rfl
theorem put_some (e : Env) (t : Nat) (x : AV) : Env.put e (some t) x = (t, x) :: e := rfl
theorem put_none (e : Env) (x : AV) : Env.put e none x = e := rfl
theorem ev_tmp (e : Env) (t : Nat) : evO e (.tmp t) = e.get t := rfl
theorem ev_int (e : Env) (k : IntKind) (n : Int) : evO e (.const (.int k n)) = .v (.int k n) := rfl
theorem ev_bool (e : Env) (b : Bool) : evO e (.const (.bool b)) = .v (.bool b) := rfl
theorem ev_str (e : Env) (s : ByteArray) : evO e (.const (.string s)) = .v (.string s) := rfl
theorem ev_nil (e : Env) : evO e (.const (.slice none 0 0)) = .v (.slice none 0 0) := rfl
theorem ev_func (e : Env) (f : FuncId) : evO e (.func f) = .clo f [] := rfl
theorem ev_agg (e : Env) (cs : Array Value) : evO e (.const (.agg cs)) = .agg (cs.toList.map .v) := rfl
theorem hget_app (H : Heap) (l : List (Option Blk)) : hget (H ++ l) H.length = (l[0]?).join := by
  simp [hget, List.getElem?_append_right]
theorem hset_app (H : Heap) (l : List (Option Blk)) (x : Option Blk) : hset (H ++ l) H.length x = H ++ l.set 0 x := by simp [hset]
section
variable (lim : Nat) (e : Env) (H : Heap) (K : AV → Heap → Prop)
theorem opP_call (f : FuncId) (args : Array Operand) (ts : Array TypeId) : opP S lim (.call ⟨.value (.func f), args, ts⟩) e H K = ACall S lim f (args.toList.map (evO e)) H K := by
  simp only [opP, evO, List.append_nil]
def cloP (x : AV) (K : FuncId → List AV → Prop) : Prop :=
  match x with
  | .clo g l => K g l
  | _ => False
@[congr] theorem cloP_congr {x x' : AV} (K : FuncId → List AV → Prop) (h : x = x') : cloP x K = cloP x' K := by rw [h]
theorem opP_alloc (t : TypeId) : opP S lim (.alloc t) e H K = optP ((tyOf S.P t).bind fun ty => ty.zero) fun z => K (.ptr H.length 0) (H ++ [some (z.map .v)]) := by
  simp only [opP, effV, optP]
  cases tyOf S.P t with
  | none => rfl
  | some ty =>
    simp only [Option.bind_some]
    cases ty.zero <;> rfl
theorem opP_box (t : TypeId) (x : Operand) : opP S lim (.box t x) e H K = optP (tyOf S.P t) fun _ => optP (cellsOf (evO e x)) fun c => K (.ptr H.length 0) (H ++ [some c]) := by
  simp only [opP, effV, optP]
  cases tyOf S.P t with
  | none => rfl
  | some ty => cases cellsOf (evO e x) <;> rfl
def storeP (lim size : Nat) (a : AV) (c : Option (List AV)) (H : Heap) (K : AV → Heap → Prop) : Prop :=
  match a with
  | .ptr b o => optP c fun c => optP (hget H b) fun k => (lim ≤ b ∧ c.length = size ∧ o + size ≤ k.length) ∧ K (.v undef) (hset H b (some (setL k o c)))
  | _ => False
@[congr] theorem storeP_congr (lim size : Nat) {a a' : AV} {c c' : Option (List AV)} (H : Heap) (K : AV → Heap → Prop) (h : a = a') (h' : c = c') : storeP lim size a c H K = storeP lim size a' c' H K := by rw [h, h']
theorem storeP_ptr (size b o : Nat) (c : List AV) : storeP lim size (.ptr b o) (some c) H K = optP (hget H b) fun k => (lim ≤ b ∧ c.length = size ∧ o + size ≤ k.length) ∧ K (.v undef) (hset H b (some (setL k o c))) := rfl
theorem opP_store (t : TypeId) (a x : Operand) : opP S lim (.store t a x) e H K = optP (tyOf S.P t) fun ty => storeP lim ty.size (evO e a) (cellsOf (evO e x)) H K := by
  simp only [opP, effV, optP, storeP]
  cases tyOf S.P t with
  | none => rfl
  | some ty =>
    simp only
    cases evO e a <;> try rfl
    cases cellsOf (evO e x) with
    | none => rfl
    | some c =>
      simp only
      rename_i b o
      cases hget H b with
      | none => rfl
      | some k =>
        simp only
        by_cases h : lim ≤ b ∧ c.length = ty.size ∧ o + ty.size ≤ List.length k
        · simp only [if_pos h]; simp [h]
        · simp only [if_neg h]; simp [h]
theorem opP_buildSlice (t : TypeId) (n : Nat) (parts : Array (Nat × Operand)) : opP S lim (.buildSlice t n parts) e H K = optP (effV S.P lim (.buildSlice t n parts) (evO e) H) fun r => K r.1 r.2 := rfl
theorem opP_makeSlice (t : TypeId) (l c : Operand) : opP S lim (.makeSlice t l c) e H K = optP (effV S.P lim (.makeSlice t l c) (evO e) H) fun r => K r.1 r.2 := rfl
theorem opP_append (x y : Operand) (t : TypeId) : opP S lim (.call ⟨.builtin .append, #[x, y], #[t, t]⟩) e H K = optP (appendV S.P lim H t (evO e x) (evO e y)) fun r => K r.1 r.2 := by
  simp [opP, effV]
def pickP (c a b : AV) (K : AV → Prop) : Prop :=
  match c with
  | .v (.bool t) => K (if t then a else b)
  | _ => False
@[congr] theorem pickP_congr {c c' a a' b b' : AV} (K : AV → Prop) (h : c = c') (h1 : a = a') (h2 : b = b') : pickP c a b K = pickP c' a' b' K := by rw [h, h1, h2]
def tupP (x : AV) (i : Nat) (K : AV → Prop) : Prop :=
  match x with
  | .tup l => optP l[i]? K
  | _ => False
@[congr] theorem tupP_congr {x x' : AV} (i : Nat) (K : AV → Prop) (h : x = x') : tupP x i K = tupP x' i K := by rw [h]
theorem pop_max2 (P : Program) (x y : Operand) (ts : Array TypeId) : popV P (.call ⟨.builtin .max, #[x, y], ts⟩) (evO e) = max2 (evO e x) (evO e y) := by
  simp only [popV, List.map, foldA]
  cases max2 (evO e x) (evO e y) <;> rfl
theorem pop_min2 (P : Program) (x y : Operand) (ts : Array TypeId) : popV P (.call ⟨.builtin .min, #[x, y], ts⟩) (evO e) = min2 (evO e x) (evO e y) := by
  simp only [popV, List.map, foldA]
  cases min2 (evO e x) (evO e y) <;> rfl
end

/-! ### Values -/
section
variable (P : Program)
theorem max2_int (k k' : IntKind) (x y : Int) : max2 (.v (.int k x)) (.v (.int k' y)) = some (.v (.int k (max x y))) := by
  simp only [max2]; congr 3; omega
theorem min2_int (k k' : IntKind) (x y : Int) : min2 (.v (.int k x)) (.v (.int k' y)) = some (.v (.int k (min x y))) := by
  simp only [min2]; congr 3; omega
theorem bin_add (t : TypeId) (k : IntKind) (a b : Int) : binV P .add t (.v (.int k a)) (.v (.int k b)) = some (.v (.int k (k.wrap (a + b)))) := by simp [binV, intBin]
theorem bin_sub (t : TypeId) (k : IntKind) (a b : Int) : binV P .sub t (.v (.int k a)) (.v (.int k b)) = some (.v (.int k (k.wrap (a - b)))) := by simp [binV, intBin]
theorem bin_mul (t : TypeId) (k : IntKind) (a b : Int) : binV P .mul t (.v (.int k a)) (.v (.int k b)) = some (.v (.int k (k.wrap (a * b)))) := by simp [binV, intBin]
theorem bin_rem (t : TypeId) (k : IntKind) (a b : Int) : binV P .rem t (.v (.int k a)) (.v (.int k b)) = if b = 0 then none else some (.v (.int k (a.tmod b))) := by
  simp only [binV, intBin, if_true]; split <;> rfl
theorem bin_eql (t : TypeId) (k : IntKind) (a b : Int) : binV P .eql t (.v (.int k a)) (.v (.int k b)) = some (.v (.bool (a == b))) := by simp [binV, intBin]
theorem bin_neq (t : TypeId) (k : IntKind) (a b : Int) : binV P .neq t (.v (.int k a)) (.v (.int k b)) = some (.v (.bool (!(a == b)))) := by simp [binV, intBin, bne]
theorem bin_lss (t : TypeId) (k : IntKind) (a b : Int) : binV P .lss t (.v (.int k a)) (.v (.int k b)) = some (.v (.bool (decide (a < b)))) := by simp [binV, intBin]
theorem bin_leq (t : TypeId) (k : IntKind) (a b : Int) : binV P .leq t (.v (.int k a)) (.v (.int k b)) = some (.v (.bool (decide (a ≤ b)))) := by simp [binV, intBin]
theorem bin_gtr (t : TypeId) (k : IntKind) (a b : Int) : binV P .gtr t (.v (.int k a)) (.v (.int k b)) = some (.v (.bool (decide (b < a)))) := by simp [binV, intBin]
theorem bin_geq (t : TypeId) (k : IntKind) (a b : Int) : binV P .geq t (.v (.int k a)) (.v (.int k b)) = some (.v (.bool (decide (b ≤ a)))) := by simp [binV, intBin]
theorem un_not (b : Bool) : unV .not (.v (.bool b)) = some (.v (.bool (!b))) := rfl
theorem un_neg (k : IntKind) (n : Int) : unV .neg (.v (.int k n)) = some (.v (.int k (k.wrap (0 - n)))) := rfl
theorem len_sl (ty : Ty) (e : TypeId) (n : Nat) (l : List AV) (h : ty.k = .slice e) : lenV (some ty) (.sl n l) = some (.v (.int .i64 n)) := by simp [lenV, kOf, h]
theorem len_own (ty : Ty) (e : TypeId) (z b o n : Nat) (h : ty.k = .slice e) : lenV (some ty) (.own z b o n) = some (.v (.int .i64 n)) := by simp [lenV, kOf, h]
theorem len_nil (ty : Ty) (e : TypeId) (n : Nat) (h : ty.k = .slice e) : lenV (some ty) (.v (.slice none n 0)) = some (.v (.int .i64 n)) := by simp [lenV, kOf, h]
theorem cells_sl (n : Nat) (l : List AV) : cellsOf (.sl n l) = some [.sl n l] := rfl
theorem cells_own (z b o n : Nat) : cellsOf (.own z b o n) = some [.own z b o n] := rfl
theorem cells_ptr (b o : Nat) : cellsOf (.ptr b o) = some [.ptr b o] := rfl
theorem cells_clo (f : FuncId) (l : List AV) : cellsOf (.clo f l) = some [.clo f l] := rfl
theorem cells_agg (l : List AV) : cellsOf (.agg l) = if l.all storable then some l else none := rfl
theorem st_v (x : Value) : storable (.v x) = x.oneCell' := rfl
theorem st_int (k : IntKind) (n : Int) : Value.oneCell' (.int k n) = true := rfl
theorem st_bool (b : Bool) : Value.oneCell' (.bool b) = true := rfl
theorem st_string (s : ByteArray) : Value.oneCell' (.string s) = true := rfl
theorem st_slice (p : Option Addr) (n c : Nat) : Value.oneCell' (.slice p n c) = true := rfl
theorem st_sl (n : Nat) (l : List AV) : storable (.sl n l) = true := rfl
theorem st_own (z b o n : Nat) : storable (.own z b o n) = true := rfl
theorem st_ptr (b o : Nat) : storable (.ptr b o) = true := rfl
theorem st_clo (f : FuncId) (l : List AV) : storable (.clo f l) = true := rfl

theorem partL_agg (ty : Ty) (l : List AV) (o : Nat) (h : ty.agg = true) : partL ty l o = if o + ty.size ≤ l.length then some (.agg ((l.drop o).take ty.size)) else none := by simp [partL, h]
theorem load_ptr (H : Heap) (t : TypeId) (ty : Ty) (h : tyOf P t = some ty) (b o : Nat) : loadV P H t (.ptr b o) = (hget H b).bind fun k => partL ty k o := by
  simp only [loadV, h]; cases hget H b <;> rfl
theorem load_ele (H : Heap) (t : TypeId) (ty : Ty) (h : tyOf P t = some ty) (l : List AV) (o : Nat) : loadV P H t (.ele l o) = partL ty l o := by
  simp only [loadV, h]
theorem ia_sl (t e : TypeId) (te : Ty) (h : tk P t = some (.slice e)) (he : tyOf P e = some te) (n : Nat) (l : List AV) (k : IntKind) (i : Int) :
    indexAddrV P t (.sl n l) (.v (.int k i)) = if 0 ≤ i ∧ i < n then some (.ele l (i.toNat * te.size)) else none := by simp only [indexAddrV, h, he]
theorem ia_own (t e : TypeId) (te : Ty) (h : tk P t = some (.slice e)) (he : tyOf P e = some te) (z b o n : Nat) (k : IntKind) (i : Int) :
    indexAddrV P t (.own z b o n) (.v (.int k i)) = if 0 ≤ i ∧ i < n then some (.ptr b (o + i.toNat * te.size)) else none := by simp only [indexAddrV, h, he]
theorem fa_ptr (s : TypeId) (fs : List (Nat × TypeId)) (h : tk P s = some (.struct fs)) (b o f off : Nat) (ft : TypeId) (ty : Ty) (hf : fs[f]? = some (off, ft)) (ht : tyOf P ft = some ty) (hz : ty.size ≠ 0) :
    fieldAddrV P s (.ptr b o) f = some (.ptr b (o + off)) := by simp only [fieldAddrV, h, hf, ht]; simp [hz]
theorem fa_ele (s : TypeId) (fs : List (Nat × TypeId)) (h : tk P s = some (.struct fs)) (l : List AV) (o f off : Nat) (ft : TypeId) (ty : Ty) (hf : fs[f]? = some (off, ft)) (ht : tyOf P ft = some ty) (hz : ty.size ≠ 0) :
    fieldAddrV P s (.ele l o) f = some (.ele l (o + off)) := by simp only [fieldAddrV, h, hf, ht]; simp [hz]
theorem frz_v (H : Heap) (b d : Nat) (x : Value) : frz H b (d + 1) (.v x) = .v x := rfl
theorem frz_tup (H : Heap) (b d : Nat) (l : List AV) : frz H b (d + 1) (.tup l) = .tup (l.map (frz H b d)) := rfl
theorem frz_agg (H : Heap) (b d : Nat) (l : List AV) : frz H b (d + 1) (.agg l) = .agg (l.map (frz H b d)) := rfl
theorem frz_sl (H : Heap) (b d : Nat) (n : Nat) (l : List AV) : frz H b (d + 1) (.sl n l) = .sl n (l.map (frz H b d)) := rfl
theorem frz_own (H : Heap) (b d : Nat) (z k o n : Nat) (h : ¬ k < b) : frz H b (d + 1) (.own z k o n) = (match hget H k with | some c => .sl n ((c.drop o).map (frz H b d)) | none => .any) := by
  simp only [frz, if_neg h]
  cases hget H k <;> rfl
end

/-! ### Numbers that fit -/
theorem wrap_i64 (n : Int) (h : -9223372036854775808 ≤ n ∧ n ≤ 9223372036854775807) : IntKind.i64.wrap n = n := by
  rw [IntKind.wrap_i64]; omega
theorem ret_ret (own : Bool) (fa : FnA) (H0 : Heap) (K : AV → Heap → Prop) (s : St) :
    retP S own fa H0 K .ret s = optP (resAll S.P s.loc s.H fa.fn.results.toList) fun l => if own then K (oneOr l) s.H else K (frz s.H H0.length 8 (oneOr l)) H0 := rfl
theorem res_nil (P : Program) (e : Env) (H : Heap) : resAll P e H [] = some [] := rfl
theorem res_tmp (P : Program) (e : Env) (H : Heap) (t : Tmp) (rs : List ResultVar) : resAll P e H (.tmp t :: rs) = (resAll P e H rs).map (e.get t :: ·) := by
  simp only [resAll, resA]; cases resAll P e H rs <;> rfl
theorem res_cell (P : Program) (e : Env) (H : Heap) (a : Tmp) (t : TypeId) (rs : List ResultVar) : resAll P e H (.cell a t :: rs) = (loadV P H t (e.get a)).bind fun x => (resAll P e H rs).map (x :: ·) := by
  simp only [resAll, resA]; cases loadV P H t (e.get a) <;> cases resAll P e H rs <;> rfl
theorem one_one (x : AV) : oneOr [x] = x := rfl
theorem one_two (x y : AV) (l : List AV) : oneOr (x :: y :: l) = .tup (x :: y :: l) := rfl

/-! ### A region, operation by operation: each law wants what the operation yields, and hands on -/
section
variable {lim : Nat} {ops : Array Oper} {l : List Oper} {e : Env} {H : Heap} {K : Env → Heap → Prop} {d : Option Tmp} {op : Op} {ty : TypeId} {pos : String} {af : Array Edge} {g : Option (Nat × Bool)}

/-- What an operation that makes and writes nothing yields. -/
def qV (P : Program) (H : Heap) (o : Op) (e : Env) : Option AV :=
  match o with
  | .load t a => loadV P H t (evO e a)
  | o => popV P o (evO e)
theorem q_load (P : Program) (H : Heap) (e : Env) (t : TypeId) (a : Operand) : qV P H (.load t a) e = loadV P H t (evO e a) := rfl
theorem q_move (P : Program) (H : Heap) (e : Env) (x : Operand) : qV P H (.move x) e = some (evO e x) := rfl
theorem q_assign (P : Program) (H : Heap) (e : Env) (x : Operand) : qV P H (.assign x) e = some (evO e x) := rfl
theorem q_binOp (P : Program) (H : Heap) (e : Env) (op : BinOp) (t : TypeId) (x y : Operand) (ty : TypeId) : qV P H (.binOp op t x y ty) e = binV P op t (evO e x) (evO e y) := rfl
theorem q_unOp (P : Program) (H : Heap) (e : Env) (op : UnOp) (t : TypeId) (x : Operand) : qV P H (.unOp op t x) e = unV op (evO e x) := rfl
theorem q_pick (P : Program) (H : Heap) (e : Env) (c a b : Operand) : qV P H (.pick c a b) e = match evO e c with | .v (.bool t) => some (if t then evO e a else evO e b) | _ => none := rfl
theorem q_build (P : Program) (H : Heap) (e : Env) (t : TypeId) (parts : Array (Nat × Operand)) : qV P H (.build t parts) e = buildV P t (parts.toList.map fun p => (p.1, evO e p.2)) := rfl
theorem q_nilCheck (P : Program) (H : Heap) (e : Env) (x : Operand) : qV P H (.nilCheck x) e = popV P (.nilCheck x) (evO e) := rfl
theorem q_convert (P : Program) (H : Heap) (e : Env) (s d : TypeId) (x : Operand) : qV P H (.convert s d x) e = convV P s d (evO e x) := rfl
theorem q_makeFunc (P : Program) (H : Heap) (e : Env) (f : FuncId) (c : Array Operand) : qV P H (.makeFunc (.func f) #[] c) e = some (.clo f (c.toList.map (evO e))) := rfl
theorem q_slice (P : Program) (H : Heap) (e : Env) (t : TypeId) (x : Operand) (lo hi : Option Operand) : qV P H (.slice t x lo hi none) e = sliceV P t (evO e x) (lo.map (evO e)) (hi.map (evO e)) := rfl
theorem q_fieldAddr (P : Program) (H : Heap) (e : Env) (s : TypeId) (x : Operand) (f : Nat) : qV P H (.fieldAddr s x f) e = fieldAddrV P s (evO e x) f := rfl
theorem q_field (P : Program) (H : Heap) (e : Env) (s : TypeId) (x : Operand) (f : Nat) : qV P H (.field s x f) e = fieldV P s (evO e x) f := rfl
theorem q_indexAddr (P : Program) (H : Heap) (e : Env) (t : TypeId) (x i : Operand) : qV P H (.indexAddr t x i) e = indexAddrV P t (evO e x) (evO e i) := rfl
theorem q_index (P : Program) (H : Heap) (e : Env) (t : TypeId) (x i : Operand) : qV P H (.index t x i) e = indexV P t (evO e x) (evO e i) := rfl
theorem q_extract (P : Program) (H : Heap) (e : Env) (t : Operand) (i : Nat) : qV P H (.extract t i) e = match evO e t with | .tup l => l[i]? | _ => none := rfl
theorem q_len (P : Program) (H : Heap) (e : Env) (x : Operand) (t : TypeId) : qV P H (.call ⟨.builtin .len, #[x], #[t]⟩) e = lenV (tyOf P t) (evO e x) := rfl
theorem q_max (P : Program) (H : Heap) (e : Env) (x y : Operand) (ts : Array TypeId) : qV P H (.call ⟨.builtin .max, #[x, y], ts⟩) e = max2 (evO e x) (evO e y) := pop_max2 e P x y ts
theorem q_min (P : Program) (H : Heap) (e : Env) (x y : Operand) (ts : Array TypeId) : qV P H (.call ⟨.builtin .min, #[x, y], ts⟩) e = min2 (evO e x) (evO e y) := pop_min2 e P x y ts
/-- Does this operation only read? -/
def isQ : Op → Bool
  | .load .. | .move _ | .assign _ | .pick .. | .build .. | .nilCheck _ | .binOp .. | .unOp .. | .convert .. | .makeFunc .. | .slice .. | .fieldAddr .. | .field .. | .indexAddr .. | .index .. | .extract .. => true
  | .call { callee := .builtin .len, args := _, argTypes := _ } | .call { callee := .builtin .max, args := _, argTypes := _ } | .call { callee := .builtin .min, args := _, argTypes := _ } => true
  | _ => false

theorem opP_q {K : AV → Heap → Prop} (hq : isQ op = true) {r : AV} (h : qV S.P H op e = some r) (hk : K r H) : opP S lim op e H K := by
  unfold isQ at hq
  split at hq <;> first | (cases hq; done) | skip
  all_goals first
    | (simp only [qV] at h; simp only [opP, h, optP]; exact hk)
    | (simp only [qV, popV] at h; simp only [opP, h]; exact hk)
    | (simp only [qV, popV, Option.some.injEq] at h; subst h; exact hk)

theorem takeV_q {P : Program} (hq : isQ op = true) {r : AV} (h : qV P H op e = some r) : takeV P op e H = some r := by
  unfold isQ at hq
  split at hq <;> first | (cases hq; done) | skip
  all_goals simpa [takeV, isLoad, callV, qV, popV] using h
theorem Lp_cons {ops : Array Oper} {l : List Oper} {R : List Nat} {K : Env → List Nat → Prop} (o : Oper) : Lp S ops H K (o :: l) e R = guardP ops e o (optP (takeV S.P o.op e H) fun x => Lp S ops H K l (e.put o.dst x) (rdV o.op e ++ R)) (Lp S ops H K l (e.put o.dst (.v undef)) R) := rfl
theorem L_q {ops : Array Oper} {l : List Oper} {R R' : List Nat} {K : Env → List Nat → Prop} (hq : isQ op = true) {r : AV} (h : qV S.P H op e = some r) (hr : rdV op e ++ R = R') (hk : Lp S ops H K l (e.put d r) R') : Lp S ops H K (⟨d, op, ty, pos, af, none⟩ :: l) e R := by
  subst hr
  rw [Lp_cons, guardP_free, takeV_q hq h]; exact hk
theorem L_nil {ops : Array Oper} {R : List Nat} {K : Env → List Nat → Prop} (hk : K e R) : Lp S ops H K [] e R := hk
theorem M_nil {ops : Array Oper} {R : List Nat} {K : Env → Heap → Prop} (hk : K e H) : Mp S lim ops R K [] e H := hk
theorem M_step {ops : Array Oper} {R : List Nat} {K : Env → Heap → Prop} {o : Oper} {l : List Oper} (hc : wrC R o e = true) (h : Rp S lim ops [o] e H fun e' H' => Mp S lim ops R K l e' H') : Mp S lim ops R K (o :: l) e H := ⟨hc, h⟩
theorem R_end {K : Env → Heap → Prop} (hk : K e H) : Rp S lim ops [] e H K := hk
theorem R_q (hq : isQ op = true) {r : AV} (h : qV S.P H op e = some r) (hk : Rp S lim ops l (e.put d r) H K) : Rp S lim ops (⟨d, op, ty, pos, af, none⟩ :: l) e H K := by rw [Rp_cons, guardP_free]; exact opP_q hq h hk
theorem R_nil {Q : Ex → St → Prop} {loc loc' : Env} (h : trim e loc = loc') (hk : Q .normal ⟨loc', H⟩) : Rp S lim ops [] e H fun e H => Q .normal ⟨trim e loc, H⟩ := by
  show Q .normal ⟨trim e loc, H⟩
  rw [h]; exact hk
theorem R_call {f : FuncId} {args : Array Operand} {ts : Array TypeId} {vs : List AV} (h : args.toList.map (evO e) = vs) (hk : ACall S lim f vs H fun x H' => Rp S lim ops l (e.put d x) H' K) :
    Rp S lim ops (⟨d, .call ⟨.value (.func f), args, ts⟩, ty, pos, af, none⟩ :: l) e H K := by
  rw [Rp_cons, guardP_free, opP_call, h]; exact hk
theorem R_alloc {t : TypeId} {z : List Value} (hz : (tyOf S.P t).bind (fun ty => ty.zero) = some z) {n : Nat} (hn : H.length = n) {H' : Heap} (hH : H ++ [some (z.map .v)] = H') (hk : Rp S lim ops l (e.put d (.ptr n 0)) H' K) : Rp S lim ops (⟨d, .alloc t, ty, pos, af, none⟩ :: l) e H K := by
  subst hn; subst hH
  rw [Rp_cons, guardP_free, opP_alloc, hz]; exact hk
theorem R_box {t : TypeId} {x : Operand} {c : List AV} (ht : (tyOf S.P t).isSome = true) (hc : cellsOf (evO e x) = some c) {n : Nat} (hn : H.length = n) {H' : Heap} (hH : H ++ [some c] = H') (hk : Rp S lim ops l (e.put d (.ptr n 0)) H' K) : Rp S lim ops (⟨d, .box t x, ty, pos, af, none⟩ :: l) e H K := by
  subst hn; subst hH
  rw [Rp_cons, guardP_free, opP_box, hc]
  cases h : tyOf S.P t with
  | none => rw [h] at ht; cases ht
  | some ty => exact hk
theorem R_store {t : TypeId} {tyy : Ty} {a x : Operand} {b o : Nat} {c : List AV} {k : Blk} (ht : tyOf S.P t = some tyy) (ha : evO e a = .ptr b o) (hc : cellsOf (evO e x) = some c) (hb : hget H b = some k) (hl : lim ≤ b ∧ c.length = tyy.size ∧ o + tyy.size ≤ k.length) {k' : Blk} (hk' : setL k o c = k') {H' : Heap} (hH : hset H b (some k') = H') (hk : Rp S lim ops l (e.put d (.v undef)) H' K) :
    Rp S lim ops (⟨d, .store t a x, ty, pos, af, none⟩ :: l) e H K := by
  subst hk'; subst hH
  rw [Rp_cons, guardP_free, opP_store, ht, optP_some, ha, hc, storeP_ptr, hb, optP_some]
  exact ⟨hl, hk⟩
theorem R_append {x y : Operand} {t : TypeId} {r : AV} {H' : Heap} (h : appendV S.P lim H t (evO e x) (evO e y) = some (r, H')) (hk : Rp S lim ops l (e.put d r) H' K) : Rp S lim ops (⟨d, .call ⟨.builtin .append, #[x, y], #[t, t]⟩, ty, pos, af, none⟩ :: l) e H K := by
  rw [Rp_cons, guardP_free, opP_append, h]; exact hk
theorem R_buildSlice {t : TypeId} {n : Nat} {parts : Array (Nat × Operand)} {r : AV} {H' : Heap} (h : effV S.P lim (.buildSlice t n parts) (evO e) H = some (r, H')) (hk : Rp S lim ops l (e.put d r) H' K) : Rp S lim ops (⟨d, .buildSlice t n parts, ty, pos, af, none⟩ :: l) e H K := by
  rw [Rp_cons, guardP_free, opP_buildSlice, h]; exact hk
theorem R_makeSlice {t : TypeId} {n c : Operand} {r : AV} {H' : Heap} (h : effV S.P lim (.makeSlice t n c) (evO e) H = some (r, H')) (hk : Rp S lim ops l (e.put d r) H' K) : Rp S lim ops (⟨d, .makeSlice t n c, ty, pos, af, none⟩ :: l) e H K := by
  rw [Rp_cons, guardP_free, opP_makeSlice, h]; exact hk
theorem R_yes {j t : Nat} {want : Bool} {b : Bool} (hj : (ops[j]?).bind (·.dst) = some t) (hb : e.get t = .v (.bool b)) (h : b = want) (hy : Rp S lim ops (⟨d, op, ty, pos, af, none⟩ :: l) e H K) : Rp S lim ops (⟨d, op, ty, pos, af, some (j, want)⟩ :: l) e H K := by
  rw [Rp_cons, guardP_on ops e d op ty pos af j want _ _ hj, hb]
  rw [Rp_cons, guardP_free] at hy
  subst h
  exact ⟨fun _ => hy, fun h => (by cases b <;> cases h)⟩
theorem R_no {j t : Nat} {want : Bool} {b : Bool} (hj : (ops[j]?).bind (·.dst) = some t) (hb : e.get t = .v (.bool b)) (h : b = !want) (hy : Rp S lim ops l (e.put d (.v undef)) H K) : Rp S lim ops (⟨d, op, ty, pos, af, some (j, want)⟩ :: l) e H K := by
  rw [Rp_cons, guardP_on ops e d op ty pos af j want _ _ hj, hb]
  subst h
  exact ⟨fun h => (by cases want <;> cases h), fun _ => hy⟩
theorem R_un {j t : Nat} {want : Bool} (hj : (ops[j]?).bind (·.dst) = some t) (hb : e.get t = .v undef) (hy : Rp S lim ops l (e.put d (.v undef)) H K) : Rp S lim ops (⟨d, op, ty, pos, af, some (j, want)⟩ :: l) e H K := by
  rw [Rp_cons, guardP_on ops e d op ty pos af j want _ _ hj, hb]
  exact hy
end

/-! ### The same where the order is drawn -/
section
variable {ops : Array Oper} {l : List Oper} {e : Env} {H : Heap} {K : Env → Prop} {d : Option Tmp} {op : Op} {ty : TypeId} {pos : String} {af : Array Edge}
theorem Qp_cons (o : Oper) : Qp S ops (o :: l) e H K = guardP ops e o (opQ S o.op e H fun x => Qp S ops l (e.put o.dst x) H K) (Qp S ops l (e.put o.dst (.v undef)) H K) := rfl
theorem opQ_q {K : AV → Prop} (hq : isQ op = true) {r : AV} (h : qV S.P H op e = some r) (hk : K r) : opQ S op e H K := by
  unfold isQ at hq
  split at hq <;> first | (cases hq; done) | skip
  all_goals first
    | (simp only [qV] at h; simp only [opQ, h, optP]; exact hk)
    | (simp only [qV, popV, Option.some.injEq] at h; subst h; exact hk)
theorem Q_q (hq : isQ op = true) {r : AV} (h : qV S.P H op e = some r) (hk : Qp S ops l (e.put d r) H K) : Qp S ops (⟨d, op, ty, pos, af, none⟩ :: l) e H K := by rw [Qp_cons, guardP_free]; exact opQ_q hq h hk
theorem Q_nil (hk : K e) : Qp S ops [] e H K := hk
theorem Q_call {f : FuncId} {args : Array Operand} {ts : Array TypeId} {vs : List AV} (hp : S.own f = false) (h : args.toList.map (evO e) = vs) (hk : ACall S H.length f vs H fun x _ => exacts x = true ∧ Qp S ops l (e.put d x) H K) :
    Qp S ops (⟨d, .call ⟨.value (.func f), args, ts⟩, ty, pos, af, none⟩ :: l) e H K := by
  rw [Qp_cons, guardP_free]
  refine ⟨by simp [Sig.pure, hp], ?_⟩
  simp only [List.append_nil, h]
  exact hk
theorem Q_yes {j t : Nat} {want : Bool} {b : Bool} (hj : (ops[j]?).bind (·.dst) = some t) (hb : e.get t = .v (.bool b)) (h : b = want) (hy : Qp S ops (⟨d, op, ty, pos, af, none⟩ :: l) e H K) : Qp S ops (⟨d, op, ty, pos, af, some (j, want)⟩ :: l) e H K := by
  rw [Qp_cons, guardP_on ops e d op ty pos af j want _ _ hj, hb]
  rw [Qp_cons, guardP_free] at hy
  subst h
  exact ⟨fun _ => hy, fun h => (by cases b <;> cases h)⟩
theorem Q_no {j t : Nat} {want : Bool} {b : Bool} (hj : (ops[j]?).bind (·.dst) = some t) (hb : e.get t = .v (.bool b)) (h : b = !want) (hy : Qp S ops l (e.put d (.v undef)) H K) : Qp S ops (⟨d, op, ty, pos, af, some (j, want)⟩ :: l) e H K := by
  rw [Qp_cons, guardP_on ops e d op ty pos af j want _ _ hj, hb]
  subst h
  exact ⟨fun h => (by cases want <;> cases h), fun _ => hy⟩
end

/-! ### Loops and ends -/
def upd (loc : Env) (kv : Env) : Env := loc.map fun p => (p.1, Env.getD kv p.1 p.2)
section
variable {lim : Nat} {dr : List (Nat × Draw)} {loc : Env} {H : Heap} {Q : Ex → St → Prop} {c : Code} {p : List Nat}
/-- A loop: kv is what the slots that change hold at a round's head, J what is known of them and of the memory there, m a number that every round lowers. -/
theorem loop_n (h : at' c p = .loop (at' c (0 :: p))) (J : Nat → Env → Heap → Prop) {m : Nat} {kv : Env} (hJ : J m kv H) (h0 : upd loc kv = loc)
    (round : ∀ m kv H, J m kv H → W S lim dr (at' c (0 :: p)) ⟨upd loc kv, H⟩ (thenQ (fun s' => ∃ m' kv', J m' kv' s'.H ∧ s'.loc = upd loc kv' ∧ m' < m) Q)) : W S lim dr (at' c p) ⟨loc, H⟩ Q := by
  have key : ∀ m kv H, J m kv H → W S lim dr (.loop (at' c (0 :: p))) ⟨upd loc kv, H⟩ Q := by
    intro m
    induction m using Nat.strongRecOn with
    | _ m ih =>
      intro kv H hI
      refine W_loop (W_mono (round m kv H hI) fun e s' h => ?_)
      cases e with
      | normal =>
        obtain ⟨m', kv', h1, h2, h3⟩ := h
        obtain ⟨l', H'⟩ := s'
        have h2' : l' = upd loc kv' := h2
        subst h2'
        exact ih m' h3 kv' H' h1
      | exit id => exact h
      | ret => exact h
  rw [h]
  have := key _ kv H hJ
  rwa [h0] at this
theorem then_x {N : St → Prop} {s : St} {i : Nat} (h : Q (.exit i) s) : thenQ N Q (.exit i) s := h
theorem then_r {N : St → Prop} {s : St} (h : Q .ret s) : thenQ N Q .ret s := h
theorem blk_n {s : St} {i : Nat} (h : Q .normal s) : blockQ i Q .normal s := h
theorem blk_r {s : St} {i : Nat} (h : Q .ret s) : blockQ i Q .ret s := h
theorem blk_x {s : St} {i : Nat} (h : Q .normal s) : blockQ i Q (.exit i) s := by simp only [blockQ, if_true]; exact h
theorem blk_p {s : St} {i j : Nat} (hij : j ≠ i) (h : Q (.exit j) s) : blockQ i Q (.exit j) s := by simp only [blockQ, if_neg hij]; exact h
theorem Rp_split {ops : Array Oper} {l : List Oper} {e : Env} {K : Env → Heap → Prop} {t : Nat} {b : Bool} (h1 : b = true → Rp S lim ops l ((t, .v (.bool true)) :: e) H K) (h2 : b = false → Rp S lim ops l ((t, .v (.bool false)) :: e) H K) :
    Rp S lim ops l (Env.put e (some t) (.v (.bool b))) H K := by
  cases b with
  | true => exact h1 rfl
  | false => exact h2 rfl
theorem Qp_split {ops : Array Oper} {l : List Oper} {e : Env} {K : Env → Prop} {t : Nat} {b : Bool} (h1 : b = true → Qp S ops l ((t, .v (.bool true)) :: e) H K) (h2 : b = false → Qp S ops l ((t, .v (.bool false)) :: e) H K) :
    Qp S ops l (Env.put e (some t) (.v (.bool b))) H K := by
  cases b with
  | true => exact h1 rfl
  | false => exact h2 rfl
theorem rg {id : Nat} {ops : Array Oper} (h : at' c p = .region id ops false) (hw : Rp S lim ops ops.toList loc H fun e H => Q .normal ⟨trim e loc, H⟩) : W S lim dr (at' c p) ⟨loc, H⟩ Q := at_region h hw
theorem rd {id n : Nat} {ops : Array Oper} (h : at' c p = .region id ops true) (hd : dr.lookup id = some (.quiet n))
    (hw : Qp S ops (ops.toList.take n) loc H fun e => Rp S lim ops (ops.toList.drop n) e H fun e H => Q .normal ⟨trim e loc, H⟩) : W S lim dr (at' c p) ⟨loc, H⟩ Q := at_draw h hd hw
theorem rl {id : Nat} {ops : Array Oper} {lead m fin live keep : List Nat} (h : at' c p = .region id ops true) (hd : dr.lookup id = some (.led lead [m] fin live keep))
    (hw : Lp S ops H (fun e R => Mp S lim ops R (fun e1 H1 => Rp S lim ops (pick ops fin) e1 H1 fun e' H' => Q .normal ⟨trim e' loc, H'⟩) (pick ops m) e H) (pick ops lead) loc []) : W S lim dr (at' c p) ⟨loc, H⟩ Q := at_led h hd hw
theorem cd {o : Operand} {t : Bool} (h : at' c p = .cond o (at' c (0 :: p)) (at' c (1 :: p))) (hc : evO loc o = .v (.bool t)) (h1 : t = true → W S lim dr (at' c (0 :: p)) ⟨loc, H⟩ Q) (h2 : t = false → W S lim dr (at' c (1 :: p)) ⟨loc, H⟩ Q) : W S lim dr (at' c p) ⟨loc, H⟩ Q := at_cond h hc h1 h2
theorem cd_t {o : Operand} (h : at' c p = .cond o (at' c (0 :: p)) (at' c (1 :: p))) (hc : evO loc o = .v (.bool true)) (h1 : W S lim dr (at' c (0 :: p)) ⟨loc, H⟩ Q) : W S lim dr (at' c p) ⟨loc, H⟩ Q := at_cond h hc (fun _ => h1) (fun h => nomatch h)
theorem cd_f {o : Operand} (h : at' c p = .cond o (at' c (0 :: p)) (at' c (1 :: p))) (hc : evO loc o = .v (.bool false)) (h1 : W S lim dr (at' c (1 :: p)) ⟨loc, H⟩ Q) : W S lim dr (at' c p) ⟨loc, H⟩ Q := at_cond h hc (fun h => nomatch h) (fun _ => h1)
theorem then_n {N : St → Prop} {s : St} (h : N s) : thenQ N Q .normal s := h
/-- The state spelled out. -/
theorem W_to {loc' : Env} (h : loc = loc') (hw : W S lim dr (at' c p) ⟨loc', H⟩ Q) : W S lim dr (at' c p) ⟨loc, H⟩ Q := by subst h; exact hw
/-- Ways that meet again: what holds of the state behind the left part. -/
theorem seq_cut {s : St} (h : at' c p = .seq (at' c (0 :: p)) (at' c (1 :: p))) (M : St → Prop) (h1 : W S lim dr (at' c (0 :: p)) s (thenQ M Q)) (h2 : ∀ s', M s' → W S lim dr (at' c (1 :: p)) s' Q) : W S lim dr (at' c p) s Q := by
  refine at_seq h (W_mono h1 fun e s' hm => ?_)
  cases e with
  | normal => exact h2 s' hm
  | exit id => exact hm
  | ret => exact hm
theorem fin_pure {fa : FnA} {H0 : Heap} {K : AV → Heap → Prop} {s : St} {rs : List ResultVar} (hrs : fa.fn.results.toList = rs) {l : List AV} (hl : resAll S.P s.loc s.H rs = some l) {v : AV} (hv : frz s.H H0.length 8 (oneOr l) = v) (hk : K v H0) : retP S false fa H0 K .ret s := by
  rw [ret_ret, hrs, hl, optP_some]
  simp only [Bool.false_eq_true, if_false]
  rw [hv]; exact hk
theorem fin_own {fa : FnA} {H0 : Heap} {K : AV → Heap → Prop} {s : St} {rs : List ResultVar} (hrs : fa.fn.results.toList = rs) {l : List AV} (hl : resAll S.P s.loc s.H rs = some l) (hk : K (oneOr l) s.H) : retP S true fa H0 K .ret s := by
  rw [ret_ret, hrs, hl, optP_some]
  simp only [if_true]
  exact hk
theorem fin_own_n {fa : FnA} {H0 : Heap} {K : AV → Heap → Prop} {s : St} {rs : List ResultVar} (hrs : fa.fn.results.toList = rs) {l : List AV} (hl : resAll S.P s.loc s.H rs = some l) (hk : K (oneOr l) s.H) : retP S true fa H0 K .normal s := fin_own hrs hl hk
theorem ACall_eq {f : FuncId} {vs : List AV} {K : AV → Heap → Prop} {v : AV} (h : ACall S lim f vs H fun r H' => r = v ∧ H' = H) (hk : K v H) : ACall S lim f vs H K :=
  ACall_mono h fun r H' ⟨h1, h2⟩ => by rw [h1, h2]; exact hk
end
end
end Go.Am
end
section
namespace Go.Am
open Go
attribute [go_sem] get_cons get_nil getD_cons getD_nil put_some put_none ev_tmp ev_int ev_bool ev_str ev_nil ev_func ev_agg max2_int min2_int bin_add bin_sub bin_mul bin_eql bin_neq bin_lss bin_leq bin_gtr bin_geq un_not un_neg q_load q_move q_assign q_binOp q_unOp q_pick q_build q_nilCheck q_convert q_makeFunc q_slice q_fieldAddr q_field q_indexAddr q_index q_extract q_len q_max q_min hget_app hset_app frz_v frz_tup frz_agg frz_sl res_nil res_tmp res_cell one_one one_two cells_sl cells_own cells_ptr cells_clo cells_agg st_v st_int st_bool st_string st_slice st_sl st_own st_ptr st_clo
/-- What a list holds at a place. -/
def gt {α : Type} [Inhabited α] (l : List α) (i : Nat) : α := l.getD i default
theorem gt_eq {α : Type} [Inhabited α] (l : List α) (i : Nat) (h : i < l.length) : gt l i = l[i] := by simp [gt, List.getD_eq_getElem?_getD, h]
theorem all_step {P : Nat → Prop} {u : Nat} (h : ∀ i, i < u → P i) (hu : P u) : ∀ i, i < u + 1 → P i := by
  intro i hi
  by_cases h1 : i < u
  · exact h i h1
  · have : i = u := by omega
    subst this; exact hu
theorem gt_set {α : Type} [Inhabited α] (l : List α) (i j : Nat) (x : α) (h : i < l.length) : gt (l.set i x) j = if i = j then x else gt l j := by
  simp only [gt, List.getD_eq_getElem?_getD, List.getElem?_set]
  by_cases hij : i = j
  · subst hij; simp [h]
  · simp [hij]
theorem ext_gt {α : Type} [Inhabited α] {l m : List α} (h : l.length = m.length) (hg : ∀ i, i < l.length → gt l i = gt m i) : l = m := by
  apply List.ext_getElem h
  intro i h1 h2
  rw [← gt_eq l i h1, ← gt_eq m i h2]; exact hg i h1
theorem drop_gt {α : Type} [Inhabited α] (l : List α) (i : Nat) (h : i < l.length) : l.drop i = gt l i :: l.drop (i + 1) := by rw [gt_eq l i h]; exact List.drop_eq_getElem_cons h
section
variable (P : Program)
theorem bin_rem' (t : TypeId) (k : IntKind) (a b : Int) (h : 0 ≤ a) (hb : 0 < b) : binV P .rem t (.v (.int k a)) (.v (.int k b)) = some (.v (.int k (a % b))) := by
  rw [bin_rem, if_neg (by omega), Int.tmod_eq_emod_of_nonneg h]
theorem wr_i64 (n : Int) (h : -9223372036854775808 ≤ n) (h' : n ≤ 9223372036854775807) : IntKind.i64.wrap n = n := wrap_i64 n ⟨h, h'⟩
theorem nat_get {α : Type} [Inhabited α] (f : α → AV) (l : List α) (i : Nat) (h : i < l.length) : (l.map f)[i]? = some (f (gt l i)) := by
  simp [gt, List.getD_eq_getElem?_getD, h]
theorem hget_low (H X : Heap) (b : Nat) (h : b < H.length) : hget (H ++ X) b = hget H b := by simp [hget, List.getElem?_append_left h]
theorem hset_low (H X : Heap) (b : Nat) (x : Option Blk) (h : b < H.length) : hset (H ++ X) b x = hset H b x ++ X := by simp [hset, List.set_append_left _ _ h]
theorem setL_one (l : List AV) (o : Nat) (x : AV) : setL l o [x] = l.set o x := rfl
theorem hget_lt {H : Heap} {b : Nat} {k : Blk} (h : hget H b = some k) : b < H.length := by
  by_cases hb : b < H.length
  · exact hb
  · rw [hget, List.getElem?_eq_none (by omega)] at h; cases h
theorem take1 {α : Type} (a : α) (l : List α) : (a :: l).take 1 = [a] := rfl
theorem toNat_nat (u : Nat) : Int.toNat (u : Int) = u := rfl
theorem toNat_succ (u : Nat) : Int.toNat ((u : Int) + 1) = u + 1 := rfl
theorem toNat_zero : Int.toNat 0 = 0 := rfl
theorem opt_one {α β : Type} (x : α) (f : α → β) : Option.map f (some x) = some (f x) := rfl
theorem cells_i (k : IntKind) (n : Int) : cellsOf (.v (.int k n)) = some [.v (.int k n)] := rfl
theorem cells_b (b : Bool) : cellsOf (.v (.bool b)) = some [.v (.bool b)] := rfl
theorem cells_n : cellsOf (.v (.slice none 0 0)) = some [.v (.slice none 0 0)] := rfl
end
attribute [go_sem] bin_rem' wr_i64 toNat_nat toNat_succ toNat_zero Nat.mul_one Nat.zero_add Nat.add_zero Nat.one_mul opt_one cells_i cells_b cells_n take1 Option.bind_some Bool.not_true Bool.not_false nat_get hget_low hset_low setL_one List.set_cons_zero List.set_cons_succ List.getElem?_cons_zero List.getElem?_cons_succ List.length_map List.all_cons List.all_nil Bool.and_true Bool.and_self List.map_cons List.map_nil List.drop_zero List.length_cons List.length_nil
end Go.Am
namespace Go.Am
open Go
/-! ### The steps with their side goals filled in -/
section
variable {S : Sig} {lim : Nat} {ops : Array Oper} {l : List Oper} {e : Env} {H : Heap} {d : Option Tmp} {op : Op} {ty : TypeId} {pos : String} {af : Array Edge}
theorem Rq {K : Env → Heap → Prop} {r : AV} (hk : Rp S lim ops l (e.put d r) H K) (hq : isQ op = true := by rfl)
    (h : qV S.P H op e = some r := by simp (disch := first | omega | (simp only [List.length_map, List.length_append, List.length_set, List.length_cons, List.length_nil, List.length_take, List.length_drop]; omega)) only [go_sem, ↓reduceIte, Nat.reduceEqDiff, reduceCtorEq] <;> rfl) :
    Rp S lim ops (⟨d, op, ty, pos, af, none⟩ :: l) e H K := R_q hq h hk
theorem Qq {K : Env → Prop} {r : AV} (hk : Qp S ops l (e.put d r) H K) (hq : isQ op = true := by rfl)
    (h : qV S.P H op e = some r := by simp (disch := first | omega | (simp only [List.length_map, List.length_append, List.length_set, List.length_cons, List.length_nil, List.length_take, List.length_drop]; omega)) only [go_sem, ↓reduceIte, Nat.reduceEqDiff, reduceCtorEq] <;> rfl) :
    Qp S ops (⟨d, op, ty, pos, af, none⟩ :: l) e H K := Q_q hq h hk
theorem Lq {R R' : List Nat} {K : Env → List Nat → Prop} {r : AV} (hk : Lp S ops H K l (e.put d r) R') (hq : isQ op = true := by rfl)
    (h : qV S.P H op e = some r := by simp (disch := first | omega | (simp only [List.length_map, List.length_append, List.length_set, List.length_cons, List.length_nil, List.length_take, List.length_drop]; omega)) only [go_sem, ↓reduceIte, Nat.reduceEqDiff, reduceCtorEq] <;> rfl) (hr : rdV op e ++ R = R' := by rfl) :
    Lp S ops H K (⟨d, op, ty, pos, af, none⟩ :: l) e R := L_q hq h hr hk
theorem Ms {R : List Nat} {K : Env → Heap → Prop} {o : Oper} {l : List Oper} (h : Rp S lim ops [o] e H fun e' H' => Mp S lim ops R K l e' H') (hc : wrC R o e = true := by rfl) : Mp S lim ops R K (o :: l) e H := M_step hc h
theorem Ry {K : Env → Heap → Prop} {j t : Nat} {want : Bool} (hy : Rp S lim ops (⟨d, op, ty, pos, af, none⟩ :: l) e H K) (hj : (ops[j]?).bind (·.dst) = some t := by rfl)
    (hb : e.get t = .v (.bool want) := by simp only [go_sem, ↓reduceIte, Nat.reduceEqDiff]) : Rp S lim ops (⟨d, op, ty, pos, af, some (j, want)⟩ :: l) e H K := R_yes hj hb rfl hy
theorem Rn {K : Env → Heap → Prop} {j t : Nat} {want : Bool} (hy : Rp S lim ops l (e.put d (.v undef)) H K) (hj : (ops[j]?).bind (·.dst) = some t := by rfl)
    (hb : e.get t = .v (.bool (!want)) := by simp only [go_sem, ↓reduceIte, Nat.reduceEqDiff, Bool.not_true, Bool.not_false]) : Rp S lim ops (⟨d, op, ty, pos, af, some (j, want)⟩ :: l) e H K := R_no hj hb rfl hy
theorem Ru {K : Env → Heap → Prop} {j t : Nat} {want : Bool} (hy : Rp S lim ops l (e.put d (.v undef)) H K) (hj : (ops[j]?).bind (·.dst) = some t := by rfl)
    (hb : e.get t = .v undef := by simp only [go_sem, ↓reduceIte, Nat.reduceEqDiff]) : Rp S lim ops (⟨d, op, ty, pos, af, some (j, want)⟩ :: l) e H K := R_un hj hb hy
theorem Qy {K : Env → Prop} {j t : Nat} {want : Bool} (hy : Qp S ops (⟨d, op, ty, pos, af, none⟩ :: l) e H K) (hj : (ops[j]?).bind (·.dst) = some t := by rfl)
    (hb : e.get t = .v (.bool want) := by simp only [go_sem, ↓reduceIte, Nat.reduceEqDiff]) : Qp S ops (⟨d, op, ty, pos, af, some (j, want)⟩ :: l) e H K := Q_yes hj hb rfl hy
theorem Qn {K : Env → Prop} {j t : Nat} {want : Bool} (hy : Qp S ops l (e.put d (.v undef)) H K) (hj : (ops[j]?).bind (·.dst) = some t := by rfl)
    (hb : e.get t = .v (.bool (!want)) := by simp only [go_sem, ↓reduceIte, Nat.reduceEqDiff, Bool.not_true, Bool.not_false]) : Qp S ops (⟨d, op, ty, pos, af, some (j, want)⟩ :: l) e H K := Q_no hj hb rfl hy
theorem Rcall {K : Env → Heap → Prop} {f : FuncId} {args : Array Operand} {ts : Array TypeId} {vs : List AV} (hk : ACall S lim f vs H fun x H' => Rp S lim ops l (e.put d x) H' K)
    (h : args.toList.map (evO e) = vs := by simp only [List.map_cons, List.map_nil, go_sem, ↓reduceIte, Nat.reduceEqDiff]; rfl) :
    Rp S lim ops (⟨d, .call ⟨.value (.func f), args, ts⟩, ty, pos, af, none⟩ :: l) e H K := R_call h hk
theorem Qcall {K : Env → Prop} {f : FuncId} {args : Array Operand} {ts : Array TypeId} {vs : List AV} (hk : ACall S H.length f vs H fun x _ => exacts x = true ∧ Qp S ops l (e.put d x) H K) (hp : S.own f = false := by rfl)
    (h : args.toList.map (evO e) = vs := by simp only [List.map_cons, List.map_nil, go_sem, ↓reduceIte, Nat.reduceEqDiff]; rfl) :
    Qp S ops (⟨d, .call ⟨.value (.func f), args, ts⟩, ty, pos, af, none⟩ :: l) e H K := Q_call hp h hk
variable {dr : List (Nat × Draw)} {loc : Env} {Q : Ex → St → Prop} {c : Code} {p : List Nat}
theorem cdd {o : Operand} {t : Bool} (h1 : t = true → W S lim dr (at' c (0 :: p)) ⟨loc, H⟩ Q) (h2 : t = false → W S lim dr (at' c (1 :: p)) ⟨loc, H⟩ Q) (h : at' c p = .cond o (at' c (0 :: p)) (at' c (1 :: p)) := by rfl)
    (hc : evO loc o = .v (.bool t) := by simp only [go_sem, ↓reduceIte, Nat.reduceEqDiff]; rfl) : W S lim dr (at' c p) ⟨loc, H⟩ Q := cd h hc h1 h2
theorem cdt {o : Operand} (h1 : W S lim dr (at' c (0 :: p)) ⟨loc, H⟩ Q) (h : at' c p = .cond o (at' c (0 :: p)) (at' c (1 :: p)) := by rfl) (hc : evO loc o = .v (.bool true) := by simp only [go_sem, ↓reduceIte, Nat.reduceEqDiff]) : W S lim dr (at' c p) ⟨loc, H⟩ Q := cd_t h hc h1
theorem cdf {o : Operand} (h1 : W S lim dr (at' c (1 :: p)) ⟨loc, H⟩ Q) (h : at' c p = .cond o (at' c (0 :: p)) (at' c (1 :: p)) := by rfl) (hc : evO loc o = .v (.bool false) := by simp only [go_sem, ↓reduceIte, Nat.reduceEqDiff]) : W S lim dr (at' c p) ⟨loc, H⟩ Q := cd_f h hc h1
theorem fpure {fa : FnA} {H0 : Heap} {K : AV → Heap → Prop} {s : St} {l : List AV} {v : AV} (hk : K v H0) (hl : resAll S.P s.loc s.H fa.fn.results.toList = some l := by simp only [go_sem, ↓reduceIte, Nat.reduceEqDiff]; rfl)
    (hv : frz s.H H0.length 8 (oneOr l) = v := by simp only [go_sem, ↓reduceIte, Nat.reduceEqDiff]; rfl) : retP S false fa H0 K .ret s := fin_pure rfl hl hv hk
end
end Go.Am
end
section
namespace Go.Am
open Go
/-- One block was made, the others are as they were. -/
structure MNew (H H' : Heap) (k : Blk) : Prop where
  len : H'.length = H.length + 1
  new : hget H' H.length = some k
  old : ∀ b, b < H.length → hget H' b = hget H b
/-- One block was written. -/
structure MWrote (H : Heap) (b : Nat) (H' : Heap) (k : Blk) : Prop where
  len : H'.length = H.length
  new : hget H' b = some k
  old : ∀ c, c ≠ b → hget H' c = hget H c
/-- One block was made in place of another one. -/
structure MGrew (H : Heap) (b : Nat) (H' : Heap) (k : Blk) : Prop where
  len : H'.length = H.length + 1
  new : hget H' H.length = some k
  old : ∀ c, c ≠ b → c < H.length → hget H' c = hget H c
theorem MNew.of (H : Heap) (k : Blk) : MNew H (H ++ [some k]) k := ⟨by simp, by simp [hget], fun b hb => hget_low _ _ _ hb⟩
theorem MWrote.of (H : Heap) {b : Nat} (k : Blk) (hb : b < H.length) : MWrote H b (hset H b (some k)) k :=
  ⟨by simp [hset], by simp [hget, hset, hb], fun c hc => by simp [hget, hset, Ne.symm hc]⟩
theorem MGrew.of (H : Heap) (b : Nat) (k : Blk) : MGrew H b (hset H b none ++ [some k]) k :=
  ⟨by simp [hset], by simp [hget, hset], fun c hc hl => by
    rw [hget_low _ _ _ (by simpa [hset] using hl)]
    simp [hget, hset, Ne.symm hc]⟩
theorem MGrew.ofNew {H H' : Heap} {k : Blk} (b : Nat) (h : MNew H H' k) : MGrew H b H' k := ⟨h.len, h.new, fun c _ hl => h.old c hl⟩
section
variable {S : Sig} {lim : Nat} {ops : Array Oper} {l : List Oper} {e : Env} {H : Heap} {K : Env → Heap → Prop} {d : Option Tmp} {ty : TypeId} {pos : String} {af : Array Edge}
theorem A_alloc {t : TypeId} {z : List Value} (hz : (tyOf S.P t).bind (fun ty => ty.zero) = some z) (hk : ∀ H', MNew H H' (z.map .v) → Rp S lim ops l (e.put d (.ptr H.length 0)) H' K) : Rp S lim ops (⟨d, .alloc t, ty, pos, af, none⟩ :: l) e H K :=
  R_alloc hz rfl rfl (hk _ (MNew.of _ _))
theorem A_box {t : TypeId} {x : Operand} {c : List AV} (ht : (tyOf S.P t).isSome = true) (hc : cellsOf (evO e x) = some c) (hk : ∀ H', MNew H H' c → Rp S lim ops l (e.put d (.ptr H.length 0)) H' K) : Rp S lim ops (⟨d, .box t x, ty, pos, af, none⟩ :: l) e H K :=
  R_box ht hc rfl rfl (hk _ (MNew.of _ _))
theorem A_store {t : TypeId} {tyy : Ty} {a x : Operand} {b o : Nat} {c : List AV} {k : Blk} (ht : tyOf S.P t = some tyy) (ha : evO e a = .ptr b o) (hc : cellsOf (evO e x) = some c) (hb : hget H b = some k) (hl : lim ≤ b ∧ c.length = tyy.size ∧ o + tyy.size ≤ k.length) {k' : Blk} (hk' : setL k o c = k')
    (hk : ∀ H', MWrote H b H' k' → Rp S lim ops l (e.put d (.v undef)) H' K) : Rp S lim ops (⟨d, .store t a x, ty, pos, af, none⟩ :: l) e H K :=
  R_store ht ha hc hb hl hk' rfl (hk _ (MWrote.of _ _ (hget_lt hb)))
theorem A_append {x y : Operand} {t : TypeId} {r : AV} {b : Nat} {k : Blk} (h : ∃ H', appendV S.P lim H t (evO e x) (evO e y) = some (r, H') ∧ MGrew H b H' k) (hk : ∀ H', MGrew H b H' k → Rp S lim ops l (e.put d r) H' K) :
    Rp S lim ops (⟨d, .call ⟨.builtin .append, #[x, y], #[t, t]⟩, ty, pos, af, none⟩ :: l) e H K := by
  obtain ⟨H', h1, h2⟩ := h
  exact R_append h1 (hk _ h2)
theorem A_buildSlice {t : TypeId} {n : Nat} {parts : Array (Nat × Operand)} {r : AV} {k : Blk} (h : effV S.P lim (.buildSlice t n parts) (evO e) H = some (r, H ++ [some k])) (hk : ∀ H', MNew H H' k → Rp S lim ops l (e.put d r) H' K) : Rp S lim ops (⟨d, .buildSlice t n parts, ty, pos, af, none⟩ :: l) e H K :=
  R_buildSlice h (hk _ (MNew.of _ _))
theorem A_makeSlice {t : TypeId} {n c : Operand} {r : AV} {k : Blk} (h : effV S.P lim (.makeSlice t n c) (evO e) H = some (r, H ++ [some k])) (hk : ∀ H', MNew H H' k → Rp S lim ops l (e.put d r) H' K) : Rp S lim ops (⟨d, .makeSlice t n c, ty, pos, af, none⟩ :: l) e H K :=
  R_makeSlice h (hk _ (MNew.of _ _))
theorem Rp_env {e' : Env} (h : e = e') (hk : Rp S lim ops l e' H K) : Rp S lim ops l e H K := h ▸ hk
end
theorem wrC_store {R : List Nat} {d : Option Tmp} {ty : TypeId} {pos : String} {af : Array Edge} {g : Option (Nat × Bool)} {t : TypeId} {a x : Operand} {e : Env} {b o : Nat} (h : evO e a = .ptr b o) (hb : b ∉ R) : wrC R ⟨d, .store t a x, ty, pos, af, g⟩ e = true := by
  simp only [wrC, wrV, h]
  simpa using hb
theorem rls2 {S : Sig} {lim : Nat} {dr : List (Nat × Draw)} {loc : Env} {H : Heap} {Q : Ex → St → Prop} {c : Code} {p : List Nat} {id : Nat} {ops : Array Oper} {lead m m2 fin live keep : List Nat} {ms : List (List Nat)} (h : at' c p = .region id ops true) (hd : dr.lookup id = some (.led lead (m :: m2 :: ms) fin live keep))
    (hw : Lp S ops H (fun e _ => Rp S H.length ops (pick ops m) e H (fun e1 H1 => Alts S ops live keep H.length e H e1 H1 (m2 :: ms) ∧
      Rp S lim ops (pick ops fin) (cutE ops live loc e1) (keepOnly keep H.length H1) fun e' H' => Q .normal ⟨trim e' loc, H'⟩)) (pick ops lead) loc []) : W S lim dr (at' c p) ⟨loc, H⟩ Q := by
  rw [h]
  obtain ⟨e, R, h1, hw⟩ := runLead_of_Lp _ _ _ hw
  obtain ⟨n1, e1', H1', h2, ha, hf⟩ := runOps_of_Rp _ _ _ _ hw
  obtain ⟨n2, h3⟩ := altsOK_of _ ha
  obtain ⟨n3, e3, H3, h4, hw⟩ := runOps_of_Rp _ _ _ _ hf
  refine ⟨max n1 (max n2 n3) + 1, .normal, ⟨trim e3 loc, H3⟩, ?_, hw⟩
  simp only [exec, region, if_true, hd, led, h1, runOps_mono (acall_mono S n1 (max n1 (max n2 n3) + 1) (by omega)) _ _ _ _ h2, altsOK_mono (acall_mono S n2 (max n1 (max n2 n3) + 1) (by omega)) _ h3, runOps_mono (acall_mono S n3 (max n1 (max n2 n3) + 1) (by omega)) _ _ _ _ h4, Option.map_some]
def AltsL (S : Sig) (lim : Nat) (ops : Array Oper) (R live keep : List Nat) (n0 : Nat) (e : Env) (H : Heap) (e0 : Env) (H0 : Heap) : List (List Nat) → Prop
  | [] => True
  | m :: ms => Mp S lim ops R (fun e1 H1 => SameUp n0 live keep e0 H0 e1 H1 ∧ lowEq n0 H0 H1) (pick ops m) e H ∧ AltsL S lim ops R live keep n0 e H e0 H0 ms
/-- Two blocks that are made in either order. -/
theorem two_same {H : Heap} {live : List Nat} {e0 e1 : Env} {A B : Blk} (hA : ∀ f, A.map (ren f 8) = A) (hB : ∀ f, B.map (ren f 8) = B)
    (hl : ∀ t ∈ live, (ren (rnB H.length [1, 0]) 8 (e1.get t)) = e0.get t) : SameUp H.length live [0, 1] e0 (H ++ [some A] ++ [some B]) e1 (H ++ [some B] ++ [some A]) := by
  refine ⟨[1, 0], by simp, by simp, by simp, by decide, by decide, by decide, hl, ?_⟩
  intro k hk
  simp only [List.mem_cons, List.not_mem_nil, or_false] at hk
  rcases hk with rfl | rfl
  · simp [hget, hA]
  · simp [hget, hB]
theorem two_id {H : Heap} {live : List Nat} {e0 e1 : Env} {A B : Blk} (hA : ∀ f, A.map (ren f 8) = A) (hB : ∀ f, B.map (ren f 8) = B)
    (hl : ∀ t ∈ live, (ren (rnB H.length [0, 1]) 8 (e1.get t)) = e0.get t) : SameUp H.length live [0, 1] e0 (H ++ [some A] ++ [some B]) e1 (H ++ [some A] ++ [some B]) := by
  refine ⟨[0, 1], by simp, by simp, by simp, by decide, by decide, by decide, hl, ?_⟩
  intro k hk
  simp only [List.mem_cons, List.not_mem_nil, or_false] at hk
  rcases hk with rfl | rfl
  · simp [hget, hA]
  · simp [hget, hB]
theorem keep_two (H : Heap) (A B : Option Blk) : keepOnly [0, 1] H.length (H ++ [A] ++ [B]) = H ++ [A] ++ [B] := by
  unfold keepOnly
  apply List.ext_getElem?
  intro i
  rw [List.getElem?_mapIdx]
  by_cases h : i < H.length
  · simp [h]
  · by_cases h2 : i < (H ++ [A] ++ [B]).length
    · have : i - H.length = 0 ∨ i - H.length = 1 := by simp at h2; omega
      rcases this with h3 | h3 <;> simp [h3]
    · rw [List.getElem?_eq_none (by omega)]; rfl
end Go.Am
end
section
namespace Go.Am
open Go
set_option linter.unusedSimpArgs false
set_option linter.unusedVariables false

/-- Where an abstract block lies: the block in the world's heap, the cell at which it begins, that block's size. -/
structure Loc where
  k : Nat
  base : Nat
  S : Nat

abbrev Phi := List (Option Loc)

inductive Den (φ : Phi) (I : Nat → Prop) (w : World) : AV → Value → Prop
  | any (x : Value) : Den φ I w .any x
  | v (x : Value) : Den φ I w (.v x) x
  | sl0 (l : List AV) (p : Option Addr) : Den φ I w (.sl 0 l) (.slice p 0 0)
  | sl (n : Nat) (l : List AV) (c : Nat) (a : Addr) (Y : Nat → Value) (hn : n ≤ c) (hc : c ≤ maxLen) (ha : a.spot = none) (hI : I a.block)
      (hY : ∀ (j : Nat) (x : AV), l[j]? = some x → w.cell? ⟨a.block, a.off + j, none⟩ = some (Y j)) (hD : ∀ (j : Nat) (x : AV), l[j]? = some x → Den φ I w x (Y j)) : Den φ I w (.sl n l) (.slice (some a) n c)
  | own0 (z b o : Nat) (h : φ[b]? = some none) : Den φ I w (.own z b o 0) (.slice none 0 0)
  | own (z b o n c off : Nat) (L : Loc) (h : φ[b]? = some (some L)) (hn : n ≤ c) (hc : c ≤ maxLen) (ho : c = 0 ∨ (off = L.base + o ∧ off + c * z ≤ L.S)) :
      Den φ I w (.own z b o n) (.slice (some ⟨L.k, off, none⟩) n c)
  | ptr (b o : Nat) (L : Loc) (h : φ[b]? = some (some L)) : Den φ I w (.ptr b o) (.pointer (some ⟨L.k, L.base + o, none⟩))
  | ele (l : List AV) (o : Nat) (a : Addr) (Y : Nat → Value) (ha : a.spot = none) (hI : I a.block)
      (hY : ∀ (j : Nat) (x : AV), l[j]? = some x → w.cell? ⟨a.block, a.off + j, none⟩ = some (Y j)) (hD : ∀ (j : Nat) (x : AV), l[j]? = some x → Den φ I w x (Y j)) :
      Den φ I w (.ele l o) (.pointer (some ⟨a.block, a.off + o, none⟩))
  | agg (l : List AV) (cs : Array Value) (hs : cs.size = l.length) (hD : ∀ (j : Nat) (x : AV) (y : Value), l[j]? = some x → cs[j]? = some y → Den φ I w x y) : Den φ I w (.agg l) (.agg cs)
  | tup (l : List AV) (cs : Array Value) (hs : cs.size = l.length) (hD : ∀ (j : Nat) (x : AV) (y : Value), l[j]? = some x → cs[j]? = some y → Den φ I w x y) : Den φ I w (.tup l) (.tuple cs)
  | clo (f : FuncId) (l : List AV) (cs : Array Value) (hs : cs.size = l.length) (hD : ∀ (j : Nat) (x : AV) (y : Value), l[j]? = some x → cs[j]? = some y → Den φ I w x y) :
      Den φ I w (.clo f l) (.func (.func f) #[] cs)

theorem Den.mono {φ φ' : Phi} {I I' : Nat → Prop} {w w' : World} (hp : φ <+: φ') (hI : ∀ k, I k → I' k) (hh : ∀ k, I k → w'.heap[k]? = w.heap[k]?) {x : AV} {y : Value} (h : Den φ I w x y) : Den φ' I' w' x y := by
  have pre : ∀ {b : Nat} {o : Option Loc}, φ[b]? = some o → φ'[b]? = some o := by
    intro b o hb
    obtain ⟨r, rfl⟩ := hp
    rw [List.getElem?_append_left (by have := List.getElem?_eq_some_iff.1 hb; exact this.1)]
    exact hb
  induction h with
  | any x => exact .any x
  | v x => exact .v x
  | sl0 l p => exact .sl0 l p
  | sl n l c a Y hn hc ha hIa hY hD ih =>
    exact .sl n l c a Y hn hc ha (hI _ hIa) (fun j x hj => by rw [World.cell?_of_block (w := w) (a := ⟨a.block, a.off + j, none⟩) (hh _ hIa)]; exact hY j x hj) ih
  | own0 z b o h => exact .own0 z b o (pre h)
  | own z b o n c off L h hn hc ho => exact .own z b o n c off L (pre h) hn hc ho
  | ptr b o L h => exact .ptr b o L (pre h)
  | ele l o a Y ha hIa hY hD ih =>
    exact .ele l o a Y ha (hI _ hIa) (fun j x hj => by rw [World.cell?_of_block (w := w) (a := ⟨a.block, a.off + j, none⟩) (hh _ hIa)]; exact hY j x hj) ih
  | agg l cs hs hD ih => exact .agg l cs hs ih
  | tup l cs hs hD ih => exact .tup l cs hs ih
  | clo f l cs hs hD ih => exact .clo f l cs hs ih

theorem addr_add (a : Addr) (j : Nat) (ha : a.spot = none) : a.add j = ⟨a.block, a.off + j, none⟩ := by
  unfold Addr.add
  split
  · subst_vars; cases a; simp_all
  · rfl


theorem den_v {φ : Phi} {I : Nat → Prop} {w : World} {x y : Value} (h : Den φ I w (.v x) y) : y = x := by cases h; rfl

section
variable {P : Program} {φ : Phi} {I : Nat → Prop} {w : World}

theorem tyOf_spec {t : TypeId} {ty : Ty} (h : tyOf P t = some ty) : ∃ i d, P.info? t = some i ∧ P.underlying t = some d ∧ ty = { size := i.size, bytes := i.bytes, agg := tyAgg d, k := tyK d, zero := i.zero.map fun z => z.cells.toList } := by
  unfold tyOf at h
  split at h
  · rename_i i d hi hd
    exact ⟨i, d, hi, hd, by simpa using h.symm⟩
  · cases h

theorem tyk_slice {t e : TypeId} (h : tk P t = some (.slice e)) : P.underlying t = some (.slice e) := by
  cases ht : tyOf P t with
  | none => simp [tk, kOf, ht] at h
  | some ty =>
    obtain ⟨i, d, hi, hd, rfl⟩ := tyOf_spec ht
    simp [tk, kOf, ht] at h
    cases d <;> simp [tyK] at h
    subst h; exact hd
theorem tyk_array {t e : TypeId} {n : Nat} (h : tk P t = some (.array n e)) : P.underlying t = some (.array n e) := by
  cases ht : tyOf P t with
  | none => simp [tk, kOf, ht] at h
  | some ty =>
    obtain ⟨i, d, hi, hd, rfl⟩ := tyOf_spec ht
    simp [tk, kOf, ht] at h
    cases d <;> simp [tyK] at h
    obtain ⟨rfl, rfl⟩ := h; exact hd
theorem tyk_bool {t : TypeId} (h : tk P t = some .bool) : P.underlying t = some .bool := by
  cases ht : tyOf P t with
  | none => simp [tk, kOf, ht] at h
  | some ty =>
    obtain ⟨i, d, hi, hd, rfl⟩ := tyOf_spec ht
    simp [tk, kOf, ht] at h
    cases d <;> simp [tyK] at h
    exact hd
theorem tyk_string {t : TypeId} (h : tk P t = some .string) : P.underlying t = some .string := by
  cases ht : tyOf P t with
  | none => simp [tk, kOf, ht] at h
  | some ty =>
    obtain ⟨i, d, hi, hd, rfl⟩ := tyOf_spec ht
    simp [tk, kOf, ht] at h
    cases d <;> simp [tyK] at h
    exact hd
theorem tyk_int {t : TypeId} {k : IntKind} (h : tk P t = some (.int k)) : P.underlying t = some (.int k) := by
  cases ht : tyOf P t with
  | none => simp [tk, kOf, ht] at h
  | some ty =>
    obtain ⟨i, d, hi, hd, rfl⟩ := tyOf_spec ht
    simp [tk, kOf, ht] at h
    cases d <;> simp [tyK] at h
    subst h; exact hd
theorem tyk_struct {t : TypeId} {fs : List (Nat × TypeId)} (h : tk P t = some (.struct fs)) : ∃ gs : Array Field, P.underlying t = some (.struct gs) ∧ fs = gs.toList.map fun f => (f.offset, f.type) := by
  cases ht : tyOf P t with
  | none => simp [tk, kOf, ht] at h
  | some ty =>
    obtain ⟨i, d, hi, hd, rfl⟩ := tyOf_spec ht
    simp [tk, kOf, ht] at h
    cases d <;> simp [tyK] at h
    exact ⟨_, hd, h.symm⟩

theorem run_sizeOf {t : TypeId} {ty : Ty} (h : tyOf P t = some ty) (w : World) : (sizeOf t).run P w = .ok ty.size w := by
  obtain ⟨i, d, hi, hd, rfl⟩ := tyOf_spec h
  simp [sizeOf, typeInfo, hi]
theorem run_isAgg {t : TypeId} {ty : Ty} (h : tyOf P t = some ty) (w : World) : (isAgg t).run P w = .ok ty.agg w := by
  obtain ⟨i, d, hi, hd, rfl⟩ := tyOf_spec h
  simp only [isAgg, Sem.run_bind, run_underlying hd, Result.andThen_ok]
  cases d <;> simp [tyAgg]

theorem part_sound {t : TypeId} {ty : Ty} (ht : tyOf P t = some ty) {l : List AV} {o : Nat} {r : AV} (h : partL ty l o = some r) {cs : Array Value} (hs : cs.size = l.length)
    (hD : ∀ (j : Nat) (x : AV) (y : Value), l[j]? = some x → cs[j]? = some y → Den φ I w x y) : ∃ y, (∀ w', (part t cs o).run P w' = .ok y w') ∧ Den φ I w r y := by
  unfold partL at h
  by_cases ha : ty.agg = true
  · simp only [ha, if_true] at h
    split at h
    · rename_i hl
      cases h
      refine ⟨.agg (cs.extract o (o + ty.size)), fun w' => ?_, .agg _ _ ?_ ?_⟩
      · simp [part, run_isAgg ht, ha, run_sizeOf ht]
      · simp; omega
      · intro j x y hx hy
        rw [List.getElem?_take] at hx
        split at hx
        · rename_i hj
          rw [List.getElem?_drop] at hx
          refine hD (o + j) x y hx ?_
          rw [Array.getElem?_extract] at hy
          split at hy
          · exact hy
          · cases hy
        · cases hx
    · cases h
  · simp only [ha] at h
    have hlt : o < l.length := by
      have := List.getElem?_eq_some_iff.1 h
      exact this.1
    refine ⟨cs[o]'(by omega), fun w' => ?_, hD o r _ h (by simp [hs, hlt])⟩
    have : cs[o]? = some (cs[o]'(by omega)) := by simp [hs, hlt]
    simp [part, run_isAgg ht, ha, this]

theorem scalEq_sound {t : TypeId} {x y : AV} {b : Bool} (h : scalEq (tyOf P t) x y = some b) {vx vy : Value} (hx : Den φ I w x vx) (hy : Den φ I w y vy) (d : Nat) (w' : World) :
    (Op.equalIn (d + 1) t vx vy).run P w' = .ok b w' := by
  unfold scalEq at h
  split at h
  · rename_i k a k' a' hk
    have := den_v hx; have := den_v hy; subst_vars
    split at h
    · subst_vars; cases h
      exact run_equalIn_int w' d t _ _ _ _ (tyk_int hk)
    · cases h
  · rename_i hk
    have := den_v hx; have := den_v hy; subst_vars
    cases h
    exact run_equalIn_bool' w' d t _ _ (tyk_bool hk)
  · rename_i hk
    have := den_v hx; have := den_v hy; subst_vars
    cases h
    exact run_equalIn_string w' d t _ _ (tyk_string hk)
  · cases h


theorem part_scalar {t : TypeId} {ty : Ty} (ht : tyOf P t = some ty) (ha : ty.agg = false) {cs : Array Value} {o : Nat} {y : Value} (hy : cs[o]? = some y) (w' : World) : (part t cs o).run P w' = .ok y w' := by
  simp [part, run_isAgg ht, ha, hy]

theorem scalEq_flat {t : TypeId} {x y : AV} {b : Bool} (h : scalEq (tyOf P t) x y = some b) : ∃ ty, tyOf P t = some ty ∧ ty.agg = false := by
  cases ht : tyOf P t with
  | none => simp [scalEq, kOf, ht] at h
  | some ty =>
    refine ⟨ty, rfl, ?_⟩
    obtain ⟨i, d, hi, hd, rfl⟩ := tyOf_spec ht
    simp only [scalEq, kOf, ht, Option.map_some] at h
    cases d <;> first | rfl | simp [tyK] at h

theorem fieldsEq_sound {l m : List AV} {xs ys : Array Value} (hsx : xs.size = l.length) (hsy : ys.size = m.length)
    (hx : ∀ (j : Nat) (x : AV) (y : Value), l[j]? = some x → xs[j]? = some y → Den φ I w x y) (hy : ∀ (j : Nat) (x : AV) (y : Value), m[j]? = some x → ys[j]? = some y → Den φ I w x y) (d : Nat) (w' : World) :
    ∀ (gs : List Field), (∀ f ∈ gs, f.name ≠ "_") → ∀ b, fieldsEq P l m (gs.map fun f => (f.offset, f.type)) = some b → (Op.eqFields (d + 1) xs ys gs).run P w' = .ok b w'
  | [], _, b, h => by
    simp [fieldsEq] at h
    subst h
    simp [Op.eqFields]
  | f :: gs, hn, b, h => by
    simp only [List.map_cons, fieldsEq] at h
    split at h
    · rename_i x y hlx hly
      have lx : f.offset < l.length := (List.getElem?_eq_some_iff.1 hlx).1
      have ly : f.offset < m.length := (List.getElem?_eq_some_iff.1 hly).1
      have ex : xs[f.offset]? = some (xs[f.offset]'(by omega)) := by simp [hsx, lx]
      have ey : ys[f.offset]? = some (ys[f.offset]'(by omega)) := by simp [hsy, ly]
      have hn0 : f.name ≠ "_" := hn f (by simp)
      split at h
      · rename_i hs
        obtain ⟨ty, ht, ha⟩ := scalEq_flat hs
        have ih := fieldsEq_sound hsx hsy hx hy d w' gs (fun g hg => hn g (by simp [hg])) b h
        have he := scalEq_sound hs (hx _ _ _ hlx ex) (hy _ _ _ hly ey) d w'
        simp [Op.eqFields, hn0, part_scalar ht ha ex, part_scalar ht ha ey, he, ih]
      · rename_i hs
        cases h
        obtain ⟨ty, ht, ha⟩ := scalEq_flat hs
        have he := scalEq_sound hs (hx _ _ _ hlx ex) (hy _ _ _ hly ey) d w'
        simp [Op.eqFields, hn0, part_scalar ht ha ex, part_scalar ht ha ey, he]
      · cases h
    · cases h

/-- The model's comparison of two arrays of one-cell elements, as a recursion. -/
theorem cellsEq_sound {e : TypeId} {te : Ty} (ht : tyOf P e = some te) (h1 : te.size = 1) {l m : List AV} {xs ys : Array Value} (hsx : xs.size = l.length) (hsy : ys.size = m.length)
    (hx : ∀ (j : Nat) (x : AV) (y : Value), l[j]? = some x → xs[j]? = some y → Den φ I w x y) (hy : ∀ (j : Nat) (x : AV) (y : Value), m[j]? = some x → ys[j]? = some y → Den φ I w x y) (d : Nat) (w' : World) :
    ∀ (n i : Nat) (b : Bool), cellsEq (tyOf P e) l m i n = some b →
      ((forIn (List.range' i n) ((none, ()) : Option Bool × Unit) fun i _ => do
        if (!(← Op.equalIn (d + 1) e (← part e xs (i * 1)) (← part e ys (i * 1)))) = true then pure (.done (some false, ())) else pure (.yield (none, ())) : Sem (Option Bool × Unit)).run P w') =
        .ok (if b then none else some false, ()) w'
  | 0, i, b, h => by
    simp [cellsEq] at h
    subst h
    simp
  | n + 1, i, b, h => by
    simp only [cellsEq] at h
    split at h
    · rename_i x y hlx hly
      have lx : i < l.length := (List.getElem?_eq_some_iff.1 hlx).1
      have ly : i < m.length := (List.getElem?_eq_some_iff.1 hly).1
      have ex : xs[i]? = some (xs[i]'(by omega)) := by simp [hsx, lx]
      have ey : ys[i]? = some (ys[i]'(by omega)) := by simp [hsy, ly]
      split at h
      · rename_i hs
        obtain ⟨ty, ht', ha⟩ := scalEq_flat hs
        have ih := cellsEq_sound ht h1 hsx hsy hx hy d w' n (i + 1) b h
        have he := scalEq_sound hs (hx _ _ _ hlx ex) (hy _ _ _ hly ey) d w'
        simp only [List.range'_succ, List.forIn_cons, Sem.run_bind, Nat.mul_one, part_scalar ht' ha ex, part_scalar ht' ha ey, he, Result.andThen_ok, Sem.run_ite, Bool.not_true, Bool.false_eq_true, if_false, Sem.run_pure]
        simpa using ih
      · rename_i hs
        cases h
        obtain ⟨ty, ht', ha⟩ := scalEq_flat hs
        have he := scalEq_sound hs (hx _ _ _ hlx ex) (hy _ _ _ hly ey) d w'
        simp only [List.range'_succ, List.forIn_cons, Sem.run_bind, Nat.mul_one, part_scalar ht' ha ex, part_scalar ht' ha ey, he, Result.andThen_ok, Sem.run_ite, Bool.not_false, if_true, Sem.run_pure]
        simp
      · cases h
    · cases h

theorem aggEq_sound {t : TypeId} {l m : List AV} {b : Bool} (h : aggEq P t l m = some b) {xs ys : Array Value} (hsx : xs.size = l.length) (hsy : ys.size = m.length)
    (hx : ∀ (j : Nat) (x : AV) (y : Value), l[j]? = some x → xs[j]? = some y → Den φ I w x y) (hy : ∀ (j : Nat) (x : AV) (y : Value), m[j]? = some x → ys[j]? = some y → Den φ I w x y) (d : Nat) (w' : World) :
    P.eqGuardType P.depth t = false ∧ (Op.equalIn (d + 2) t (.agg xs) (.agg ys)).run P w' = .ok b w' := by
  unfold aggEq at h
  split at h
  · cases h
  rename_i hok
  simp only [Bool.not_eq_false] at hok
  unfold eqOk at hok
  simp only [Bool.and_eq_true, Bool.not_eq_true'] at hok
  refine ⟨hok.1, ?_⟩
  split at h
  · rename_i fs hk
    obtain ⟨gs, hd, rfl⟩ := tyk_struct hk
    rw [hd] at hok
    simp only [Bool.and_eq_true, Bool.not_eq_true', Array.all_eq_true', bne_iff_ne] at hok
    have hf : P.fieldsOf t = gs := by simp [Program.fieldsOf, hd]
    rw [run_equalIn_struct w' (d + 1) t xs ys (by rw [hf]; exact hd) hok.2.1, hf]
    exact fieldsEq_sound hsx hsy hx hy d w' gs.toList (fun f hf => hok.2.2 f (by simpa using hf)) b h
  · rename_i n e hk
    split at h
    · rename_i h1
      cases ht : tyOf P e with
      | none => simp [ht] at h1
      | some te =>
        simp only [ht, Option.map_some, Option.some.injEq] at h1
        have hc := cellsEq_sound ht h1 hsx hsy hx hy d w' n 0 b h
        obtain ⟨D, hD⟩ : ∃ D, D = d + 1 := ⟨_, rfl⟩
        rw [← hD] at hc
        rw [show d + 2 = D + 1 by omega]
        clear hD
        simp only [Op.equalIn, Sem.run_bind, run_underlying (tyk_array hk), Result.andThen_ok, run_sizeOf ht, h1]
        simp only [Std.Legacy.Range.forIn_eq_forIn_range', Std.Legacy.Range.size, Nat.sub_zero, Nat.add_sub_cancel, Nat.div_one]
        rw [hc]
        cases b <;> simp
    · cases h
  · cases h

theorem run_equalIn_nil (w' : World) (d : Nat) (t e : TypeId) (ht : P.underlying t = some (.slice e)) (b : Option Addr) (n c : Nat) : (Op.equalIn (d + 1) t (.slice b n c) (.slice none 0 0)).run P w' = .ok b.isNone w' := by
  cases b <;> simp [Op.equalIn, run_underlying ht]
theorem nilB_sound {x : AV} {r : Bool} (h : nilB x = some r) {vx : Value} (hx : Den φ I w x vx) : ∃ b n c, vx = .slice b n c ∧ b.isNone = r := by
  unfold nilB at h
  split at h
  · split at h
    · cases h
      cases hx with
      | own0 => omega
      | own => exact ⟨_, _, _, rfl, rfl⟩
    · cases h
  · split at h
    · cases h
      cases hx with
      | sl0 => omega
      | sl => exact ⟨_, _, _, rfl, rfl⟩
    · cases h
  · cases h
    have := den_v hx
    subst this
    exact ⟨_, _, _, rfl, rfl⟩
  · cases h
theorem bin_sound {op : BinOp} {t : TypeId} {x y r : AV} (h : binV P op t x y = some r) {vx vy : Value} (hx : Den φ I w x vx) (hy : Den φ I w y vy) (xo yo : Operand) :
    ∃ z, (∀ w', ((do eqGuard op t xo yo vx vy; binOp op t vx vy : Sem Value)).run P w' = .ok z w') ∧ Den φ I w r z := by
  unfold binV at h
  split at h
  · rename_i k a k' b
    have := den_v hx; have := den_v hy; subst_vars
    split at h
    · simp only [shiftBin] at h
      split at h
      · cases h
      · simp only [Option.map_some, Option.some.injEq] at h
        subst h
        rename_i hb
        exact ⟨_, fun w' => by simp [eqGuard, binOp, Op.shift, hb], .v _⟩
    · simp only [shiftBin] at h
      split at h
      · cases h
      · simp only [Option.map_some, Option.some.injEq] at h
        subst h
        rename_i hb
        exact ⟨_, fun w' => by simp [eqGuard, binOp, Op.shift, hb], .v _⟩
    · split at h
      · subst_vars
        simp only [Option.map_eq_some_iff] at h
        obtain ⟨z, h1, rfl⟩ := h
        refine ⟨z, fun w' => ?_, .v _⟩
        cases op <;> simp [intBin] at h1 <;> simp_all [eqGuard, binOp, Op.intArith, Op.intDiv, Op.intBits, Op.intCmp]
      · cases h
  · rename_i a b
    have := den_v hx; have := den_v hy; subst_vars
    simp only [Option.map_eq_some_iff] at h
    obtain ⟨z, h1, rfl⟩ := h
    refine ⟨z, fun w' => ?_, .v _⟩
    cases op <;> simp [strBin] at h1 <;> simp [eqGuard, binOp, Op.stringOp] <;> first | (exact h1) | (obtain ⟨h2, rfl⟩ := h1; simp; omega) | skip
  · rename_i a b
    have := den_v hx; have := den_v hy; subst_vars
    split at h
    · rename_i hk
      cases h
      exact ⟨.bool (a == b), fun w' => by simp [eqGuard, binOp, Op.equal, Op.maxDepth, run_equalIn_bool' w' 9999 t a b (tyk_bool hk)], .v _⟩
    · rename_i hk
      cases h
      exact ⟨.bool (!(a == b)), fun w' => by simp [eqGuard, binOp, Op.equal, Op.maxDepth, run_equalIn_bool' w' 9999 t a b (tyk_bool hk)], .v _⟩
    · cases h
  · rename_i l m
    cases hx with
    | agg l xs hsx hx =>
    cases hy with
    | agg m ys hsy hy =>
    split at h
    · simp only [Option.map_eq_some_iff] at h
      obtain ⟨b, h1, rfl⟩ := h
      refine ⟨.bool b, fun w' => ?_, .v _⟩
      have := aggEq_sound h1 hsx hsy hx hy 9998 w'
      simp [run_eqGuard_agg w' .eql t xo yo xs ys this.1, run_eql_struct, this.2]
    · simp only [Option.map_eq_some_iff] at h
      obtain ⟨b, h1, rfl⟩ := h
      refine ⟨.bool (!b), fun w' => ?_, .v _⟩
      have := aggEq_sound h1 hsx hsy hx hy 9998 w'
      simp [run_eqGuard_agg w' .neq t xo yo xs ys this.1, run_neq_struct, this.2]
    · cases h
  · have hv := den_v hy
    subst hv
    split at h
    · rename_i hk
      simp only [Option.map_eq_some_iff] at h
      obtain ⟨b, h1, rfl⟩ := h
      obtain ⟨p, n, c, rfl, rfl⟩ := nilB_sound h1 hx
      exact ⟨.bool p.isNone, fun w' => by simp [eqGuard, binOp, Op.equal, Op.maxDepth, run_equalIn_nil w' 9999 t _ (tyk_slice hk)], .v _⟩
    · rename_i hk
      simp only [Option.map_eq_some_iff] at h
      obtain ⟨b, h1, rfl⟩ := h
      obtain ⟨p, n, c, rfl, rfl⟩ := nilB_sound h1 hx
      exact ⟨.bool (!p.isNone), fun w' => by simp [eqGuard, binOp, Op.equal, Op.maxDepth, run_equalIn_nil w' 9999 t _ (tyk_slice hk)], .v _⟩
    · cases h
  · cases h


theorem un_sound {op : UnOp} {x r : AV} (h : unV op x = some r) {vx : Value} (hx : Den φ I w x vx) : ∃ z, (∀ w', (Op.unary op vx).run P w' = .ok z w') ∧ Den φ I w r z := by
  unfold unV at h
  split at h
  · have := den_v hx; subst_vars; cases h
    exact ⟨_, fun w' => by simp [Op.unary], .v _⟩
  · have := den_v hx; subst_vars; cases h
    exact ⟨_, fun w' => by simp [Op.unary, Op.intArith], .v _⟩
  · have := den_v hx; subst_vars
    simp only [Option.map_eq_some_iff] at h
    obtain ⟨z, h1, rfl⟩ := h
    simp [intBin] at h1
    subst h1
    exact ⟨_, fun w' => by simp [Op.unary, Op.intBits], .v _⟩
  · cases h

theorem len_sound {t ot : TypeId} {x r : AV} (h : lenV (tyOf P t) x = some r) {vx : Value} (hx : Den φ I w x vx) : ∃ z, (∀ w', (Builtin.len_ #[t] ot #[vx]).run P w' = .ok z w') ∧ Den φ I w r z := by
  unfold lenV at h
  split at h
  · rename_i hk
    have hu := tyk_slice (P := P) (t := t) hk
    cases h
    cases hx with
    | sl0 l p => exact ⟨_, fun w' => by simp [Builtin.len_, run_underlying hu, goInt], .v _⟩
    | sl n l c a Y hn hc ha hI hY hD => exact ⟨_, fun w' => by simp [Builtin.len_, run_underlying hu, goInt], .v _⟩
  · rename_i hk
    have hu := tyk_slice (P := P) (t := t) hk
    cases h
    cases hx with
    | own0 z b o hb => exact ⟨_, fun w' => by simp [Builtin.len_, run_underlying hu, goInt], .v _⟩
    | own z b o n c off L hL hn hc ho => exact ⟨_, fun w' => by simp [Builtin.len_, run_underlying hu, goInt], .v _⟩
  · rename_i hk
    have hu := tyk_slice (P := P) (t := t) hk
    cases h
    have := den_v hx; subst_vars
    exact ⟨_, fun w' => by simp [Builtin.len_, run_underlying hu, goInt], .v _⟩
  · rename_i hk
    have hu := tyk_string (P := P) (t := t) hk
    cases h
    have := den_v hx; subst_vars
    exact ⟨_, fun w' => by simp [Builtin.len_, run_underlying hu, goInt], .v _⟩
  · rename_i n e hk
    have hu := tyk_array (P := P) (t := t) hk
    cases h
    exact ⟨_, fun w' => by simp [Builtin.len_, run_underlying hu, goInt], .v _⟩
  · cases h

theorem foldA_sound {f : AV → AV → Option AV} {g : Value → Value → Sem Value} (hfg : ∀ x y r, f x y = some r → ∀ vx vy, Den φ I w x vx → Den φ I w y vy → ∃ z, (∀ w', (g vx vy).run P w' = .ok z w') ∧ Den φ I w r z) :
    ∀ (l : List AV) (x r : AV), foldA f x l = some r → ∀ (vx : Value) (vl : List Value), Den φ I w x vx → vl.length = l.length → (∀ (j : Nat) (x : AV) (y : Value), l[j]? = some x → vl[j]? = some y → Den φ I w x y) →
      ∃ z, (∀ w', (vl.foldlM g vx).run P w' = .ok z w') ∧ Den φ I w r z
  | [], x, r, h, vx, vl, hx, hl, hd => by
    cases vl with
    | nil => simp [foldA] at h; subst h; exact ⟨vx, fun w' => by simp, hx⟩
    | cons a b => simp at hl
  | y :: l, x, r, h, vx, vl, hx, hl, hd => by
    cases vl with
    | nil => simp at hl
    | cons vy vl =>
      simp only [foldA] at h
      split at h
      · rename_i z hz
        obtain ⟨vz, h1, h2⟩ := hfg x y z hz vx vy hx (hd 0 y vy rfl rfl)
        obtain ⟨u, h3, h4⟩ := foldA_sound hfg l z r h vz vl h2 (by simpa using hl) (fun j a b ha hb => hd (j + 1) a b (by simpa using ha) (by simpa using hb))
        exact ⟨u, fun w' => by simp [h1, h3], h4⟩
      · cases h

theorem max2_sound : ∀ x y r, max2 x y = some r → ∀ vx vy, Den φ I w x vx → Den φ I w y vy → ∃ z, (∀ w', (Builtin.max2 vx vy).run P w' = .ok z w') ∧ Den φ I w r z := by
  intro x y r h vx vy hx hy
  unfold max2 at h
  split at h
  · have := den_v hx; have := den_v hy; subst_vars; cases h
    exact ⟨_, fun w' => by simp only [Builtin.max2]; rfl, .v _⟩
  · cases h
theorem min2_sound : ∀ x y r, min2 x y = some r → ∀ vx vy, Den φ I w x vx → Den φ I w y vy → ∃ z, (∀ w', (Builtin.min2 vx vy).run P w' = .ok z w') ∧ Den φ I w r z := by
  intro x y r h vx vy hx hy
  unfold min2 at h
  split at h
  · have := den_v hx; have := den_v hy; subst_vars; cases h
    exact ⟨_, fun w' => by simp only [Builtin.min2]; rfl, .v _⟩
  · cases h

theorem conv_sound {s d : TypeId} {x r : AV} (h : convV P s d x = some r) {vx : Value} (hx : Den φ I w x vx) : ∃ z, (∀ w', (convert s d vx).run P w' = .ok z w') ∧ Den φ I w r z := by
  unfold convV at h
  split at h
  · rename_i ty k k' n ht hk
    have := den_v hx; subst_vars; cases h
    obtain ⟨i, d', hi, hd, -⟩ := tyOf_spec ht
    exact ⟨_, fun w' => by simp [convert, run_underlying hd, run_underlying (tyk_int hk), Conv.intToInt], .v _⟩
  · rename_i ty s' ht hk
    have := den_v hx; subst_vars; cases h
    obtain ⟨i, d', hi, hd, -⟩ := tyOf_spec ht
    exact ⟨_, fun w' => by simp [convert, run_underlying hd, run_underlying (tyk_string hk)], .v _⟩
  · cases h

theorem str_get {s : ByteArray} {i : Nat} (h : i < s.size) : s[i]? = some (s.data[i]?.getD 0) := by
  have h' : i < s.data.size := h
  rw [getElem?_pos s i h, Array.getElem?_eq_getElem h']
  rfl

theorem index_sound {t : TypeId} {x ix r : AV} (h : indexV P t x ix = some r) {vx vi : Value} (hx : Den φ I w x vx) (hi : Den φ I w ix vi) : ∃ z, (∀ w', (Instr.index t vx vi).run P w' = .ok z w') ∧ Den φ I w r z := by
  unfold indexV at h
  split at h
  · rename_i l k i n e hk
    split at h
    · rename_i te ht
      split at h
      · rename_i hb
        have := den_v hi; subst_vars
        cases hx with
        | agg l cs hs hD =>
          obtain ⟨y, h1, h2⟩ := part_sound ht h hs hD
          exact ⟨y, fun w' => by simp [Instr.index, asIntOf, run_underlying (tyk_array hk), hb, run_sizeOf ht, h1], h2⟩
      · cases h
    · cases h
  · rename_i s k i hk
    split at h
    · rename_i hb
      have := den_v hx; have := den_v hi; subst_vars; cases h
      exact ⟨_, fun w' => by simp [Instr.index, asIntOf, run_underlying (tyk_string hk), hb.1, str_get hb.2], .v _⟩
    · cases h
  · cases h

theorem tyk_of {t : TypeId} {ty : Ty} (ht : tyOf P t = some ty) : tk P t = some ty.k := by simp [tk, kOf, ht]

theorem indexAddr_sound {t : TypeId} {x ix r : AV} (h : indexAddrV P t x ix = some r) {vx vi : Value} (hx : Den φ I w x vx) (hi : Den φ I w ix vi) : ∃ z, (∀ w', (Instr.indexAt t vx vi).run P w' = .ok z w') ∧ Den φ I w r z := by
  unfold indexAddrV at h
  split at h
  · rename_i n l k i e hk
    split at h
    · rename_i te ht
      split at h
      · rename_i hb
        have := den_v hi; subst_vars; cases h
        cases hx with
        | sl0 l p => simp at hb; omega
        | sl n l c a Y hn hc ha hI hY hD =>
          refine ⟨.pointer (some ⟨a.block, a.off + i.toNat * te.size, none⟩), fun w' => ?_, .ele l _ a Y ha hI hY hD⟩
          have e := addr_add a (i.toNat * te.size) ha
          simp [Instr.indexAt, asIntOf, run_underlying (tyk_slice hk), hb, run_sizeOf ht, e]
      · cases h
    · cases h
  · rename_i z b o n k i e hk
    split at h
    · rename_i te ht
      split at h
      · rename_i hb
        have := den_v hi; subst_vars; cases h
        cases hx with
        | own0 _ _ _ hb' => simp at hb; omega
        | own _ _ _ _ c off L hL hn hc ho =>
          have hof : off = L.base + o := by rcases ho with h0 | h0; · omega
                                            · exact h0.1
          subst hof
          refine ⟨.pointer (some ⟨L.k, L.base + (o + i.toNat * te.size), none⟩), fun w' => ?_, .ptr b _ L hL⟩
          have e := addr_add ⟨L.k, L.base + o, none⟩ (i.toNat * te.size) rfl
          simp [Instr.indexAt, asIntOf, run_underlying (tyk_slice hk), hb, run_sizeOf ht, e, Nat.add_assoc]
      · cases h
    · cases h
  · rename_i b o k i n e hk
    split at h
    · rename_i te ht
      split at h
      · rename_i hb
        have := den_v hi; subst_vars; cases h
        cases hx with
        | ptr b o L hL =>
          refine ⟨.pointer (some ⟨L.k, L.base + (o + i.toNat * te.size), none⟩), fun w' => ?_, .ptr b _ L hL⟩
          have e := addr_add ⟨L.k, L.base + o, none⟩ (i.toNat * te.size) rfl
          simp [Instr.indexAt, Instr.sureAddr, asIntOf, run_underlying (tyk_array hk), hb, run_sizeOf ht, e, Nat.add_assoc]
      · cases h
    · cases h
  · rename_i l o k i n e hk
    split at h
    · rename_i te ht
      split at h
      · rename_i hb
        have := den_v hi; subst_vars; cases h
        cases hx with
        | ele l o a Y ha hI hY hD =>
          refine ⟨.pointer (some ⟨a.block, a.off + (o + i.toNat * te.size), none⟩), fun w' => ?_, .ele l _ a Y ha hI hY hD⟩
          have e := addr_add ⟨a.block, a.off + o, none⟩ (i.toNat * te.size) rfl
          simp [Instr.indexAt, Instr.sureAddr, asIntOf, run_underlying (tyk_array hk), hb, run_sizeOf ht, e, Nat.add_assoc]
      · cases h
    · cases h
  · cases h

theorem fieldAddr_sound {s : TypeId} {x r : AV} {f : Nat} (h : fieldAddrV P s x f = some r) {vx : Value} (hx : Den φ I w x vx) : ∃ z, (∀ w', (Instr.fieldAt s vx f).run P w' = .ok z w') ∧ Den φ I w r z := by
  unfold fieldAddrV at h
  split at h
  · rename_i fs hk
    obtain ⟨gs, hu, rfl⟩ := tyk_struct hk
    split at h
    · rename_i off ft hf
      simp only [List.getElem?_map, Option.map_eq_some_iff] at hf
      obtain ⟨g, hg, he⟩ := hf
      have hg' : gs[f]? = some g := by simpa using hg
      simp at he
      obtain ⟨rfl, rfl⟩ := he
      split at h
      · cases h
      · rename_i hz
        cases ht : tyOf P g.type with
        | none => simp [ht] at hz
        | some te =>
          simp [ht] at hz
          split at h
          · cases h
            rename_i b o
            cases hx with
            | ptr _ _ L hL =>
              refine ⟨.pointer (some ⟨L.k, L.base + (o + g.offset), none⟩), fun w' => ?_, .ptr b _ L hL⟩
              have e := addr_add ⟨L.k, L.base + o, none⟩ g.offset rfl
              simp [Instr.fieldAt, run_underlying hu, hg', Instr.sureAddr, fieldPlace, run_sizeOf ht, hz, e, Nat.add_assoc]
          · cases h
            rename_i l o
            cases hx with
            | ele _ _ a Y ha hI hY hD =>
              refine ⟨.pointer (some ⟨a.block, a.off + (o + g.offset), none⟩), fun w' => ?_, .ele l _ a Y ha hI hY hD⟩
              have e := addr_add ⟨a.block, a.off + o, none⟩ g.offset rfl
              simp [Instr.fieldAt, run_underlying hu, hg', Instr.sureAddr, fieldPlace, run_sizeOf ht, hz, e, Nat.add_assoc]
          · cases h
    · cases h
  · cases h

theorem field_sound {s : TypeId} {x r : AV} {f : Nat} (h : fieldV P s x f = some r) {vx : Value} (hx : Den φ I w x vx) : ∃ z, (∀ w', (Instr.field s vx f).run P w' = .ok z w') ∧ Den φ I w r z := by
  unfold fieldV at h
  split at h
  · rename_i fs l hk
    obtain ⟨gs, hu, rfl⟩ := tyk_struct hk
    split at h
    · rename_i off ft hf
      simp only [List.getElem?_map, Option.map_eq_some_iff] at hf
      obtain ⟨g, hg, he⟩ := hf
      have hg' : gs[f]? = some g := by simpa using hg
      simp at he
      obtain ⟨rfl, rfl⟩ := he
      split at h
      · rename_i te ht
        cases hx with
        | agg l cs hs hD =>
          obtain ⟨y, h1, h2⟩ := part_sound ht h hs hD
          exact ⟨y, fun w' => by simp [Instr.field, run_underlying hu, hg', asAgg, h1], h2⟩
      · cases h
    · cases h
  · cases h


theorem bounds_run {ev : Operand → AV} {ρ : Operand → Value} (hD : ∀ x, Den φ I w (ev x) (ρ x)) (isS : Bool) (len cap : Nat) (lo hi : Option Operand) {a b : Int}
    (h1 : bound 0 (lo.map ev) = some a) (h2 : bound len (hi.map ev) = some b) (h3 : 0 ≤ a ∧ a ≤ b ∧ b ≤ len) (hc : len ≤ cap) (w' : World) :
    (Instr.sliceBounds isS len cap (lo.map ρ) (hi.map ρ) none).run P w' = .ok (a.toNat, b.toNat, cap) w' := by
  have key : ∀ (o : Option Operand) (d v : Int), bound d (o.map ev) = some v → (o = none ∧ v = d) ∨ ∃ x k, o = some x ∧ ρ x = .int k v := by
    intro o d v hb
    cases o with
    | none => simp [bound] at hb; exact .inl ⟨rfl, hb.symm⟩
    | some x =>
      simp only [Option.map_some] at hb
      unfold bound at hb
      split at hb
      · rename_i hh; cases hh
      · rename_i k i hh
        have hx := hD x
        cases hb
        simp only [Option.some.injEq] at hh
        rw [hh] at hx
        exact .inr ⟨x, k, rfl, den_v hx⟩
      · cases hb
  rcases key lo 0 a h1 with ⟨rfl, rfl⟩ | ⟨x, k, rfl, hx⟩ <;> rcases key hi len b h2 with ⟨rfl, rfl⟩ | ⟨y, k', rfl, hy⟩
  · simp [Instr.sliceBounds]
  · have : 0 ≤ b ∧ b ≤ (cap : Int) := by omega
    simp [Instr.sliceBounds, Instr.sliceBound, hy, asIntOf, this]
  · have : 0 ≤ a ∧ a ≤ (len : Int) := by omega
    simp [Instr.sliceBounds, Instr.sliceBound, hx, asIntOf, this]
  · have h4 : 0 ≤ b ∧ b ≤ (cap : Int) := by omega
    have h5 : 0 ≤ a ∧ a ≤ (b.toNat : Int) := by omega
    simp only [Instr.sliceBounds, Option.map_some, hx, hy, Instr.sliceBound, asIntOf, Sem.run_bind, Sem.run_pure, Result.andThen_ok, Sem.run_ite, h4, and_self, if_true, h5, Option.isSome_none]

theorem slice_sound {ev : Operand → AV} {ρ : Operand → Value} (hD : ∀ x, Den φ I w (ev x) (ρ x)) {t : TypeId} {x : Operand} {lo hi : Option Operand} {r : AV} (h : sliceV P t (ev x) (lo.map ev) (hi.map ev) = some r) :
    ∃ z, (∀ w', (Instr.sliceAt t (ρ x) (lo.map ρ) (hi.map ρ) none).run P w' = .ok z w') ∧ Den φ I w r z := by
  have hx := hD x
  unfold sliceV at h
  split at h
  · rename_i n l e hev hk
    split at h
    · rename_i te a b ht h1 h2
      split at h
      · rename_i h3
        cases h
        rw [hev] at hx
        generalize hvx : ρ x = vx at hx
        cases hx with
        | sl0 l p =>
          have e1 : a = 0 := by simp at h3; omega
          have e2 : b = 0 := by simp at h3; omega
          subst e1; subst e2
          have hb := fun w' => bounds_run (P := P) hD true 0 0 lo hi h1 h2 h3 (Nat.le_refl _) w'
          refine ⟨.slice p 0 0, fun w' => ?_, .sl0 _ _⟩
          simp only [Int.toNat_zero] at hb
          simp [Instr.sliceAt, run_underlying (tyk_slice hk), Instr.slice, hb, run_sizeOf ht]
        | sl n l c ad Y hn hc ha hI hY hDD =>
          have hb := fun w' => bounds_run (P := P) hD true n c lo hi h1 h2 h3 hn w'
          by_cases hca : c = a.toNat
          · have e1 : b.toNat - a.toNat = 0 := by omega
            have e2 : b = a := by omega
            rw [e1]
            subst hca; subst e2
            refine ⟨.slice (some ad) 0 0, fun w' => ?_, .sl0 _ _⟩
            simp [Instr.sliceAt, run_underlying (tyk_slice hk), Instr.slice, hb, run_sizeOf ht]
          · refine ⟨.slice (some ⟨ad.block, ad.off + a.toNat * te.size, none⟩) (b.toNat - a.toNat) (c - a.toNat), fun w' => ?_, ?_⟩
            · have e := addr_add ad (a.toNat * te.size) ha
              simp [Instr.sliceAt, run_underlying (tyk_slice hk), Instr.slice, hb, run_sizeOf ht, hca, e]
            · refine .sl _ _ _ ⟨ad.block, ad.off + a.toNat * te.size, none⟩ (fun j => Y (a.toNat * te.size + j)) (by omega) (by omega) rfl hI (fun j y hj => ?_) (fun j y hj => ?_)
              · rw [List.getElem?_drop] at hj
                have := hY _ _ hj
                simpa [Nat.add_assoc] using this
              · rw [List.getElem?_drop] at hj
                exact hDD _ _ hj
      · cases h
    · cases h
  · rename_i z k o n e hev hk
    split at h
    · rename_i te a b ht h1 h2
      split at h
      · rename_i h3
        obtain ⟨rfl, h3⟩ := h3
        cases h
        rw [hev] at hx
        generalize hvx : ρ x = vx at hx
        cases hx with
        | own0 _ _ _ hb' =>
          have e1 : a = 0 := by simp at h3; omega
          have e2 : b = 0 := by simp at h3; omega
          subst e1; subst e2
          have hb := fun w' => bounds_run (P := P) hD true 0 0 lo hi h1 h2 h3 (Nat.le_refl _) w'
          refine ⟨.slice none 0 0, fun w' => ?_, .own0 _ _ _ hb'⟩
          simp only [Int.toNat_zero] at hb
          simp [Instr.sliceAt, run_underlying (tyk_slice hk), Instr.slice, hb, run_sizeOf ht]
        | own _ _ _ _ c off L hL hn hc ho =>
          have hb := fun w' => bounds_run (P := P) hD true n c lo hi h1 h2 h3 hn w'
          by_cases hca : c = a.toNat
          · have e1 : b.toNat - a.toNat = 0 := by omega
            have e2 : b = a := by omega
            rw [e1]
            subst hca; subst e2
            refine ⟨.slice (some ⟨L.k, off, none⟩) 0 0, fun w' => ?_, .own _ _ _ _ 0 off L hL (Nat.le_refl _) (Nat.zero_le _) (.inl rfl)⟩
            simp [Instr.sliceAt, run_underlying (tyk_slice hk), Instr.slice, hb, run_sizeOf ht]
          · have ho' : off = L.base + o ∧ off + c * te.size ≤ L.S := by
              rcases ho with h0 | h0
              · omega
              · exact h0
            refine ⟨.slice (some ⟨L.k, off + a.toNat * te.size, none⟩) (b.toNat - a.toNat) (c - a.toNat), fun w' => ?_, ?_⟩
            · have e := addr_add ⟨L.k, off, none⟩ (a.toNat * te.size) rfl
              simp [Instr.sliceAt, run_underlying (tyk_slice hk), Instr.slice, hb, run_sizeOf ht, hca, e]
            · refine .own _ _ _ _ _ _ L hL (by omega) (by omega) (.inr ⟨by omega, ?_⟩)
              have : a.toNat * te.size + (c - a.toNat) * te.size = c * te.size := by rw [← Nat.add_mul]; congr 1; omega
              omega
      · cases h
    · cases h
  · rename_i s hev hk
    split at h
    · rename_i a b h1 h2
      split at h
      · rename_i h3
        cases h
        rw [hev] at hx
        have hvx := den_v hx
        have hb := fun w' => bounds_run (P := P) hD false s.size s.size lo hi h1 h2 h3 (Nat.le_refl _) w'
        exact ⟨_, fun w' => by simp [Instr.sliceAt, run_underlying (tyk_string hk), Instr.slice, hvx, hb], .v _⟩
      · cases h
    · cases h
  · rename_i e hev hk
    split at h
    · rename_i te a b ht h1 h2
      split at h
      · rename_i h3
        cases h
        rw [hev] at hx
        have hvx := den_v hx
        have e1 : a = 0 := by omega
        have e2 : b = 0 := by omega
        subst e1; subst e2
        have hb := fun w' => bounds_run (P := P) hD true 0 0 lo hi h1 h2 h3 (Nat.le_refl _) w'
        simp only [Int.toNat_zero] at hb
        exact ⟨.slice none 0 0, fun w' => by simp [Instr.sliceAt, run_underlying (tyk_slice hk), Instr.slice, hvx, hb, run_sizeOf ht], .v _⟩
      · cases h
    · cases h
  · cases h

end
end Go.Am
end
section
namespace Go.Am
open Go
def Tb (_ : World) : Prop := True
end Go.Am
end
section
set_option linter.unusedSectionVars false
namespace Go.Am
open Go
set_option linter.unusedSimpArgs false
set_option linter.unusedVariables false

def CellsOK (φ : Phi) (I : Nat → Prop) (w : World) (C : Array Value) (base : Nat) (cells : List AV) : Prop :=
  base + cells.length ≤ C.size ∧ ∀ (j : Nat) (x : AV), cells[j]? = some x → ∃ y, C[base + j]? = some y ∧ Den φ I w x y

structure Rel (lim : Nat) (φ : Phi) (I : Nat → Prop) (w : World) (H : Heap) : Prop where
  len : φ.length = H.length
  limle : lim ≤ H.length
  blk : ∀ (b : Nat) (k : Blk), hget H b = some k → (φ[b]? = some none ∧ k = []) ∨
    ∃ (L : Loc) (C : Array Value) (T : TypeId), φ[b]? = some (some L) ∧ w.heap[L.k]? = some (.cells C T (0, 0)) ∧ C.size = L.S ∧ CellsOK φ I w C L.base k
  disj : ∀ (b : Nat) (L : Loc), φ[b]? = some (some L) → ¬ I L.k ∧ L.k < w.heap.size
  inj : ∀ (b b' : Nat) (k k' : Blk) (L L' : Loc), hget H b = some k → hget H b' = some k' → φ[b]? = some (some L) → φ[b']? = some (some L') → L.k = L'.k → b = b'
  sep : ∀ (b b' : Nat) (L L' : Loc), b < lim → lim ≤ b' → φ[b]? = some (some L) → φ[b']? = some (some L') → L.k ≠ L'.k
  Ilt : ∀ k, I k → k < w.heap.size
  tab : ∀ w1 : World, (∀ k, I k → w1.heap[k]? = w.heap[k]?) → Tb w1

/-- Whether it is asked that no draw is taken back. -/
class Dn where
  p : Prop
variable [Dn]
/-- What lies below B is as it was. -/
structure Bel (B : Nat) (w w' : World) : Prop where
  os : w'.os = w.os
  tape : w'.tape = w.tape ∧ (Dn.p → w.drawn ≤ w'.drawn)
  output : w'.output = w.output
  size : w.heap.size ≤ w'.heap.size
  block : ∀ k, k < B → w'.heap[k]? = w.heap[k]?
theorem Bel.refl (B : Nat) (w : World) : Bel B w w := ⟨rfl, ⟨rfl, fun _ => Nat.le_refl _⟩, rfl, Nat.le_refl _, fun _ _ => rfl⟩
theorem Bel.trans {B : Nat} {a b c : World} (h : Bel B a b) (k : Bel B b c) : Bel B a c :=
  ⟨k.os.trans h.os, ⟨k.tape.1.trans h.tape.1, fun hd => Nat.le_trans (h.tape.2 hd) (k.tape.2 hd)⟩, k.output.trans h.output, Nat.le_trans h.size k.size, fun i hi => (k.block i hi).trans (h.block i hi)⟩
theorem Bel.mono {B B' : Nat} {w w' : World} (h : Bel B w w') (hB : B' ≤ B) : Bel B' w w' := ⟨h.os, h.tape, h.output, h.size, fun k hk => h.block k (Nat.lt_of_lt_of_le hk hB)⟩
structure Ext (lim : Nat) (φ : Phi) (I : Nat → Prop) (w : World) (φ' : Phi) (I' : Nat → Prop) (w' : World) : Prop where
  pre : φ <+: φ'
  I : ∀ k, I k → I' k
  old : ∀ k, k < w.heap.size → (∀ (b : Nat) (L : Loc), φ[b]? = some (some L) → L.k ≠ k) → w'.heap[k]? = w.heap[k]?
  lo : ∀ (b : Nat) (L : Loc), b < lim → φ[b]? = some (some L) → w'.heap[L.k]? = w.heap[L.k]?
  fresh : ∀ (b : Nat) (L : Loc), φ'[b]? = some (some L) → w.heap.size ≤ L.k ∨ ∃ (b0 : Nat) (L0 : Loc), φ[b0]? = some (some L0) ∧ L0.k = L.k
  os : w'.os = w.os
  tape : w'.tape = w.tape ∧ (Dn.p → w.drawn ≤ w'.drawn)
  output : w'.output = w.output
  size : w.heap.size ≤ w'.heap.size

theorem pre_get {φ φ' : Phi} (hp : φ <+: φ') {b : Nat} {o : Option Loc} (hb : φ[b]? = some o) : φ'[b]? = some o := by
  obtain ⟨r, rfl⟩ := hp
  rw [List.getElem?_append_left (List.getElem?_eq_some_iff.1 hb).1]
  exact hb

section
variable {P : Program} {lim : Nat} {φ φ' φ'' : Phi} {I I' I'' : Nat → Prop} {w w' w'' : World} {H H' : Heap}

theorem Ext.refl : Ext lim φ I w φ I w := ⟨List.prefix_refl _, fun _ h => h, fun _ _ _ => rfl, fun _ _ _ _ => rfl, fun b L h => .inr ⟨b, L, h, rfl⟩, rfl, ⟨rfl, fun _ => Nat.le_refl _⟩, rfl, Nat.le_refl _⟩

theorem Ext.trans (h : Ext lim φ I w φ' I' w') (g : Ext lim φ' I' w' φ'' I'' w'') : Ext lim φ I w φ'' I'' w'' where
  pre := h.pre.trans g.pre
  I := fun k hk => g.I k (h.I k hk)
  old := fun k hk hn => by
    rw [g.old k (Nat.lt_of_lt_of_le hk h.size) (fun b L hb e => ?_), h.old k hk hn]
    rcases h.fresh b L hb with h1 | ⟨b0, L0, h2, h3⟩
    · omega
    · exact hn b0 L0 h2 (h3.trans e)
  lo := fun b L hb hL => by rw [g.lo b L hb (pre_get h.pre hL), h.lo b L hb hL]
  fresh := fun b L hb => by
    rcases g.fresh b L hb with h1 | ⟨b0, L0, h2, h3⟩
    · exact .inl (Nat.le_trans h.size h1)
    · rcases h.fresh b0 L0 h2 with h4 | ⟨b1, L1, h5, h6⟩
      · exact .inl (by omega)
      · exact .inr ⟨b1, L1, h5, h6.trans h3⟩
  os := g.os.trans h.os
  tape := ⟨g.tape.1.trans h.tape.1, fun hd => Nat.le_trans (h.tape.2 hd) (g.tape.2 hd)⟩
  output := g.output.trans h.output
  size := Nat.le_trans h.size g.size

theorem Rel.tab_to (hR : Rel lim φ I w H) (hI : ∀ k, I k → I' k) (h : ∀ k, I k → w'.heap[k]? = w.heap[k]?) : ∀ w1 : World, (∀ k, I' k → w1.heap[k]? = w'.heap[k]?) → Tb w1 :=
  fun w1 g => hR.tab w1 fun k hk => (g k (hI k hk)).trans (h k hk)
theorem Rel.tab_here (hR : Rel lim φ I w H) : Tb w := hR.tab w fun _ _ => rfl

theorem Rel.keepI (hR : Rel lim φ I w H) (h : Ext lim φ I w φ' I' w') : ∀ k, I k → w'.heap[k]? = w.heap[k]? :=
  fun k hk => h.old k (hR.Ilt k hk) fun b L hb e => (hR.disj b L hb).1 (e ▸ hk)

theorem Den.ext (hR : Rel lim φ I w H) (h : Ext lim φ I w φ' I' w') {x : AV} {y : Value} (hd : Den φ I w x y) : Den φ' I' w' x y :=
  hd.mono h.pre h.I (hR.keepI h)

/-- Only draws have passed. -/
theorem Rel.drew (hR : Rel lim φ I w H) (n : Nat) : Rel lim φ I { w with drawn := n } H where
  len := hR.len
  tab := hR.tab
  limle := hR.limle
  blk := fun b k hk => by
    rcases hR.blk b k hk with h | ⟨L, C, T, h1, h2, h3, h5, h6⟩
    · exact .inl h
    · exact .inr ⟨L, C, T, h1, h2, h3, h5, fun j x hx => by obtain ⟨y, e1, e2⟩ := h6 j x hx; exact ⟨y, e1, Den.mono (w := w) (w' := { w with drawn := n }) (List.prefix_refl _) (fun _ h => h) (fun _ _ => rfl) e2⟩⟩
  disj := hR.disj
  inj := hR.inj
  sep := hR.sep
  Ilt := hR.Ilt
theorem Ext.drew (n : Nat) (hn : w.drawn ≤ n := by exact Nat.le_succ _) : Ext lim φ I w φ I { w with drawn := n } :=
  ⟨List.prefix_refl _, fun _ h => h, fun _ _ _ => rfl, fun _ _ _ _ => rfl, fun b L h => .inr ⟨b, L, h, rfl⟩, rfl, ⟨rfl, fun _ => hn⟩, rfl, Nat.le_refl _⟩

/-! ### Loads -/
theorem loadVar_sound {t : TypeId} {ty : Ty} (ht : tyOf P t = some ty) {l : List AV} {o : Nat} {r : AV} (h : partL ty l o = some r) (a : Addr) (ha : a.spot = none)
    (hc : ∀ (j : Nat) (x : AV), l[j]? = some x → ∃ y, w.cell? ⟨a.block, a.off + j, none⟩ = some y ∧ Den φ I w x y) :
    ∃ y, (∀ w' : World, (∀ p : Addr, p.block = a.block → w'.cell? p = w.cell? p) → (loadVar t ⟨a.block, a.off + o, none⟩).run P w' = .ok y w') ∧ Den φ I w r y := by
  unfold partL at h
  by_cases hag : ty.agg = true
  · simp only [hag, if_true] at h
    split at h
    · rename_i hl
      cases h
      have hf : ∀ j, ∃ y, j < ty.size → w.cell? ⟨a.block, a.off + o + j, none⟩ = some y ∧ ∀ x, l[o + j]? = some x → Den φ I w x y := by
        intro j
        by_cases hj : j < ty.size
        · have hx : l[o + j]? = some (l[o + j]'(by omega)) := List.getElem?_eq_getElem _
          obtain ⟨y, h1, h2⟩ := hc (o + j) _ hx
          exact ⟨y, fun _ => ⟨by rw [Nat.add_assoc]; exact h1, fun x hx' => by rw [hx] at hx'; cases hx'; exact h2⟩⟩
        · exact ⟨undef, fun hh => absurd hh hj⟩
      let Y := fun j => Classical.choose (hf j)
      have hY : ∀ j, j < ty.size → w.cell? ⟨a.block, a.off + o + j, none⟩ = some (Y j) ∧ ∀ x, l[o + j]? = some x → Den φ I w x (Y j) := fun j hj => Classical.choose_spec (hf j) hj
      refine ⟨.agg ((List.range ty.size).map Y).toArray, fun w' hw' => ?_, .agg _ _ (by simp; omega) fun j x y hx hy => ?_⟩
      · have := run_loadCells (P := P) w' ⟨a.block, a.off + o, none⟩ ty.size Y (fun j hj => by rw [addr_add _ _ rfl, hw' ⟨a.block, a.off + o + j, none⟩ rfl]; exact (hY j hj).1)
        simp [loadVar, run_isAgg ht, hag, run_sizeOf ht, this]
      · rw [List.getElem?_take] at hx
        split at hx
        · rename_i hj
          rw [List.getElem?_drop] at hx
          simp [hj] at hy
          subst hy
          exact (hY j hj).2 x hx
        · cases hx
    · cases h
  · simp only [hag] at h
    obtain ⟨y, h1, h2⟩ := hc o r h
    refine ⟨y, fun w' hw' => ?_, h2⟩
    simp [loadVar, run_isAgg ht, hag, hw' ⟨a.block, a.off + o, none⟩ rfl, h1]

theorem load_sound (hR : Rel lim φ I w H) {t : TypeId} {x r : AV} (h : loadV P H t x = some r) {vx : Value} (hx : Den φ I w x vx) :
    ∃ y, (∀ w' : World, (∀ k, k < w.heap.size → w'.heap[k]? = w.heap[k]?) → (Instr.loadAt t vx).run P w' = .ok y w') ∧ Den φ I w r y := by
  unfold loadV at h
  split at h
  · rename_i ty b o ht
    split at h
    · rename_i k hk
      cases hx with
      | ptr b o L hL =>
        rcases hR.blk b k hk with ⟨h1, h2⟩ | ⟨L', C, T, h1, h2, h3, h5, h6⟩
        · rw [hL] at h1; cases h1
        · rw [hL] at h1; cases h1
          obtain ⟨y, e1, e2⟩ := loadVar_sound (P := P) (w := w) (φ := φ) (I := I) ht h ⟨L.k, L.base, none⟩ rfl (fun j x hj => by
            obtain ⟨y, g1, g2⟩ := h6 j x hj
            exact ⟨y, by rw [cell_of_row w L.k _ C T _ h2]; exact g1, g2⟩)
          refine ⟨y, fun w' hw' => ?_, e2⟩
          have := e1 w' (fun p hp => World.cell?_of_block (w := w) (w' := w') (a := p) (by rw [hp]; exact hw' _ (hR.disj b L hL).2))
          simpa [Instr.loadAt, Instr.sureAddr] using this
    · cases h
  · rename_i ty l o ht
    cases hx with
    | ele l o a Y ha hI hY hD =>
      obtain ⟨y, e1, e2⟩ := loadVar_sound (P := P) (w := w) (φ := φ) (I := I) ht h a ha (fun j x hj => ⟨Y j, hY j x hj, hD j x hj⟩)
      refine ⟨y, fun w' hw' => ?_, e2⟩
      have := e1 w' (fun p hp => World.cell?_of_block (w := w) (w' := w') (a := p) (by rw [hp]; exact hw' _ (hR.Ilt _ hI)))
      simpa [Instr.loadAt, Instr.sureAddr] using this
  · cases h

/-! ### New blocks -/
theorem hget_append_old {H : Heap} {x : Option Blk} {b : Nat} (hb : b < H.length) : hget (H ++ [x]) b = hget H b := by
  simp [hget, List.getElem?_append_left hb]
theorem hget_append_new {H : Heap} {x : Option Blk} : hget (H ++ [x]) H.length = x := by simp [hget]
theorem alloc_sound (hR : Rel lim φ I w H) {C : Array Value} {T : TypeId} {cells : List AV} (hc : CellsOK φ I w C 0 cells)
    {w' : World} (hh : w'.heap = w.heap.push (.cells C T)) (e1 : w'.os = w.os) (e2 : w'.tape = w.tape ∧ (Dn.p → w.drawn ≤ w'.drawn)) (e3 : w'.output = w.output) :
    Rel lim (φ ++ [some ⟨w.heap.size, 0, C.size⟩]) I w' (H ++ [some cells]) ∧ Ext lim φ I w (φ ++ [some ⟨w.heap.size, 0, C.size⟩]) I w' := by
  have hold : ∀ k, k < w.heap.size → w'.heap[k]? = w.heap[k]? := fun k hk => by rw [hh, Array.getElem?_push, if_neg (by omega)]
  have hext : Ext lim φ I w (φ ++ [some ⟨w.heap.size, 0, C.size⟩]) I w' := by
    refine ⟨List.prefix_append _ _, fun _ h => h, fun k hk _ => hold k hk, fun b L hb hL => hold _ (hR.disj b L hL).2, fun b L hb => ?_, e1, e2, e3, by rw [hh]; simp⟩
    rcases Nat.lt_or_ge b φ.length with h | h
    · rw [List.getElem?_append_left h] at hb
      exact .inr ⟨b, L, hb, rfl⟩
    · rw [List.getElem?_append_right h] at hb
      have : b - φ.length = 0 := by
        rcases Nat.eq_zero_or_pos (b - φ.length) with h0 | h0
        · exact h0
        · rw [List.getElem?_eq_none (by simp; omega)] at hb; cases hb
      rw [this] at hb
      simp at hb
      exact .inl (by rw [← hb]; exact Nat.le_refl _)
  have hnew : (φ ++ [some ⟨w.heap.size, 0, C.size⟩])[φ.length]? = some (some ⟨w.heap.size, 0, C.size⟩) := by simp
  have hcase : ∀ (b : Nat) (L : Loc), (φ ++ [some ⟨w.heap.size, 0, C.size⟩])[b]? = some (some L) → (φ[b]? = some (some L)) ∨ (b = φ.length ∧ L = ⟨w.heap.size, 0, C.size⟩) := by
    intro b L hb
    rcases Nat.lt_or_ge b φ.length with h | h
    · rw [List.getElem?_append_left h] at hb
      exact .inl hb
    · rw [List.getElem?_append_right h] at hb
      have : b - φ.length = 0 := by
        rcases Nat.eq_zero_or_pos (b - φ.length) with h0 | h0
        · exact h0
        · rw [List.getElem?_eq_none (by simp; omega)] at hb; cases hb
      rw [this] at hb
      simp at hb
      exact .inr ⟨by omega, hb.symm⟩
  have hcell : ∀ {C' : Array Value} {base : Nat} {cs : List AV}, CellsOK φ I w C' base cs → CellsOK (φ ++ [some ⟨w.heap.size, 0, C.size⟩]) I w' C' base cs :=
    fun h => ⟨h.1, fun j x hx => by obtain ⟨y, g1, g2⟩ := h.2 j x hx; exact ⟨y, g1, g2.ext hR hext⟩⟩
  refine ⟨⟨by simp [hR.len], by simp; have := hR.limle; omega, fun b k hk => ?_, fun b L hb => ?_, fun b b' k k' L L' hk hk' hL hL' he => ?_, fun b b' L L' hb hb' hL hL' => ?_, fun k hk => ?_, hR.tab_to (fun _ h => h) (hR.keepI hext)⟩, hext⟩
  · rcases Nat.lt_or_ge b H.length with hb | hb
    · rw [hget_append_old hb] at hk
      rcases hR.blk b k hk with ⟨h1, h2⟩ | ⟨L, C', T', h1, h2, h3, h5⟩
      · exact .inl ⟨pre_get hext.pre h1, h2⟩
      · exact .inr ⟨L, C', T', pre_get hext.pre h1, by rw [hold _ (hR.disj b L h1).2]; exact h2, h3, hcell h5⟩
    · have : b = H.length := by have := hget_lt hk; simp at this; omega
      subst this
      rw [hget_append_new] at hk
      cases hk
      exact .inr ⟨_, C, T, by rw [← hR.len]; exact hnew, by rw [hh]; simp, rfl, hcell hc⟩
  · rcases hcase b L hb with h | ⟨h1, h2⟩
    · have := hR.disj b L h
      exact ⟨this.1, by rw [hh]; simp; omega⟩
    · subst h2
      exact ⟨fun hi => by have := hR.Ilt _ hi; simp at this, by rw [hh]; simp⟩
  · rcases hcase b L hL with h | ⟨h1, h2⟩ <;> rcases hcase b' L' hL' with h' | ⟨h1', h2'⟩
    · have l1 : b < H.length := by rw [← hR.len]; exact (List.getElem?_eq_some_iff.1 h).1
      have l2 : b' < H.length := by rw [← hR.len]; exact (List.getElem?_eq_some_iff.1 h').1
      rw [hget_append_old l1] at hk
      rw [hget_append_old l2] at hk'
      exact hR.inj b b' k k' L L' hk hk' h h' he
    · have := (hR.disj b L h).2; subst h2'; simp at he; omega
    · have := (hR.disj b' L' h').2; subst h2; simp at he; omega
    · omega
  · rcases hcase b' L' hL' with h' | ⟨h1', h2'⟩
    · rcases hcase b L hL with h | ⟨h1, h2⟩
      · exact hR.sep b b' L L' hb hb' h h'
      · have := hR.limle; have := hR.len; omega
    · rcases hcase b L hL with h | ⟨h1, h2⟩
      · have := (hR.disj b L h).2; subst h2'; simp; omega
      · have := hR.limle; have := hR.len; omega
  · have := hR.Ilt k hk; rw [hh]; simp; omega

end
end Go.Am
end
